import Derived.Test.YtiidnnpanickaaaGreatDoorZcSumGe
/- What the claim of FnExactPlusNumberCard needs of: NumOrd NumMove NumFits. -/
namespace Go.Proofs.YtiidnnpanickaaaGreatDoor
set_option linter.unusedVariables false
set_option linter.unusedSimpArgs false
open Go.RowKit
theorem nr_up (s:Int) (P:Nat):nr (2 * s) (P + 1)=nr s P:=by
  rw [nr_even (by omega),show 2 * s / 2=s from by omega]
theorem nr_level (s:Int) (P k:Nat):nr (s * 2 ^ k) (P + k)=nr s P:=by
  unfold nr
  rw [redT_scale]
theorem int_left {s:Int} {l:Nat} (h:hasL (intC s) l):0 < s∧l=intC (s - 1):=by
  by_cases h0:s=0
  · subst h0;exact absurd h (zeroL l)
  · by_cases hp : 0 < s
    · rw [intC_pos hp, hasL_mk] at h
      exact ⟨hp,List.mem_singleton.1 h⟩
    · rw [intC_neg (by omega), hasL_mk] at h
      simp at h
theorem int_right {s:Int} {r:Nat} (h:hasR (intC s) r):s < 0∧r=intC (s + 1):=by
  by_cases h0:s=0
  · subst h0;exact absurd h (zeroR r)
  · by_cases hp : 0 < s
    · rw [intC_pos hp, hasR_mk] at h
      simp at h
    · rw [intC_neg (by omega), hasR_mk] at h
      exact ⟨by omega,List.mem_singleton.1 h⟩
theorem int_hasL {s:Int} (h:0 < s):hasL (intC s) (intC (s - 1)):=by rw [intC_pos h,hasL_mk];simp
theorem int_hasR {s:Int} (h:s < 0):hasR (intC s) (intC (s + 1)):=by rw [intC_neg h,hasR_mk];simp
theorem nr_left:∀ (P:Nat) (s:Int) (l:Nat),hasL (nr s P) l→∃ v,v < s∧l=nr v P:=by
  intro P
  induction P with
  | zero =>
    intro s l h
    rw [nr_int] at h
    obtain ⟨_,e⟩:=int_left h
    exact ⟨s - 1,by omega,by rw [nr_int];exact e⟩
  | succ P ih =>
    intro s l h
    by_cases he:s % 2=0
    · rw [nr_even he] at h
      obtain ⟨v,hv,e⟩:=ih _ _ h
      exact ⟨2 * v,by omega,by rw [nr_up];exact e⟩
    · rw [nr_odd he, hasL_mk] at h
      exact ⟨s - 1,by omega,by rw [nr_even (by omega)];exact List.mem_singleton.1 h⟩
theorem nr_right:∀ (P:Nat) (s:Int) (r:Nat),hasR (nr s P) r→∃ v,s < v∧r=nr v P:=by
  intro P
  induction P with
  | zero =>
    intro s l h
    rw [nr_int] at h
    obtain ⟨_,e⟩:=int_right h
    exact ⟨s + 1,by omega,by rw [nr_int];exact e⟩
  | succ P ih =>
    intro s l h
    by_cases he:s % 2=0
    · rw [nr_even he] at h
      obtain ⟨v,hv,e⟩:=ih _ _ h
      exact ⟨2 * v,by omega,by rw [nr_up];exact e⟩
    · rw [nr_odd he, hasR_mk] at h
      exact ⟨s + 1,by omega,by rw [nr_even (by omega)];exact List.mem_singleton.1 h⟩
theorem nr_oddL {s:Int} {P:Nat} (h:s % 2≠0):hasL (nr s (P + 1)) (nr (s - 1) (P + 1)):=by
  rw [nr_odd h,hasL_mk,nr_even (by omega)];simp
theorem nr_oddR {s:Int} {P:Nat} (h:s % 2≠0):hasR (nr s (P + 1)) (nr (s + 1) (P + 1)):=by
  rw [nr_odd h,hasR_mk,nr_even (by omega)];simp
theorem nr_between:∀ (P:Nat) (s t:Int),s < t→(∃ v,s≤v∧v < t∧hasL (nr t P) (nr v P))∨∃ v,s < v∧v≤t∧hasR (nr s P) (nr v P):=by
  intro P
  induction P with
  | zero =>
    intro s t h
    by_cases ht:0 < t
    · exact .inl ⟨t - 1,by omega,by omega,by rw [nr_int,nr_int];exact int_hasL ht⟩
    · exact .inr ⟨s + 1,by omega,by omega,by rw [nr_int,nr_int];exact int_hasR (by omega)⟩
  | succ P ih =>
    intro s t h
    by_cases ht:t % 2=0
    · by_cases hs : s % 2 = 0
      · rw [nr_even ht, nr_even hs]
        rcases ih (s / 2) (t / 2) (by omega) with ⟨v,h1,h2,h3⟩ | ⟨v,h1,h2,h3⟩
        · exact .inl ⟨2 * v,by omega,by omega,by rw [nr_up];exact h3⟩
        · exact .inr ⟨2 * v,by omega,by omega,by rw [nr_up];exact h3⟩
      · exact .inr ⟨s + 1,by omega,by omega,nr_oddR hs⟩
    · exact .inl ⟨t - 1,by omega,by omega,nr_oddL ht⟩
theorem nr_ge' (P n:Nat):∀ s t:Int,nr s P + nr t P < n→(t≤s→geC (nr s P) (nr t P)=true)∧(s < t→geC (nr s P) (nr t P)=false):=by
  induction n with
  | zero=>intro s t h;omega
  | succ n ih =>
    intro s t hn
    refine ⟨fun h=>ge_intro (fun r hr=>?_) fun l hl=>?_,fun h=>?_⟩
    · have hlt := optC_lt (.inr hr)
      obtain ⟨v,hv,rfl⟩:=nr_right _ _ _ hr
      exact (ih t v (by omega)).2 (by omega)
    · have hlt := optC_lt (.inl hl)
      obtain ⟨v,hv,rfl⟩:=nr_left _ _ _ hl
      exact (ih v s (by omega)).2 (by omega)
    · cases e : geC (nr s P) (nr t P) with
      | false=>rfl
      | true =>
        rcases nr_between P s t h with ⟨v,h1,h2,h3⟩ | ⟨v,h1,h2,h3⟩
        · have hlt := optC_lt (.inl h3)
          have:=(ih v s (by omega)).1 h1
          rw [ge_left e h3] at this;cases this
        · have hlt := optC_lt (.inr h3)
          have:=(ih t v (by omega)).1 h2
          rw [ge_right e h3] at this;cases this
theorem nr_ge {s t:Int} {P:Nat} (h:t≤s):geC (nr s P) (nr t P)=true:=(nr_ge' P _ s t (Nat.lt_succ_self _)).1 h
theorem nr_lt {s t:Int} {P:Nat} (h:s < t):geC (nr s P) (nr t P)=false:=(nr_ge' P _ s t (Nat.lt_succ_self _)).2 h
theorem nr_le_of {s t:Int} {P:Nat} (h:geC (nr s P) (nr t P)=true):t≤s:=by
  refine Int.not_lt.1 fun q=>?_
  rw [nr_lt q] at h;cases h
def EqC (a b:Nat):Prop:=geC a b=true∧geC b a=true
theorem EqC.can {a b:Nat} (h:EqC a b):canC a=canC b:=can_same.2 h
theorem eqC_can (a:Nat):EqC (canC a) a:=⟨(can_is a).2.1,(can_is a).2.2⟩
theorem EqC.r {a b:Nat} (h:EqC a b) (z:Nat):geC z a=geC z b:=(ge_same h.1 h.2 z).1
theorem EqC.l {a b:Nat} (h:EqC a b) (z:Nat):geC a z=geC b z:=(ge_same h.1 h.2 z).2
theorem sum_lt {x y:Nat} (z:Nat) (h:geC x y=false):geC (sumC x z) (sumC y z)=false:=(sum_ge' _ x y z (Nat.lt_succ_self _)).2 h
theorem sum_cut (x y z:Nat):geC (sumC x z) (sumC y z)=geC x y:=by
  cases h:geC x y with
  | true=>exact sum_ge z h
  | false=>exact sum_lt z h
theorem nr_sumL:∀ (P:Nat) (s t:Int) (l:Nat),hasL (nr (s + t) P) l→∃ v,l=nr v P∧((∃ u,hasL (nr s P) (nr u P)∧v≤u + t)∨∃ u,hasL (nr t P) (nr u P)∧v≤s + u):=by
  intro P
  induction P with
  | zero =>
    intro s t l h
    rw [nr_int] at h
    obtain ⟨hp,e⟩:=int_left h
    refine ⟨s + t - 1,by rw [nr_int];exact e,?_⟩
    by_cases hs:0 < s
    · exact .inl ⟨s - 1,by rw [nr_int,nr_int];exact int_hasL hs,by omega⟩
    · exact .inr ⟨t - 1,by rw [nr_int,nr_int];exact int_hasL (by omega),by omega⟩
  | succ P ih =>
    intro s t l h
    by_cases hs:s % 2=0
    · by_cases ht : t % 2 = 0
      · rw [nr_even (by omega), show (s + t) / 2 = s / 2 + t / 2 from by omega] at h
        obtain ⟨v,e,hv⟩:=ih _ _ _ h
        refine ⟨2 * v,by rw [nr_up];exact e,?_⟩
        rw [nr_even hs,nr_even ht]
        rcases hv with ⟨u,h1,h2⟩ | ⟨u,h1,h2⟩
        · exact .inl ⟨2 * u,by rw [nr_up];exact h1,by omega⟩
        · exact .inr ⟨2 * u,by rw [nr_up];exact h1,by omega⟩
      · obtain ⟨v, hv, e⟩ := nr_left _ _ _ h
        exact ⟨v,e,.inr ⟨t - 1,nr_oddL ht,by omega⟩⟩
    · obtain ⟨v, hv, e⟩ := nr_left _ _ _ h
      exact ⟨v,e,.inl ⟨s - 1,nr_oddL hs,by omega⟩⟩
theorem nr_sumR:∀ (P:Nat) (s t:Int) (l:Nat),hasR (nr (s + t) P) l→∃ v,l=nr v P∧((∃ u,hasR (nr s P) (nr u P)∧u + t≤v)∨∃ u,hasR (nr t P) (nr u P)∧s + u≤v):=by
  intro P
  induction P with
  | zero =>
    intro s t l h
    rw [nr_int] at h
    obtain ⟨hp,e⟩:=int_right h
    refine ⟨s + t + 1,by rw [nr_int];exact e,?_⟩
    by_cases hs:s < 0
    · exact .inl ⟨s + 1,by rw [nr_int,nr_int];exact int_hasR hs,by omega⟩
    · exact .inr ⟨t + 1,by rw [nr_int,nr_int];exact int_hasR (by omega),by omega⟩
  | succ P ih =>
    intro s t l h
    by_cases hs:s % 2=0
    · by_cases ht : t % 2 = 0
      · rw [nr_even (by omega), show (s + t) / 2 = s / 2 + t / 2 from by omega] at h
        obtain ⟨v,e,hv⟩:=ih _ _ _ h
        refine ⟨2 * v,by rw [nr_up];exact e,?_⟩
        rw [nr_even hs,nr_even ht]
        rcases hv with ⟨u,h1,h2⟩ | ⟨u,h1,h2⟩
        · exact .inl ⟨2 * u,by rw [nr_up];exact h1,by omega⟩
        · exact .inr ⟨2 * u,by rw [nr_up];exact h1,by omega⟩
      · obtain ⟨v, hv, e⟩ := nr_right _ _ _ h
        exact ⟨v,e,.inr ⟨t + 1,nr_oddR ht,by omega⟩⟩
    · obtain ⟨v, hv, e⟩ := nr_right _ _ _ h
      exact ⟨v,e,.inl ⟨s + 1,nr_oddR hs,by omega⟩⟩
theorem nr_sum' (P n:Nat):∀ s t:Int,nr s P + nr t P < n→EqC (sumC (nr s P) (nr t P)) (nr (s + t) P):=by
  induction n with
  | zero=>intro s t h;omega
  | succ n ih =>
    intro s t hn
    constructor
    · refine ge_intro (fun r hr => ?_) fun l hl => ?_
      · rcases (hasR_sum _ _ r).1 hr with ⟨b, hb, rfl⟩ | ⟨b, hb, rfl⟩
        · have hlt := optC_lt (.inr hb)
          obtain ⟨v,hv,rfl⟩:=nr_right _ _ _ hb
          rw [(ih v t (by omega)).r]
          exact nr_lt (by omega)
        · have hlt := optC_lt (.inr hb)
          obtain ⟨v,hv,rfl⟩:=nr_right _ _ _ hb
          rw [(ih s v (by omega)).r]
          exact nr_lt (by omega)
      · obtain ⟨v, rfl, ⟨u, hu, hv⟩ | ⟨u, hu, hv⟩⟩ := nr_sumL P s t l hl
        · have hlt := optC_lt (.inl hu)
          have h1:geC (sumC (nr u P) (nr t P)) (nr v P)=true:=by rw [(ih u t (by omega)).l];exact nr_ge hv
          exact not_ge_of_le h1 (opt_left ((hasL_sum _ _ _).2 (.inl ⟨_,hu,rfl⟩)))
        · have hlt := optC_lt (.inl hu)
          have h1:geC (sumC (nr s P) (nr u P)) (nr v P)=true:=by rw [(ih s u (by omega)).l];exact nr_ge hv
          exact not_ge_of_le h1 (opt_left ((hasL_sum _ _ _).2 (.inr ⟨_,hu,rfl⟩)))
    · refine ge_intro (fun r hr => ?_) fun l hl => ?_
      · obtain ⟨v, rfl, ⟨u, hu, hv⟩ | ⟨u, hu, hv⟩⟩ := nr_sumR P s t r hr
        · have hlt := optC_lt (.inr hu)
          have h1:geC (nr v P) (sumC (nr u P) (nr t P))=true:=by rw [(ih u t (by omega)).r];exact nr_ge hv
          exact not_ge_of_ge h1 (opt_right ((hasR_sum _ _ _).2 (.inl ⟨_,hu,rfl⟩)))
        · have hlt := optC_lt (.inr hu)
          have h1:geC (nr v P) (sumC (nr s P) (nr u P))=true:=by rw [(ih s u (by omega)).r];exact nr_ge hv
          exact not_ge_of_ge h1 (opt_right ((hasR_sum _ _ _).2 (.inr ⟨_,hu,rfl⟩)))
      · rcases (hasL_sum _ _ l).1 hl with ⟨b, hb, rfl⟩ | ⟨b, hb, rfl⟩
        · have hlt := optC_lt (.inl hb)
          obtain ⟨v,hv,rfl⟩:=nr_left _ _ _ hb
          rw [(ih v t (by omega)).l]
          exact nr_lt (by omega)
        · have hlt := optC_lt (.inl hb)
          obtain ⟨v,hv,rfl⟩:=nr_left _ _ _ hb
          rw [(ih s v (by omega)).l]
          exact nr_lt (by omega)
theorem nr_sum (s t:Int) (P:Nat):EqC (sumC (nr s P) (nr t P)) (nr (s + t) P):=nr_sum' P _ s t (Nat.lt_succ_self _)
theorem can_nr1 (s:Int) (P:Nat):CanC1 (nr s P):=by
  have uniq:∀ (P:Nat) (s:Int),(∀ l l',hasL (nr s P) l→hasL (nr s P) l'→l=l')∧∀ l l',hasR (nr s P) l→hasR (nr s P) l'→l=l':=by
    intro P
    induction P with
    | zero =>
      intro s
      rw [nr_int]
      exact ⟨fun l l' h h'=>by rw [(int_left h).2,(int_left h').2],fun l l' h h'=>by rw [(int_right h).2,(int_right h').2]⟩
    | succ P ih =>
      intro s
      by_cases he:s % 2=0
      · rw [nr_even he];exact ih _
      · rw [nr_odd he]
        refine ⟨fun l l' h h'=>?_,fun l l' h h'=>?_⟩
        · rw [hasL_mk] at h h'
          rw [List.mem_singleton.1 h,List.mem_singleton.1 h']
        · rw [hasR_mk] at h h'
          rw [List.mem_singleton.1 h,List.mem_singleton.1 h']
  have rev:∀ (P:Nat) (s:Int),(∀ l r,hasL (nr s P) l→hasR l r→geC (nr s P) r=false)∧∀ r l,hasR (nr s P) r→hasL r l→geC l (nr s P)=false:=by
    intro P
    induction P with
    | zero =>
      intro s
      rw [nr_int]
      refine ⟨fun l r h h'=>?_,fun l r h h'=>?_⟩
      · obtain ⟨h1, rfl⟩ := int_left h
        have:=(int_right h').1
        omega
      · obtain ⟨h1, rfl⟩ := int_right h
        have:=(int_left h').1
        omega
    | succ P ih =>
      intro s
      by_cases he:s % 2=0
      · rw [nr_even he];exact ih _
      · refine ⟨fun l r h h' => ?_, fun l r h h' => ?_⟩
        · rw [nr_odd he, hasL_mk] at h
          rw [List.mem_singleton.1 h] at h'
          obtain ⟨v,hv,rfl⟩:=nr_right _ _ _ h'
          rw [← nr_up v P]
          exact nr_lt (by omega)
        · rw [nr_odd he, hasR_mk] at h
          rw [List.mem_singleton.1 h] at h'
          obtain ⟨v,hv,rfl⟩:=nr_left _ _ _ h'
          rw [← nr_up v P]
          exact nr_lt (by omega)
  exact ⟨fun l l' h h' _=>(uniq P s).1 _ _ h' h,fun l l' h h' _=>(uniq P s).2 _ _ h' h,(rev P s).1,(rev P s).2⟩
theorem nr_one (s:Int) (P:Nat):(∀ l l',hasL (nr s P) l→hasL (nr s P) l'→l=l')∧∀ l l',hasR (nr s P) l→hasR (nr s P) l'→l=l':=by
  have h:=can_nr1 s P
  refine ⟨fun l l' a b=>?_,fun l l' a b=>?_⟩
  · obtain ⟨v, _, rfl⟩ := nr_left _ _ _ a
    obtain ⟨v',_,rfl⟩:=nr_left _ _ _ b
    by_cases e:v'≤v
    · exact h.domL _ _ b a (nr_ge e)
    · exact (h.domL _ _ a b (nr_ge (by omega))).symm
  · obtain ⟨v, _, rfl⟩ := nr_right _ _ _ a
    obtain ⟨v',_,rfl⟩:=nr_right _ _ _ b
    by_cases e:v≤v'
    · exact h.domR _ _ b a (nr_ge e)
    · exact (h.domR _ _ a b (nr_ge (by omega))).symm
theorem nr_sub {s:Int} {P x:Nat} (h:SubC (nr s P) x):∃ v,x=nr v P:=by
  induction h with
  | root=>exact ⟨s,rfl⟩
  | step _ ho ih =>
    obtain ⟨v,rfl⟩:=ih
    rcases ho with h | h
    · obtain ⟨u,_,e⟩:=nr_left _ _ _ h;exact ⟨u,e⟩
    · obtain ⟨u,_,e⟩:=nr_right _ _ _ h;exact ⟨u,e⟩
theorem can_nr (s:Int) (P:Nat):CanC (nr s P):=fun x hx=>by
  obtain ⟨v,rfl⟩:=nr_sub hx
  exact can_nr1 v P
def IsNum (G:Nat):Prop:=∃ (P:Nat) (s:Int),EqC G (nr s P)
theorem IsNum.can {c:Nat} (h:IsNum c) (hc:CanC c):∃ (P:Nat) (s:Int),c=nr s P:=by
  obtain ⟨P,s,k⟩:=h
  exact ⟨P,s,can_one hc (can_nr s P) k.1 k.2⟩
theorem num_fit (P:Nat) {G:Nat}:∀ (n:Nat) (s:Int),nr s P < n→(∀ l,hasL G l→geC l (nr s P)=false)→(∀ r,hasR G r→geC (nr s P) r=false)→IsNum G:=by
  intro n
  induction n with
  | zero=>intro s h;omega
  | succ n ih =>
    intro s hn hl hr
    cases h1:geC (nr s P) G with
    | false =>
      rcases ge_not h1 with ⟨r,h,e⟩ | ⟨l,h,e⟩
      · have hlt := optC_lt (.inr h)
        obtain ⟨v,hv,rfl⟩:=nr_right _ _ _ h
        refine ih v (by omega) (fun l h'=>?_) fun r h'=>?_
        · cases q : geC l (nr v P) with
          | false=>rfl
          | true =>
            have:=ge_trans q (nr_ge (s:=v) (t:=s) (P:=P) (by omega))
            rw [hl l h'] at this;cases this
        · cases q : geC (nr v P) r with
          | false=>rfl
          | true =>
            have:=ge_trans e q
            rw [opt_right h'] at this;cases this
      · rw [hl l h] at e;cases e
    | true =>
      cases h2:geC G (nr s P) with
      | true=>exact ⟨P,s,h2,h1⟩
      | false =>
        rcases ge_not h2 with ⟨r,h,e⟩ | ⟨l,h,e⟩
        · rw [hr r h] at e;cases e
        · have hlt := optC_lt (.inl h)
          obtain ⟨v,hv,rfl⟩:=nr_left _ _ _ h
          refine ih v (by omega) (fun l h'=>?_) fun r h'=>?_
          · cases q : geC l (nr v P) with
            | false=>rfl
            | true =>
              have:=ge_trans q e
              rw [opt_left h'] at this;cases this
          · cases q : geC (nr v P) r with
            | false=>rfl
            | true =>
              have:=ge_trans (nr_ge (s:=s) (t:=v) (P:=P) (by omega)) q
              rw [hr r h'] at this;cases this
theorem num_cutL {G:Nat} (hG:¬ IsNum G) (P:Nat) (s:Int):(∃ l,hasL G l∧geC l (nr s P)=true)∨geC (nr s P) G=true:=by
  by_cases h:∃ l,hasL G l∧geC l (nr s P)=true
  · exact .inl h
  · have hl : ∀ l, hasL G l → geC l (nr s P) = false := fun l hl => by
      cases q:geC l (nr s P) with
      | false=>rfl
      | true=>exact absurd ⟨l,hl,q⟩ h
    refine .inr (ge_intro (fun x hx=>?_) hl)
    cases q:geC G x with
    | false=>rfl
    | true =>
      obtain ⟨v,hv,rfl⟩:=nr_right _ _ _ hx
      refine absurd (num_fit P _ s (Nat.lt_succ_self _) hl fun r hr=>?_) hG
      cases q':geC (nr s P) r with
      | false=>rfl
      | true =>
        have:=ge_trans (ge_trans q (nr_ge (s:=v) (t:=s) (P:=P) (by omega))) q'
        rw [opt_right hr] at this;cases this
theorem num_cutR {G:Nat} (hG:¬ IsNum G) (P:Nat) (s:Int):(∃ r,hasR G r∧geC (nr s P) r=true)∨geC G (nr s P)=true:=by
  by_cases h:∃ r,hasR G r∧geC (nr s P) r=true
  · exact .inl h
  · have hr : ∀ r, hasR G r → geC (nr s P) r = false := fun l hl => by
      cases q:geC (nr s P) l with
      | false=>rfl
      | true=>exact absurd ⟨l,hl,q⟩ h
    refine .inr (ge_intro hr (fun x hx=>?_))
    cases q:geC x G with
    | false=>rfl
    | true =>
      obtain ⟨v,hv,rfl⟩:=nr_left _ _ _ hx
      refine absurd (num_fit P _ s (Nat.lt_succ_self _) (fun l hl=>?_) hr) hG
      cases q':geC l (nr s P) with
      | false=>rfl
      | true =>
        have:=ge_trans q' (ge_trans (nr_ge (s:=s) (t:=v) (P:=P) (by omega)) q)
        rw [opt_left hl] at this;cases this
theorem num_above (G:Nat):∀ m:Nat,G≤m→geC (posC m) G=true:=by
  induction G using Nat.strongRecOn with
  | _ G ih =>
    intro m hm
    refine ge_intro (fun r hr=>?_) fun l hl=>?_
    · rw [← intC_nat] at hr
      have:=(int_right hr).1
      omega
    · have hlt := optC_lt (.inl hl)
      obtain ⟨k,rfl⟩:∃ k,m=k + 1:=⟨m - 1,by omega⟩
      exact not_ge_of_le (ih l hlt k (by omega)) (opt_left (show hasL (mkC [posC k] []) (posC k) from by rw [hasL_mk];simp))
theorem num_below (G:Nat):∀ m:Nat,G≤m→geC G (negIC m)=true:=by
  induction G using Nat.strongRecOn with
  | _ G ih =>
    intro m hm
    refine ge_intro (fun r hr=>?_) fun l hl=>?_
    · have hlt := optC_lt (.inr hr)
      obtain ⟨k,rfl⟩:∃ k,m=k + 1:=⟨m - 1,by omega⟩
      exact not_ge_of_ge (ih r hlt k (by omega)) (opt_right (show hasR (mkC [] [negIC k]) (negIC k) from by rw [hasR_mk];simp))
    · rw [← intC_negn] at hl
      have:=(int_left hl).1
      omega
theorem nr_whole (m:Int) (P:Nat):nr (m * 2 ^ P) P=intC m:=by
  have h:=nr_level m 0 P
  rw [Nat.zero_add] at h
  rw [h,nr_int]
theorem num_edgeL {G:Nat} (hG:¬ IsNum G) (P:Nat):∃ (u:Int) (l:Nat),hasL G l∧geC l (nr u P)=true∧geC (nr (u + 1) P) G=true:=by
  have key:∀ (k:Nat) (u:Int),(G:Int) * 2 ^ P≤u + k→(∃ l,hasL G l∧geC l (nr u P)=true)→∃ (u:Int) (l:Nat),hasL G l∧geC l (nr u P)=true∧geC (nr (u + 1) P) G=true:=by
    intro k
    induction k with
    | zero =>
      rintro u hu ⟨l,hl,e⟩
      have h1:geC (nr u P) (nr ((G:Int) * 2 ^ P) P)=true:=nr_ge (by omega)
      rw [nr_whole,intC_nat] at h1
      have:=ge_trans (ge_trans e h1) (num_above G G (Nat.le_refl _))
      rw [opt_left hl] at this;cases this
    | succ k ih =>
      rintro u hu ⟨l,hl,e⟩
      rcases num_cutL hG P (u + 1) with h | h
      · exact ih (u + 1) (by omega) h
      · exact ⟨u,l,hl,e,h⟩
  obtain ⟨hi,hhi⟩:∃ hi:Int,hi=(G:Int) * 2 ^ P:=⟨_,rfl⟩
  obtain ⟨lo,hlo⟩:∃ lo:Int,lo=-(G:Int) * 2 ^ P - 1:=⟨_,rfl⟩
  refine key (hi - lo).toNat lo (by omega) ((num_cutL hG P lo).resolve_right fun h=>?_)
  have h1:=ge_trans h (num_below G G (Nat.le_refl _))
  rw [← intC_negn,← nr_whole (-(G:Int)) P] at h1
  have:=nr_le_of h1
  omega
theorem num_edgeR {G:Nat} (hG:¬ IsNum G) (P:Nat):∃ (u:Int) (r:Nat),hasR G r∧geC (nr u P) r=true∧geC G (nr (u - 1) P)=true:=by
  have key:∀ (k:Nat) (u:Int),u - k≤-(G:Int) * 2 ^ P→(∃ r,hasR G r∧geC (nr u P) r=true)→∃ (u:Int) (r:Nat),hasR G r∧geC (nr u P) r=true∧geC G (nr (u - 1) P)=true:=by
    intro k
    induction k with
    | zero =>
      rintro u hu ⟨l,hl,e⟩
      have h1:geC (nr (-(G:Int) * 2 ^ P) P) (nr u P)=true:=nr_ge (by omega)
      rw [nr_whole,intC_negn] at h1
      have:=ge_trans (num_below G G (Nat.le_refl _)) (ge_trans h1 e)
      rw [opt_right hl] at this;cases this
    | succ k ih =>
      rintro u hu ⟨l,hl,e⟩
      rcases num_cutR hG P (u - 1) with h | h
      · exact ih (u - 1) (by omega) h
      · exact ⟨u,l,hl,e,h⟩
  obtain ⟨hi,hhi⟩:∃ hi:Int,hi=(G:Int) * 2 ^ P + 1:=⟨_,rfl⟩
  obtain ⟨lo,hlo⟩:∃ lo:Int,lo=-(G:Int) * 2 ^ P:=⟨_,rfl⟩
  refine key (hi - lo).toNat hi (by omega) ((num_cutR hG P hi).resolve_right fun h=>?_)
  have h1:=ge_trans (num_above G G (Nat.le_refl _)) h
  rw [← intC_nat,← nr_whole (G:Int) P] at h1
  have:=nr_le_of h1
  omega
noncomputable def moveC (G x:Nat):Nat:=mkC ((lefts G).map fun l=>canC (sumC l x)) ((rights G).map fun r=>canC (sumC r x))
theorem moveL {G x a:Nat}:hasL (moveC G x) a↔∃ l,hasL G l∧canC (sumC l x)=a:=by
  unfold moveC
  rw [hasL_mk,List.mem_map]
  exact ⟨fun ⟨l,h,e⟩=>⟨l,mem_lefts.1 h,e⟩,fun ⟨l,h,e⟩=>⟨l,mem_lefts.2 h,e⟩⟩
theorem moveR {G x a:Nat}:hasR (moveC G x) a↔∃ l,hasR G l∧canC (sumC l x)=a:=by
  unfold moveC
  rw [hasR_mk,List.mem_map]
  exact ⟨fun ⟨l,h,e⟩=>⟨l,mem_rights.1 h,e⟩,fun ⟨l,h,e⟩=>⟨l,mem_rights.2 h,e⟩⟩
theorem move_eq {G:Nat} (hG:¬ IsNum G) (s:Int) (P:Nat):EqC (moveC G (nr s P)) (sumC G (nr s P)):=by
  constructor
  · refine ge_intro (fun r hr => ?_) fun l hl => ?_
    · obtain ⟨b, hb, rfl⟩ := moveR.1 hr
      rw [(eqC_can _).r]
      exact sum_lt _ (opt_right hb)
    · rcases (hasL_sum _ _ l).1 hl with ⟨b, hb, rfl⟩ | ⟨b, hb, rfl⟩
      · rw [← (eqC_can _).l]
        exact opt_left (moveL.2 ⟨b,hb,rfl⟩)
      · obtain ⟨v, hv, rfl⟩ := nr_left _ _ _ hb
        obtain ⟨u,l,h1,h2,h3⟩:=num_edgeL hG P
        have k1:geC (nr (u + s) P) (sumC G (nr v P))=true:=by
          refine ge_trans (nr_ge (show u + 1 + v≤u + s from by omega)) ?_
          rw [← (nr_sum (u + 1) v P).l]
          exact sum_ge _ h3
        have k2:geC (sumC l (nr s P)) (nr (u + s) P)=true:=by
          rw [← (nr_sum u s P).r]
          exact sum_ge _ h2
        have k3:=ge_trans k2 k1
        rw [← (eqC_can _).l] at k3
        exact not_ge_of_le k3 (opt_left (moveL.2 ⟨l,h1,rfl⟩))
  · refine ge_intro (fun r hr => ?_) fun l hl => ?_
    · rcases (hasR_sum _ _ r).1 hr with ⟨b, hb, rfl⟩ | ⟨b, hb, rfl⟩
      · rw [← (eqC_can _).r]
        exact opt_right (moveR.2 ⟨b,hb,rfl⟩)
      · obtain ⟨v, hv, rfl⟩ := nr_right _ _ _ hb
        obtain ⟨u,l,h1,h2,h3⟩:=num_edgeR hG P
        have k1:geC (sumC G (nr v P)) (nr (u + s) P)=true:=by
          refine ge_trans ?_ (nr_ge (show u + s≤u - 1 + v from by omega))
          rw [← (nr_sum (u - 1) v P).r]
          exact sum_ge _ h3
        have k2:geC (nr (u + s) P) (sumC l (nr s P))=true:=by
          rw [← (nr_sum u s P).l]
          exact sum_ge _ h2
        have k3:=ge_trans k1 k2
        rw [← (eqC_can _).r] at k3
        exact not_ge_of_ge k3 (opt_right (moveR.2 ⟨l,h1,rfl⟩))
    · obtain ⟨b, hb, rfl⟩ := moveL.1 hl
      rw [(eqC_can _).l]
      exact sum_lt _ (opt_left hb)
theorem can_two (a s:Int) (Q P:Nat):∃ (L:Nat) (a' s':Int),nr a Q=nr a' L∧nr s P=nr s' L∧canC (sumC (nr a Q) (nr s P))=nr (a' + s') L:=by
  have e1:nr a Q=nr (a * 2 ^ P) (P + Q):=by rw [Nat.add_comm];exact (nr_level a Q P).symm
  have e2:nr s P=nr (s * 2 ^ Q) (P + Q):=(nr_level s P Q).symm
  refine ⟨P + Q,a * 2 ^ P,s * 2 ^ Q,e1,e2,?_⟩
  rw [e1,e2,(nr_sum _ _ _).can,canC_self (can_nr _ _)]
theorem move_can (s:Int) (P:Nat):∀ (n G:Nat),G < n→CanC G→¬ IsNum G→canC (sumC G (nr s P))=moveC G (nr s P):=by
  intro n
  induction n with
  | zero=>intro G h;omega
  | succ n ih =>
    intro G hn hc hG
    have hE:=move_eq hG s P
    have k:=hc G .root
    have one:CanC1 (moveC G (nr s P)):=by
      refine ⟨fun a a' ha ha' e=>?_,fun a a' ha ha' e=>?_,fun a r ha hr=>?_,fun a r ha hr=>?_⟩
      · obtain ⟨l, hl, rfl⟩ := moveL.1 ha
        obtain ⟨l',hl',rfl⟩:=moveL.1 ha'
        rw [(eqC_can _).l,(eqC_can _).r,sum_cut] at e
        rw [k.domL l l' hl hl' e]
      · obtain ⟨l, hl, rfl⟩ := moveR.1 ha
        obtain ⟨l',hl',rfl⟩:=moveR.1 ha'
        rw [(eqC_can _).l,(eqC_can _).r,sum_cut] at e
        rw [k.domR l l' hl hl' e]
      · obtain ⟨l, hl, rfl⟩ := moveL.1 ha
        rw [hE.l]
        have hlt:=optC_lt (.inl hl)
        by_cases hN:IsNum l
        · obtain ⟨Q, a, rfl⟩ := hN.can (hc.opt (.inl hl))
          obtain ⟨L,a',s',e1,e2,e3⟩:=can_two a s Q P
          rw [e3] at hr
          obtain ⟨v,hv,rfl⟩:=nr_right _ _ _ hr
          cases q:geC (sumC G (nr s P)) (nr v L) with
          | false=>rfl
          | true =>
            have q1:geC G (nr (v - s') L)=true:=by
              rw [← sum_cut G _ (nr s P),e2,(nr_sum (v - s') s' L).r,show v - s' + s'=v from by omega,← e2]
              exact q
            rcases num_cutL hG L (v - s') with ⟨l',hl',g⟩ | g
            · have g1 : geC l' (nr a Q) = true := by rw [e1]; exact ge_trans g (nr_ge (by omega))
              rw [k.domL _ l' hl hl' g1,e1] at g
              have:=nr_le_of g
              omega
            · exact absurd ⟨L,_,q1,g⟩ hG
        · rw [ih l (by omega) (hc.opt (.inl hl)) hN] at hr
          obtain ⟨b,hb,rfl⟩:=moveR.1 hr
          rw [(eqC_can _).r,sum_cut]
          exact k.revL l b hl hb
      · obtain ⟨l, hl, rfl⟩ := moveR.1 ha
        rw [hE.r]
        have hlt:=optC_lt (.inr hl)
        by_cases hN:IsNum l
        · obtain ⟨Q, a, rfl⟩ := hN.can (hc.opt (.inr hl))
          obtain ⟨L,a',s',e1,e2,e3⟩:=can_two a s Q P
          rw [e3] at hr
          obtain ⟨v,hv,rfl⟩:=nr_left _ _ _ hr
          cases q:geC (nr v L) (sumC G (nr s P)) with
          | false=>rfl
          | true =>
            have q1:geC (nr (v - s') L) G=true:=by
              rw [← sum_cut _ G (nr s P),e2,(nr_sum (v - s') s' L).l,show v - s' + s'=v from by omega,← e2]
              exact q
            rcases num_cutR hG L (v - s') with ⟨l',hl',g⟩ | g
            · have g1 : geC (nr a Q) l' = true := by rw [e1]; exact ge_trans (nr_ge (by omega)) g
              rw [k.domR _ l' hl hl' g1,e1] at g
              have:=nr_le_of g
              omega
            · exact absurd ⟨L,_,g,q1⟩ hG
        · rw [ih l (by omega) (hc.opt (.inr hl)) hN] at hr
          obtain ⟨b,hb,rfl⟩:=moveL.1 hr
          rw [(eqC_can _).l,sum_cut]
          exact k.revR l b hl hb
    refine (canC_of (CanC.mk one fun x hx=>?_) hE.1 hE.2).symm
    rcases hx with h | h
    · obtain ⟨l,_,rfl⟩:=moveL.1 h;exact (can_is _).1
    · obtain ⟨l,_,rfl⟩:=moveR.1 h;exact (can_is _).1
def FewC (c:Nat):Prop:=∀ s,SubC c s→(∀ A:List Nat,A.Nodup→(∀ a∈A,hasL s a)→A.length≤24)∧∀ A:List Nat,A.Nodup→(∀ a∈A,hasR s a)→A.length≤24
theorem FewC.opt {c x:Nat} (h:FewC c) (ho:optC c x):FewC x:=fun y hy=>h y ((SubC.root.step ho).trans hy)
theorem one_len {A:List Nat} (hA:A.Nodup) (h:∀ x∈A,∀ y∈A,x=y):A.length≤24:=by
  match A,hA,h with
  | [],_,_=>simp
  | [_],_,_=>simp
  | a :: b :: l, hA, h =>
    have e:=h a (by simp) b (by simp)
    rw [List.nodup_cons] at hA
    exact absurd (by rw [e];simp) hA.1
theorem few_nr (s:Int) (P:Nat):FewC (nr s P):=fun x hx=>by
  obtain ⟨v,rfl⟩:=nr_sub hx
  exact ⟨fun A hA h=>one_len hA fun x hx y hy=>(nr_one v P).1 _ _ (h x hx) (h y hy),fun A hA h=>one_len hA fun x hx y hy=>(nr_one v P).2 _ _ (h x hx) (h y hy)⟩
theorem subC_top {c x:Nat} (h:SubC c x):x=c∨∃ y,optC c y∧SubC y x:=by
  induction h with
  | root=>exact .inl rfl
  | step _ ho ih =>
    rcases ih with rfl | ⟨y,hy,hs⟩
    · exact .inr ⟨_,ho,.root⟩
    · exact .inr ⟨y,hy,hs.step ho⟩
theorem lefts_nodup (c:Nat):(lefts c).Nodup:=List.nodup_range.sublist List.filter_sublist
theorem rights_nodup (c:Nat):(rights c).Nodup:=List.nodup_range.sublist List.filter_sublist
theorem few_move (s:Int) (P:Nat):∀ (n G:Nat),G < n→CanC G→FewC G→FewC (canC (sumC G (nr s P))):=by
  intro n
  induction n with
  | zero=>intro G h;omega
  | succ n ih =>
    intro G hn hc hf
    by_cases hN:IsNum G
    · obtain ⟨Q, a, rfl⟩ := hN.can hc
      obtain ⟨L,a',s',_,_,e3⟩:=can_two a s Q P
      rw [e3]
      exact few_nr _ _
    · rw [move_can s P _ G (Nat.lt_succ_self _) hc hN]
      intro x hx
      rcases subC_top hx with rfl | ⟨y,hy,hs⟩
      · obtain ⟨f1, f2⟩ := hf G .root
        constructor
        · intro A hA h
          have h1:=hA.length_le_of_subset (l₂:=(lefts G).map fun l=>canC (sumC l (nr s P))) fun z hz=>by
            obtain ⟨l,hl,e⟩:=moveL.1 (h z hz)
            exact List.mem_map.2 ⟨l,mem_lefts.2 hl,e⟩
          rw [List.length_map] at h1
          have h2:=f1 (lefts G) (lefts_nodup G) fun a ha=>mem_lefts.1 ha
          omega
        · intro A hA h
          have h1:=hA.length_le_of_subset (l₂:=(rights G).map fun l=>canC (sumC l (nr s P))) fun z hz=>by
            obtain ⟨l,hl,e⟩:=moveR.1 (h z hz)
            exact List.mem_map.2 ⟨l,mem_rights.2 hl,e⟩
          rw [List.length_map] at h1
          have h2:=f2 (rights G) (rights_nodup G) fun a ha=>mem_rights.1 ha
          omega
      · rcases hy with h | h
        · obtain ⟨l, hl, rfl⟩ := moveL.1 h
          have hlt:=optC_lt (.inl hl)
          exact ih l (by omega) (hc.opt (.inl hl)) (hf.opt (.inl hl)) x hs
        · obtain ⟨l, hl, rfl⟩ := moveR.1 h
          have hlt:=optC_lt (.inr hl)
          exact ih l (by omega) (hc.opt (.inr hl)) (hf.opt (.inr hl)) x hs
theorem codes_nodup2 {P L:List Nat} {n:Nat} (hP:P.Nodup) (hL:L.Pairwise (· < ·)) (hl:∀ x∈L,x < n) (hn:n≤P.length):(atAll P L).Nodup:=by
  unfold atAll
  refine List.pairwise_map.2 (hL.imp_of_mem ?_)
  intro a b ha hb hab e
  have la:=hl a ha
  have lb:=hl b hb
  rw [getD_of (List.getElem?_eq_getElem (show a < P.length by omega)),getD_of (List.getElem?_eq_getElem (show b < P.length by omega))] at e
  have:=(List.getElem_inj hP).1 e
  omega
theorem few_of_fits {c:Nat} (h:fitsB (formOf c)=true):FewC c:=by
  obtain ⟨P,hA⟩:=formOf_is c
  have hPl:=hA.book.len
  unfold fitsB at h
  rw [decide_eq_true_eq] at h
  intro s hs
  obtain ⟨j,hj,e⟩:=List.getElem_of_mem ((hA.sub s).2 hs)
  have hj':j < (formOf c).length:=by omega
  have ej:=List.getElem?_eq_getElem hj'
  have hcode:=hA.book.code j _ ej
  have e':P.getD j 0=s:=getD_of (by rw [List.getElem?_eq_getElem hj,e])
  rw [e'] at hcode
  have hl:=h.2.2 _ (List.getElem_mem hj')
  constructor
  · intro A hN hA'
    have:=hN.length_le_of_subset (l₂:=atAll P (formOf c)[j].1) fun z hz=>by
      have h1:=hA' z hz
      rw [hcode,hasL_mk] at h1
      exact h1
    have e:(atAll P (formOf c)[j].1).length=(formOf c)[j].1.length:=by simp [atAll]
    omega
  · intro A hN hA'
    have:=hN.length_le_of_subset (l₂:=atAll P (formOf c)[j].2) fun z hz=>by
      have h1:=hA' z hz
      rw [hcode,hasR_mk] at h1
      exact h1
    have e:(atAll P (formOf c)[j].2).length=(formOf c)[j].2.length:=by simp [atAll]
    omega
theorem fits_of_few {c:Nat} (hl:(formOf c).length≤120) (h:FewC c):fitsB (formOf c)=true:=by
  obtain ⟨P,hA⟩:=formOf_is c
  have hPl:=hA.book.len
  have hpos:=(of_form (formOf_is c)).1
  unfold fitsB
  rw [decide_eq_true_eq]
  refine ⟨hl,by omega,fun y hy=>?_⟩
  obtain ⟨j,hj,rfl⟩:=List.getElem_of_mem hy
  have ej:=List.getElem?_eq_getElem hj
  obtain ⟨o1,o2⟩:=hA.book.opts j _ ej
  obtain ⟨u1,u2⟩:=hA.book.up j _ ej
  have hcode:=hA.book.code j _ ej
  obtain ⟨f1,f2⟩:=h (P.getD j 0) ((hA.sub _).1 (getD_mem (show j < P.length by omega)))
  constructor
  · have := f1 (atAll P (formOf c)[j].1) (codes_nodup2 hA.book.nodup u1 o1 (by omega)) (fun a ha => by rw [hcode]; exact (hasL_mk _ _ _).2 ha)
    simpa [atAll] using this
  · have := f2 (atAll P (formOf c)[j].2) (codes_nodup2 hA.book.nodup u2 o2 (by omega)) (fun a ha => by rw [hcode]; exact (hasR_mk _ _ _).2 ha)
    simpa [atAll] using this
theorem plus_fits {c:Nat} (s:Int) (P:Nat) (hc:CanC c) (hf:fitsB (formOf c)=true) (hs:(formOf (sumC c (nr s P))).length≤120):fitsB (formOf (canC (sumC c (nr s P))))=true:=by
  refine fits_of_few ?_ (few_move s P _ c (Nat.lt_succ_self _) hc (few_of_fits hf))
  have hi:=can_is (sumC c (nr s P))
  have:=can_least hi.1 hi.2.2 hi.2.1 (formOf_is (sumC c (nr s P)))
  omega
end Go.Proofs.YtiidnnpanickaaaGreatDoor
