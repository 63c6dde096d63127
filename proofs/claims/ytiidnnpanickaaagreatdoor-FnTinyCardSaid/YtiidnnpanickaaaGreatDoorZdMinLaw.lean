import Derived.Test.YtiidnnpanickaaaGreatDoorZdSumLaw
/- What the claim of FnTinyCard needs of: CanLaw GroupOne CanQ MinLaw. -/
namespace Go.Proofs.YtiidnnpanickaaaGreatDoor
set_option linter.unusedVariables false
set_option linter.unusedSimpArgs false
open Go.RowKit
theorem ge_refl (a:Nat):geC a a=true:=by
  induction a using Nat.strongRecOn with
  | _ a ih =>
    rw [geC_iff]
    constructor
    · intro r hr
      cases h:geC a r with
      | false=>rfl
      | true =>
        have h1:=((geC_iff a r).1 h).1 r hr
        rw [ih r (optC_lt (.inr hr))] at h1
        cases h1
    · intro l hl
      cases h:geC l a with
      | false=>rfl
      | true =>
        have h1:=((geC_iff l a).1 h).2 l hl
        rw [ih l (optC_lt (.inl hl))] at h1
        cases h1
theorem ge_right {a b r:Nat} (h:geC a b=true) (hr:hasR a r):geC b r=false:=((geC_iff a b).1 h).1 r hr
theorem ge_left {a b l:Nat} (h:geC a b=true) (hl:hasL b l):geC l a=false:=((geC_iff a b).1 h).2 l hl
theorem ge_intro {a b:Nat} (h1:∀ r,hasR a r→geC b r=false) (h2:∀ l,hasL b l→geC l a=false):geC a b=true:=(geC_iff a b).2 ⟨h1,h2⟩
structure CanC1 (a:Nat):Prop where
  domL:∀ l l',hasL a l→hasL a l'→geC l' l=true→l'=l
  domR:∀ r r',hasR a r→hasR a r'→geC r r'=true→r'=r
  revL:∀ l r,hasL a l→hasR l r→geC a r=false
  revR:∀ r l,hasR a r→hasL r l→geC l a=false
theorem getD_of {L:List Nat} {i x:Nat} (h:L[i]?=some x):L.getD i 0=x:=by rw [List.getD_eq_getElem?_getD,h];rfl
theorem sum_comm' (n:Nat):∀ a b,a + b < n→sumC a b=sumC b a:=by
  induction n with
  | zero=>intro a b h;omega
  | succ n ih =>
    intro a b hn
    have k1:∀ x,x < a→sumC x b=sumC b x:=fun x hx=>ih x b (by omega)
    have k2:∀ x,x < b→sumC a x=sumC x a:=fun x hx=>ih a x (by omega)
    refine code_ext (fun i=>?_) fun i=>?_
    · rw [hasL_sum, hasL_sum]
      constructor
      · rintro (⟨l, hl, e⟩ | ⟨l, hl, e⟩)
        · exact .inr ⟨l,hl,by rw [← k1 l (optC_lt (.inl hl))];exact e⟩
        · exact .inl ⟨l,hl,by rw [← k2 l (optC_lt (.inl hl))];exact e⟩
      · rintro (⟨l, hl, e⟩ | ⟨l, hl, e⟩)
        · exact .inr ⟨l,hl,by rw [k2 l (optC_lt (.inl hl))];exact e⟩
        · exact .inl ⟨l,hl,by rw [k1 l (optC_lt (.inl hl))];exact e⟩
    · rw [hasR_sum, hasR_sum]
      constructor
      · rintro (⟨l, hl, e⟩ | ⟨l, hl, e⟩)
        · exact .inr ⟨l,hl,by rw [← k1 l (optC_lt (.inr hl))];exact e⟩
        · exact .inl ⟨l,hl,by rw [← k2 l (optC_lt (.inr hl))];exact e⟩
      · rintro (⟨l, hl, e⟩ | ⟨l, hl, e⟩)
        · exact .inr ⟨l,hl,by rw [k2 l (optC_lt (.inr hl))];exact e⟩
        · exact .inl ⟨l,hl,by rw [k1 l (optC_lt (.inr hl))];exact e⟩
theorem sum_comm (a b:Nat):sumC a b=sumC b a:=sum_comm' _ a b (Nat.lt_succ_self _)
theorem neg_neg (a:Nat):negC (negC a)=a:=by
  induction a using Nat.strongRecOn with
  | _ a ih =>
    refine code_ext (fun i=>?_) fun i=>?_
    · rw [hasL_neg]
      constructor
      · rintro ⟨r, hr, e⟩
        obtain ⟨l,hl,e'⟩:=(hasR_neg a r).1 hr
        rw [← e,← e',ih l (optC_lt (.inl hl))];exact hl
      · intro hl
        exact ⟨negC i,(hasR_neg a _).2 ⟨i,hl,rfl⟩,ih i (optC_lt (.inl hl))⟩
    · rw [hasR_neg]
      constructor
      · rintro ⟨r, hr, e⟩
        obtain ⟨l,hl,e'⟩:=(hasL_neg a r).1 hr
        rw [← e,← e',ih l (optC_lt (.inr hl))];exact hl
      · intro hl
        exact ⟨negC i,(hasL_neg a _).2 ⟨i,hl,rfl⟩,ih i (optC_lt (.inr hl))⟩
def zeroC:Nat:=mkC [] []
theorem zeroL (i:Nat):¬ hasL zeroC i:=fun h=>by
  have:=(hasL_mk [] [] i).1 h
  simp at this
theorem zeroR (i:Nat):¬ hasR zeroC i:=fun h=>by
  have:=(hasR_mk [] [] i).1 h
  simp at this
theorem ge_zero (x:Nat):geC x zeroC=true↔∀ r,hasR x r→geC zeroC r=false:=by
  rw [geC_iff]
  exact ⟨fun h=>h.1,fun h=>⟨h,fun l hl=>absurd hl (zeroL l)⟩⟩
theorem zero_ge (x:Nat):geC zeroC x=true↔∀ l,hasL x l→geC l zeroC=false:=by
  rw [geC_iff]
  exact ⟨fun h=>h.2,fun h=>⟨fun r hr=>absurd hr (zeroR r),h⟩⟩
theorem ge_diff' (n:Nat):∀ a b,a + b < n→geC (sumC a (negC b)) zeroC=geC a b∧geC zeroC (sumC a (negC b))=geC b a:=by
  induction n with
  | zero=>intro a b h;omega
  | succ n ih =>
    intro a b hn
    have k1:∀ x,x < a→geC (sumC x (negC b)) zeroC=geC x b∧geC zeroC (sumC x (negC b))=geC b x:=fun x hx=>ih x b (by omega)
    have k2:∀ x,x < b→geC (sumC a (negC x)) zeroC=geC a x∧geC zeroC (sumC a (negC x))=geC x a:=fun x hx=>ih a x (by omega)
    constructor
    · refine Bool.eq_iff_iff.2 ?_
      rw [ge_zero,geC_iff]
      constructor
      · intro h
        exact ⟨fun r hr=>by rw [← (k1 r (optC_lt (.inr hr))).2];exact h _ ((hasR_sum a (negC b) _).2 (.inl ⟨r,hr,rfl⟩)),fun l hl=>by rw [← (k2 l (optC_lt (.inl hl))).2];exact h _ ((hasR_sum a (negC b) _).2 (.inr ⟨negC l,(hasR_neg b _).2 ⟨l,hl,rfl⟩,rfl⟩))⟩
      · rintro ⟨h1, h2⟩ r hr
        rcases (hasR_sum a (negC b) r).1 hr with ⟨l,hl,rfl⟩ | ⟨l,hl,rfl⟩
        · rw [(k1 l (optC_lt (.inr hl))).2];exact h1 l hl
        · obtain ⟨y, hy, rfl⟩ := (hasR_neg b l).1 hl
          rw [(k2 y (optC_lt (.inl hy))).2];exact h2 y hy
    · refine Bool.eq_iff_iff.2 ?_
      rw [zero_ge,geC_iff]
      constructor
      · intro h
        exact ⟨fun r hr=>by rw [← (k2 r (optC_lt (.inr hr))).1];exact h _ ((hasL_sum a (negC b) _).2 (.inr ⟨negC r,(hasL_neg b _).2 ⟨r,hr,rfl⟩,rfl⟩)),fun l hl=>by rw [← (k1 l (optC_lt (.inl hl))).1];exact h _ ((hasL_sum a (negC b) _).2 (.inl ⟨l,hl,rfl⟩))⟩
      · rintro ⟨h1, h2⟩ r hr
        rcases (hasL_sum a (negC b) r).1 hr with ⟨l,hl,rfl⟩ | ⟨l,hl,rfl⟩
        · rw [(k1 l (optC_lt (.inl hl))).1];exact h2 l hl
        · obtain ⟨y, hy, rfl⟩ := (hasL_neg b l).1 hl
          rw [(k2 y (optC_lt (.inr hy))).1];exact h1 y hy
theorem ge_diff (a b:Nat):geC (sumC a (negC b)) zeroC=geC a b∧geC zeroC (sumC a (negC b))=geC b a:=ge_diff' _ a b (Nat.lt_succ_self _)
theorem codeF_formOf (c:Nat):codeF (formOf c)=c:=(of_form (formOf_is c)).2.2.2.2.2
theorem neg_zero:negC zeroC=zeroC:=code_ext (fun i=>by
    rw [hasL_neg]
    exact ⟨fun ⟨r,hr,_⟩=>absurd hr (zeroR r),fun h=>absurd h (zeroL i)⟩) fun i=>by
    rw [hasR_neg]
    exact ⟨fun ⟨r,hr,_⟩=>absurd hr (zeroL r),fun h=>absurd h (zeroR i)⟩
section
variable {V:List PL} {C:List Nat} {f:Nat} {S:Nat→Bool} {Q Kp:List Nat} {i k:Nat}
end
end Go.Proofs.YtiidnnpanickaaaGreatDoor
