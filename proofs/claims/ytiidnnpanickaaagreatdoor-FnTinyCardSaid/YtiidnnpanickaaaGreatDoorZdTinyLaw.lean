import Derived.Test.YtiidnnpanickaaaGreatDoorZdNumLaw
import Derived.Test.YtiidnnpanickaaaGreatDoorZdSumGe
/- What the claim of FnTinyCard needs of: NumOrd TinyLaw. -/
namespace Go.Proofs.YtiidnnpanickaaaGreatDoor
set_option linter.unusedVariables false
set_option linter.unusedSimpArgs false
open Go.RowKit
theorem nr_up (s:Int) (P:Nat):nr (2 * s) (P + 1)=nr s P:=by
  rw [nr_even (by omega),show 2 * s / 2=s from by omega]
theorem nr_level (s:Int) (P k:Nat):nr (s * 2 ^ k) (P + k)=nr s P:=by
  unfold nr
  rw [redT_scale]
theorem int_left {s:Int} {l:Nat} (h:hasL (intC s) l):0 < s∧l=intC (s - 1):=by
  by_cases h0:s=0
  · subst h0;exact absurd h (zeroL l)
  · by_cases hp : 0 < s
    · rw [intC_pos hp, hasL_mk] at h
      exact ⟨hp,List.mem_singleton.1 h⟩
    · rw [intC_neg (by omega), hasL_mk] at h
      simp at h
theorem int_right {s:Int} {r:Nat} (h:hasR (intC s) r):s < 0∧r=intC (s + 1):=by
  by_cases h0:s=0
  · subst h0;exact absurd h (zeroR r)
  · by_cases hp : 0 < s
    · rw [intC_pos hp, hasR_mk] at h
      simp at h
    · rw [intC_neg (by omega), hasR_mk] at h
      exact ⟨by omega,List.mem_singleton.1 h⟩
theorem int_hasL {s:Int} (h:0 < s):hasL (intC s) (intC (s - 1)):=by rw [intC_pos h,hasL_mk];simp
theorem int_hasR {s:Int} (h:s < 0):hasR (intC s) (intC (s + 1)):=by rw [intC_neg h,hasR_mk];simp
theorem nr_left:∀ (P:Nat) (s:Int) (l:Nat),hasL (nr s P) l→∃ v,v < s∧l=nr v P:=by
  intro P
  induction P with
  | zero =>
    intro s l h
    rw [nr_int] at h
    obtain ⟨_,e⟩:=int_left h
    exact ⟨s - 1,by omega,by rw [nr_int];exact e⟩
  | succ P ih =>
    intro s l h
    by_cases he:s % 2=0
    · rw [nr_even he] at h
      obtain ⟨v,hv,e⟩:=ih _ _ h
      exact ⟨2 * v,by omega,by rw [nr_up];exact e⟩
    · rw [nr_odd he, hasL_mk] at h
      exact ⟨s - 1,by omega,by rw [nr_even (by omega)];exact List.mem_singleton.1 h⟩
theorem nr_right:∀ (P:Nat) (s:Int) (r:Nat),hasR (nr s P) r→∃ v,s < v∧r=nr v P:=by
  intro P
  induction P with
  | zero =>
    intro s l h
    rw [nr_int] at h
    obtain ⟨_,e⟩:=int_right h
    exact ⟨s + 1,by omega,by rw [nr_int];exact e⟩
  | succ P ih =>
    intro s l h
    by_cases he:s % 2=0
    · rw [nr_even he] at h
      obtain ⟨v,hv,e⟩:=ih _ _ h
      exact ⟨2 * v,by omega,by rw [nr_up];exact e⟩
    · rw [nr_odd he, hasR_mk] at h
      exact ⟨s + 1,by omega,by rw [nr_even (by omega)];exact List.mem_singleton.1 h⟩
theorem nr_oddL {s:Int} {P:Nat} (h:s % 2≠0):hasL (nr s (P + 1)) (nr (s - 1) (P + 1)):=by
  rw [nr_odd h,hasL_mk,nr_even (by omega)];simp
theorem nr_oddR {s:Int} {P:Nat} (h:s % 2≠0):hasR (nr s (P + 1)) (nr (s + 1) (P + 1)):=by
  rw [nr_odd h,hasR_mk,nr_even (by omega)];simp
theorem nr_between:∀ (P:Nat) (s t:Int),s < t→(∃ v,s≤v∧v < t∧hasL (nr t P) (nr v P))∨∃ v,s < v∧v≤t∧hasR (nr s P) (nr v P):=by
  intro P
  induction P with
  | zero =>
    intro s t h
    by_cases ht:0 < t
    · exact .inl ⟨t - 1,by omega,by omega,by rw [nr_int,nr_int];exact int_hasL ht⟩
    · exact .inr ⟨s + 1,by omega,by omega,by rw [nr_int,nr_int];exact int_hasR (by omega)⟩
  | succ P ih =>
    intro s t h
    by_cases ht:t % 2=0
    · by_cases hs : s % 2 = 0
      · rw [nr_even ht, nr_even hs]
        rcases ih (s / 2) (t / 2) (by omega) with ⟨v,h1,h2,h3⟩ | ⟨v,h1,h2,h3⟩
        · exact .inl ⟨2 * v,by omega,by omega,by rw [nr_up];exact h3⟩
        · exact .inr ⟨2 * v,by omega,by omega,by rw [nr_up];exact h3⟩
      · exact .inr ⟨s + 1,by omega,by omega,nr_oddR hs⟩
    · exact .inl ⟨t - 1,by omega,by omega,nr_oddL ht⟩
theorem nr_ge' (P n:Nat):∀ s t:Int,nr s P + nr t P < n→(t≤s→geC (nr s P) (nr t P)=true)∧(s < t→geC (nr s P) (nr t P)=false):=by
  induction n with
  | zero=>intro s t h;omega
  | succ n ih =>
    intro s t hn
    refine ⟨fun h=>ge_intro (fun r hr=>?_) fun l hl=>?_,fun h=>?_⟩
    · have hlt := optC_lt (.inr hr)
      obtain ⟨v,hv,rfl⟩:=nr_right _ _ _ hr
      exact (ih t v (by omega)).2 (by omega)
    · have hlt := optC_lt (.inl hl)
      obtain ⟨v,hv,rfl⟩:=nr_left _ _ _ hl
      exact (ih v s (by omega)).2 (by omega)
    · cases e : geC (nr s P) (nr t P) with
      | false=>rfl
      | true =>
        rcases nr_between P s t h with ⟨v,h1,h2,h3⟩ | ⟨v,h1,h2,h3⟩
        · have hlt := optC_lt (.inl h3)
          have:=(ih v s (by omega)).1 h1
          rw [ge_left e h3] at this;cases this
        · have hlt := optC_lt (.inr h3)
          have:=(ih t v (by omega)).1 h2
          rw [ge_right e h3] at this;cases this
theorem nr_ge {s t:Int} {P:Nat} (h:t≤s):geC (nr s P) (nr t P)=true:=(nr_ge' P _ s t (Nat.lt_succ_self _)).1 h
theorem nr_lt {s t:Int} {P:Nat} (h:s < t):geC (nr s P) (nr t P)=false:=(nr_ge' P _ s t (Nat.lt_succ_self _)).2 h
theorem can_nr1 (s:Int) (P:Nat):CanC1 (nr s P):=by
  have uniq:∀ (P:Nat) (s:Int),(∀ l l',hasL (nr s P) l→hasL (nr s P) l'→l=l')∧∀ l l',hasR (nr s P) l→hasR (nr s P) l'→l=l':=by
    intro P
    induction P with
    | zero =>
      intro s
      rw [nr_int]
      exact ⟨fun l l' h h'=>by rw [(int_left h).2,(int_left h').2],fun l l' h h'=>by rw [(int_right h).2,(int_right h').2]⟩
    | succ P ih =>
      intro s
      by_cases he:s % 2=0
      · rw [nr_even he];exact ih _
      · rw [nr_odd he]
        refine ⟨fun l l' h h'=>?_,fun l l' h h'=>?_⟩
        · rw [hasL_mk] at h h'
          rw [List.mem_singleton.1 h,List.mem_singleton.1 h']
        · rw [hasR_mk] at h h'
          rw [List.mem_singleton.1 h,List.mem_singleton.1 h']
  have rev:∀ (P:Nat) (s:Int),(∀ l r,hasL (nr s P) l→hasR l r→geC (nr s P) r=false)∧∀ r l,hasR (nr s P) r→hasL r l→geC l (nr s P)=false:=by
    intro P
    induction P with
    | zero =>
      intro s
      rw [nr_int]
      refine ⟨fun l r h h'=>?_,fun l r h h'=>?_⟩
      · obtain ⟨h1, rfl⟩ := int_left h
        have:=(int_right h').1
        omega
      · obtain ⟨h1, rfl⟩ := int_right h
        have:=(int_left h').1
        omega
    | succ P ih =>
      intro s
      by_cases he:s % 2=0
      · rw [nr_even he];exact ih _
      · refine ⟨fun l r h h' => ?_, fun l r h h' => ?_⟩
        · rw [nr_odd he, hasL_mk] at h
          rw [List.mem_singleton.1 h] at h'
          obtain ⟨v,hv,rfl⟩:=nr_right _ _ _ h'
          rw [← nr_up v P]
          exact nr_lt (by omega)
        · rw [nr_odd he, hasR_mk] at h
          rw [List.mem_singleton.1 h] at h'
          obtain ⟨v,hv,rfl⟩:=nr_left _ _ _ h'
          rw [← nr_up v P]
          exact nr_lt (by omega)
  exact ⟨fun l l' h h' _=>(uniq P s).1 _ _ h' h,fun l l' h h' _=>(uniq P s).2 _ _ h' h,(rev P s).1,(rev P s).2⟩
theorem nr_one (s:Int) (P:Nat):(∀ l l',hasL (nr s P) l→hasL (nr s P) l'→l=l')∧∀ l l',hasR (nr s P) l→hasR (nr s P) l'→l=l':=by
  have h:=can_nr1 s P
  refine ⟨fun l l' a b=>?_,fun l l' a b=>?_⟩
  · obtain ⟨v, _, rfl⟩ := nr_left _ _ _ a
    obtain ⟨v',_,rfl⟩:=nr_left _ _ _ b
    by_cases e:v'≤v
    · exact h.domL _ _ b a (nr_ge e)
    · exact (h.domL _ _ a b (nr_ge (by omega))).symm
  · obtain ⟨v, _, rfl⟩ := nr_right _ _ _ a
    obtain ⟨v',_,rfl⟩:=nr_right _ _ _ b
    by_cases e:v≤v'
    · exact h.domR _ _ b a (nr_ge e)
    · exact (h.domR _ _ a b (nr_ge (by omega))).symm
theorem nr_sub {s:Int} {P x:Nat} (h:SubC (nr s P) x):∃ v,x=nr v P:=by
  induction h with
  | root=>exact ⟨s,rfl⟩
  | step _ ho ih =>
    obtain ⟨v,rfl⟩:=ih
    rcases ho with h | h
    · obtain ⟨u,_,e⟩:=nr_left _ _ _ h;exact ⟨u,e⟩
    · obtain ⟨u,_,e⟩:=nr_right _ _ _ h;exact ⟨u,e⟩
theorem nr_whole (m:Int) (P:Nat):nr (m * 2 ^ P) P=intC m:=by
  have h:=nr_level m 0 P
  rw [Nat.zero_add] at h
  rw [h,nr_int]
theorem neg_ge (a b:Nat):geC (negC a) (negC b)=geC b a:=by
  rw [← (ge_diff (negC a) (negC b)).1,neg_neg,sum_comm,(ge_diff b a).1]
def starC:Nat:=mkC [zeroC] [zeroC]
def upC:Nat:=mkC [zeroC] [starC]
def halfC (g:Nat):Nat:=mkC [zeroC] [negC g]
def tinyC (g:Nat):Nat:=mkC [zeroC] [halfC g]
theorem mk_left {L R:List Nat} {i:Nat} (h:i∈L):hasL (mkC L R) i:=(hasL_mk _ _ _).2 h
theorem mk_right {L R:List Nat} {i:Nat} (h:i∈R):hasR (mkC L R) i:=(hasR_mk _ _ _).2 h
theorem mk_left1 {a i:Nat} {R:List Nat} (h:hasL (mkC [a] R) i):i=a:=List.mem_singleton.1 ((hasL_mk _ _ _).1 h)
theorem mk_right1 {a i:Nat} {L:List Nat} (h:hasR (mkC L [a]) i):i=a:=List.mem_singleton.1 ((hasR_mk _ _ _).1 h)
theorem star_not:geC starC zeroC=false∧geC zeroC starC=false:=by
  constructor
  · cases h : geC starC zeroC with
    | false=>rfl
    | true =>
      have:=ge_right h (mk_right (List.mem_singleton.2 rfl))
      rw [ge_refl] at this;cases this
  · cases h : geC zeroC starC with
    | false=>rfl
    | true =>
      have:=ge_left h (mk_left (List.mem_singleton.2 rfl))
      rw [ge_refl] at this;cases this
theorem zero_not {R:List Nat}:geC zeroC (mkC [zeroC] R)=false:=by
  cases h:geC zeroC (mkC [zeroC] R) with
  | false=>rfl
  | true =>
    have:=ge_left h (mk_left (List.mem_singleton.2 rfl))
    rw [ge_refl] at this;cases this
theorem nr_zero (P:Nat):nr 0 P=zeroC:=by
  have h:=nr_whole 0 P
  rw [Int.zero_mul] at h
  rw [h,intC_zero]
section
variable {s:Int} {P:Nat} (hs:0 < s)
include hs
theorem neg_below:geC zeroC (negC (nr s P))=true:=by
  rw [← neg_zero,neg_ge,← nr_zero P]
  exact nr_ge (by omega)
theorem half_not:geC (halfC (nr s P)) zeroC=false:=by
  cases h:geC (halfC (nr s P)) zeroC with
  | false=>rfl
  | true =>
    have:=ge_right h (mk_right (List.mem_singleton.2 rfl))
    rw [neg_below hs] at this;cases this
theorem star_half:geC starC (halfC (nr s P))=true:=by
  refine ge_intro (fun r hr=>?_) fun l hl=>?_
  · rw [mk_right1 hr];exact half_not hs
  · rw [mk_left1 hl];exact star_not.2
theorem star_neg:geC starC (negC (nr s P))=true:=by
  refine ge_intro (fun r hr=>?_) fun l hl=>?_
  · rw [mk_right1 hr]
    have h:=neg_ge (nr s P) zeroC
    rw [neg_zero] at h
    rw [h,← nr_zero P]
    exact nr_lt hs
  · obtain ⟨b, hb, rfl⟩ := (hasL_neg _ _).1 hl
    obtain ⟨v,hv,rfl⟩:=nr_right _ _ _ hb
    cases h:geC (negC (nr v P)) starC with
    | false=>rfl
    | true =>
      have h1:=ge_left h (mk_left (List.mem_singleton.2 rfl))
      rw [neg_below (by omega)] at h1;cases h1
theorem up_half:geC upC (halfC (nr s P))=true:=by
  refine ge_intro (fun r hr=>?_) fun l hl=>?_
  · rw [mk_right1 hr]
    cases h:geC (halfC (nr s P)) starC with
    | false=>rfl
    | true =>
      have:=ge_right h (mk_right (List.mem_singleton.2 rfl))
      rw [star_neg hs] at this;cases this
  · rw [mk_left1 hl];exact zero_not
omit hs in
theorem tiny_pos:geC (tinyC (nr s P)) zeroC=true∧geC zeroC (tinyC (nr s P))=false:=by
  refine ⟨(ge_zero _).2 fun r hr=>?_,zero_not⟩
  rw [mk_right1 hr]
  exact zero_not
theorem tiny_up:geC upC (tinyC (nr s P))=true∧geC (tinyC (nr s P)) upC=false:=by
  constructor
  · refine ge_intro (fun r hr => ?_) fun l hl => ?_
    · rw [mk_right1 hr]
      cases h:geC (tinyC (nr s P)) starC with
      | false=>rfl
      | true =>
        have:=ge_right h (mk_right (List.mem_singleton.2 rfl))
        rw [star_half hs] at this;cases this
    · rw [mk_left1 hl];exact zero_not
  · cases h : geC (tinyC (nr s P)) upC with
    | false=>rfl
    | true =>
      have:=ge_right h (mk_right (List.mem_singleton.2 rfl))
      rw [up_half hs] at this;cases this
end
end Go.Proofs.YtiidnnpanickaaaGreatDoor
