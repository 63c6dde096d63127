import Derived.Test.YtiidnnpanickaaaGreatDoorZdMinLaw
/- What the claim of FnTinyCard needs of: NumLaw. -/
namespace Go.Proofs.YtiidnnpanickaaaGreatDoor
set_option linter.unusedVariables false
set_option linter.unusedSimpArgs false
open Go.RowKit
def posC:Nat→Nat
  | 0=>zeroC
  | n + 1=>mkC [posC n] []
def negIC:Nat→Nat
  | 0=>zeroC
  | n + 1=>mkC [] [negIC n]
def intC (t:Int):Nat:=if 0≤t then posC t.toNat else negIC (-t).toNat
theorem intC_zero:intC 0=zeroC:=rfl
theorem intC_pos {t:Int} (h:0 < t):intC t=mkC [intC (t - 1)] []:=by
  unfold intC
  rw [if_pos (by omega),if_pos (by omega)]
  obtain ⟨n,hn⟩:∃ n:Nat,t.toNat=n + 1:=⟨t.toNat - 1,by omega⟩
  rw [hn,show (t - 1).toNat=n from by omega]
  rfl
theorem intC_neg {t:Int} (h:t < 0):intC t=mkC [] [intC (t + 1)]:=by
  unfold intC
  rw [if_neg (by omega)]
  obtain ⟨n,hn⟩:∃ n:Nat,(-t).toNat=n + 1:=⟨(-t).toNat - 1,by omega⟩
  rw [hn]
  by_cases h0:t=-1
  · subst h0
    have:n=0:=by omega
    subst this
    rfl
  · rw [if_neg (by omega), show (-(t + 1)).toNat = n from by omega]
    rfl
def numF:Nat→Int→Nat→Nat
  | 0,t,_=>intC t
  | k + 1,t,p=>if p=0 then intC t else mkC [numF k (redT (t - 1) p).1 (redT (t - 1) p).2] [numF k (redT (t + 1) p).1 (redT (t + 1) p).2]
def numC (t:Int) (p:Nat):Nat:=numF p t p
def nr (t:Int) (p:Nat):Nat:=numC (redT t p).1 (redT t p).2
theorem numF_eq:∀ (n k:Nat) (t:Int) (p:Nat),k < n→Red t p→p≤k→numF k t p=numF p t p:=by
  intro n
  induction n with
  | zero=>intro k t p h;omega
  | succ n ih =>
    intro k t p hn hr hp
    cases k with
    | zero =>
      have:p=0:=by omega
      subst this;rfl
    | succ k =>
      cases p with
      | zero=>rfl
      | succ q =>
        have ho:t % 2≠0:=hr.resolve_left (by omega)
        have h1:=redT_lt (t:=t - 1) (p:=q + 1) (by omega) (by omega)
        have h2:=redT_lt (t:=t + 1) (p:=q + 1) (by omega) (by omega)
        rw [numF,if_neg (by omega),numF,if_neg (by omega)]
        rw [ih k _ _ (by omega) (redT_red _ _) (by omega),ih k _ _ (by omega) (redT_red _ _) (by omega)]
        by_cases hk:q < n
        · rw [ih q _ _ hk (redT_red _ _) (by omega),ih q _ _ hk (redT_red _ _) (by omega)]
        · omega
theorem numC_step {t:Int} {p:Nat} (hp:0 < p) (h:t % 2≠0):numC t p=mkC [nr (t - 1) p] [nr (t + 1) p]:=by
  obtain ⟨q,rfl⟩:∃ q,p=q + 1:=⟨p - 1,by omega⟩
  have h1:=redT_lt (t:=t - 1) (p:=q + 1) (by omega) (by omega)
  have h2:=redT_lt (t:=t + 1) (p:=q + 1) (by omega) (by omega)
  unfold numC nr numC
  rw [numF,if_neg (by omega),numF_eq (q + 1) q _ _ (by omega) (redT_red _ _) (by omega),numF_eq (q + 1) q _ _ (by omega) (redT_red _ _) (by omega)]
theorem nr_of {t:Int} {p:Nat} (h:Red t p):nr t p=numC t p:=by unfold nr;rw [redT_of h]
theorem nr_int (t:Int):nr t 0=intC t:=rfl
theorem nr_even {x:Int} {q:Nat} (h:x % 2=0):nr x (q + 1)=nr (x / 2) q:=by unfold nr;rw [redT_even h]
theorem nr_odd {x:Int} {q:Nat} (h:x % 2≠0):nr x (q + 1)=mkC [nr ((x - 1) / 2) q] [nr ((x + 1) / 2) q]:=by
  rw [nr_of (.inr h),numC_step (by omega) h,nr_even (by omega),nr_even (by omega)]
theorem opt_mk {L R:List Nat} {i:Nat} (h:optC (mkC L R) i):i∈L∨i∈R:=h.imp (hasL_mk L R i).1 (hasR_mk L R i).1
def NumIn (t:Int) (p:Nat) (K:Int) (c:Nat):Prop:=(∃ k:Int,-K≤k∧k≤K∧c=intC k)∨∃ q,q≤p∧(c=nr (t / 2 ^ (p - q)) q∨c=nr (t / 2 ^ (p - q) + 1) q)
theorem int_opt {k K:Int} {i:Nat} (h1:-K≤k) (h2:k≤K) (h:optC (intC k) i):∃ k:Int,-K≤k∧k≤K∧i=intC k:=by
  by_cases h0:k=0
  · subst h0
    rw [intC_zero] at h
    rcases h with h | h
    · exact absurd h (zeroL i)
    · exact absurd h (zeroR i)
  · by_cases hp : 0 < k
    · rw [intC_pos hp] at h
      rcases opt_mk h with h | h
      · exact ⟨k - 1,by omega,by omega,List.mem_singleton.1 h⟩
      · simp at h
    · rw [intC_neg (by omega)] at h
      rcases opt_mk h with h | h
      · simp at h
      · exact ⟨k + 1,by omega,by omega,List.mem_singleton.1 h⟩
theorem half_next {t:Int} {p q:Nat} (h:q + 1≤p):t / 2 ^ (p - q)=t / 2 ^ (p - (q + 1)) / 2:=by
  rw [Int.ediv_ediv_of_nonneg (by exact Int.pow_nonneg (by decide)),← Int.pow_succ,show (p - (q + 1)).succ=p - q from by omega]
theorem num_opt {t:Int} {p:Nat} {K:Int} (hK:-K≤t / 2 ^ p∧t / 2 ^ p + 1≤K):∀ (q:Nat),q≤p→∀ (x:Int),(x=t / 2 ^ (p - q)∨x=t / 2 ^ (p - q) + 1)→∀ i,optC (nr x q) i→NumIn t p K i:=by
  intro q
  induction q with
  | zero =>
    intro _ x hx i hi
    rw [nr_int] at hi
    rw [Nat.sub_zero] at hx
    exact .inl (int_opt (by omega) (by omega) hi)
  | succ q ih =>
    intro hq x hx i hi
    have e:=half_next hq (t:=t)
    obtain ⟨A,hA⟩:∃ A,A=t / 2 ^ (p - (q + 1)):=⟨_,rfl⟩
    rw [← hA] at hx e
    have k1:∀ y,y=A / 2→NumIn t p K (nr y q):=fun y hy=>.inr ⟨q,by omega,.inl (by rw [hy,e])⟩
    have k2:∀ y,y=A / 2 + 1→NumIn t p K (nr y q):=fun y hy=>.inr ⟨q,by omega,.inr (by rw [hy,e])⟩
    by_cases he:x % 2=0
    · rw [nr_even he] at hi
      refine ih (by omega) (x / 2) ?_ i hi
      rw [e]
      omega
    · rw [nr_odd he] at hi
      rcases opt_mk hi with h | h
      · rw [List.mem_singleton.1 h]
        rcases hx with hx | hx
        · exact k1 _ (by omega)
        · exact k1 _ (by omega)
      · rw [List.mem_singleton.1 h]
        rcases hx with hx | hx
        · exact k2 _ (by omega)
        · exact k2 _ (by omega)
theorem num_sub {t:Int} {p:Nat} {K:Int} (hr:Red t p) (hK:-K≤t / 2 ^ p∧t / 2 ^ p + 1≤K) {c:Nat} (h:SubC (numC t p) c):NumIn t p K c:=by
  induction h with
  | root=>exact .inr ⟨p,Nat.le_refl _,.inl (by rw [Nat.sub_self,Int.pow_zero,Int.ediv_one,nr_of hr])⟩
  | step _ ho ih =>
    rcases ih with ⟨k,h1,h2,rfl⟩ | ⟨q,hq,h | h⟩
    · exact .inl (int_opt h1 h2 ho)
    · rw [h] at ho;exact num_opt hK q hq _ (.inl rfl) _ ho
    · rw [h] at ho;exact num_opt hK q hq _ (.inr rfl) _ ho
def numU (t:Int) (p:Nat) (K:Nat):List Nat:=((List.range (2 * K + 1)).map fun (i:Nat)=>intC ((i:Int) - K)) ++ (List.range (p + 1)).flatMap fun q=>[nr (t / 2 ^ (p - q)) q,nr (t / 2 ^ (p - q) + 1) q]
theorem numU_len (t:Int) (p K:Nat):(numU t p K).length=2 * K + 1 + 2 * (p + 1):=by
  unfold numU
  rw [List.length_append,List.length_map,List.length_range]
  congr 1
  have:∀ L:List Nat,(L.flatMap fun q=>[nr (t / 2 ^ (p - q)) q,nr (t / 2 ^ (p - q) + 1) q]).length=2 * L.length:=by
    intro L
    induction L with
    | nil=>rfl
    | cons a l ih=>rw [List.flatMap_cons,List.length_append,ih,List.length_cons];simp;omega
  rw [this,List.length_range]
theorem num_in {t:Int} {p K:Nat} (hr:Red t p) (hK:-(K:Int)≤t / 2 ^ p∧t / 2 ^ p + 1≤K) {c:Nat} (h:SubC (numC t p) c):c∈numU t p K:=by
  unfold numU
  rcases num_sub hr hK h with ⟨k,h1,h2,rfl⟩ | ⟨q,hq,h⟩
  · refine List.mem_append_left _ (List.mem_map.2 ⟨(k + K).toNat, List.mem_range.2 (by omega), ?_⟩)
    rw [show (((k + K).toNat:Nat):Int) - (K:Int)=k from by omega]
  · refine List.mem_append_right _ (List.mem_flatMap.2 ⟨q, List.mem_range.2 (by omega), ?_⟩)
    rcases h with h | h
    · rw [h];simp
    · rw [h];simp
def numB (t:Int) (p:Nat):Nat:=if p=0 then t.natAbs else t.natAbs / 2 ^ p + p + 1
theorem born_pos (n:Nat):n≤bornC (posC n):=by
  induction n with
  | zero=>exact Nat.zero_le _
  | succ n ih =>
    have:=bornC_lt (c:=posC (n + 1)) (i:=posC n) (.inl ((hasL_mk _ _ _).2 (by simp)))
    omega
theorem born_negI (n:Nat):n≤bornC (negIC n):=by
  induction n with
  | zero=>exact Nat.zero_le _
  | succ n ih =>
    have:=bornC_lt (c:=negIC (n + 1)) (i:=negIC n) (.inr ((hasR_mk _ _ _).2 (by simp)))
    omega
theorem born_int (t:Int):t.natAbs≤bornC (intC t):=by
  unfold intC
  split
  · have:=born_pos t.toNat;omega
  · have:=born_negI (-t).toNat;omega
theorem odd_div {n p:Nat} (h:n % 2=1) (hp:0 < p):(n - 1) / 2 ^ p=n / 2 ^ p:=by
  obtain ⟨q,rfl⟩:∃ q,p=q + 1:=⟨p - 1,by omega⟩
  rw [Nat.pow_succ,Nat.mul_comm,← Nat.div_div_eq_div_mul,← Nat.div_div_eq_div_mul,show (n - 1) / 2=n / 2 from by omega]
theorem born_num:∀ (p:Nat) (t:Int),Red t p→numB t p≤bornC (numC t p):=by
  intro p
  induction p with
  | zero=>intro t _;exact born_int t
  | succ p ih =>
    intro t hr
    have ho:t % 2≠0:=hr.resolve_left (by omega)
    have e:numC t (p + 1)=mkC [nr ((t - 1) / 2) p] [nr ((t + 1) / 2) p]:=by rw [← nr_of hr,nr_odd ho]
    have l1:=bornC_lt (c:=numC t (p + 1)) (i:=nr ((t - 1) / 2) p) (.inl (by rw [e];exact (hasL_mk _ _ _).2 (by simp)))
    have l2:=bornC_lt (c:=numC t (p + 1)) (i:=nr ((t + 1) / 2) p) (.inr (by rw [e];exact (hasR_mk _ _ _).2 (by simp)))
    unfold numB
    rw [if_neg (by omega)]
    cases p with
    | zero =>
      rw [nr_int] at l1 l2
      have b1:=born_int ((t - 1) / 2)
      have b2:=born_int ((t + 1) / 2)
      rw [show (2:Nat) ^ (0 + 1)=2 from rfl]
      omega
    | succ p =>
      have hk:∀ x:Int,Red x (p + 1)→(t.natAbs - 1) / 2≤x.natAbs→numB x (p + 1)≤bornC (nr x (p + 1))∧t.natAbs / 2 ^ (p + 1 + 1)≤x.natAbs / 2 ^ (p + 1):=fun x hx hle=>by
        refine ⟨by rw [nr_of hx];exact ih x hx,?_⟩
        rw [← odd_div (n:=t.natAbs) (p:=p + 1 + 1) (by omega) (by omega),Nat.pow_succ 2 (p + 1),Nat.mul_comm,← Nat.div_div_eq_div_mul]
        exact Nat.div_le_div_right hle
      by_cases h1:((t - 1) / 2) % 2=0
      · obtain ⟨g1, g2⟩ := hk ((t + 1) / 2) (.inr (by omega)) (by omega)
        unfold numB at g1
        rw [if_neg (by omega)] at g1
        omega
      · obtain ⟨g1, g2⟩ := hk ((t - 1) / 2) (.inr h1) (by omega)
        unfold numB at g1
        rw [if_neg (by omega)] at g1
        omega
theorem born_sub:∀ (c b:Nat),b≤bornC c→∃ x,SubC c x∧bornC x=b:=by
  intro c
  induction c using Nat.strongRecOn with
  | _ c ih =>
    intro b hb
    by_cases h:b=bornC c
    · exact ⟨c,.root,h.symm⟩
    · rcases bornC_is c with h0 | ⟨i, hi, h1⟩
      · omega
      · obtain ⟨x, hx, e⟩ := ih i (optC_lt hi) b (by omega)
        exact ⟨x,(SubC.root.step hi).trans hx,e⟩
theorem born_len (c:Nat):bornC c + 1≤(formOf c).length:=by
  obtain ⟨P,hA⟩:=formOf_is c
  have hl:=hA.book.len
  have h1:∀ b∈List.range (bornC c + 1),b∈P.map bornC:=fun b hb=>by
    obtain ⟨x,hx,e⟩:=born_sub c b (by have:=List.mem_range.1 hb;omega)
    exact List.mem_map.2 ⟨x,(hA.sub x).2 hx,e⟩
  have:=List.nodup_range.length_le_of_subset h1
  rw [List.length_range,List.length_map] at this
  omega
noncomputable def numN (t:Int) (p:Nat):List PL:=formOf (numC t p)
theorem num_late {t:Int} {p:Nat} (hr:Red t p) (h:120≤numB t p):fitsB (numN t p)=false:=by
  cases hf:fitsB (numN t p) with
  | false=>rfl
  | true =>
    unfold fitsB at hf
    rw [decide_eq_true_eq] at hf
    have h1:=born_len (numC t p)
    have h2:=born_num p t hr
    have h3:(formOf (numC t p)).length≤120:=hf.1
    omega
theorem sub_pos {n k:Nat} (h:k≤n):SubC (posC n) (posC k):=by
  induction n with
  | zero =>
    have:k=0:=by omega
    subst this;exact .root
  | succ n ih =>
    by_cases e:k=n + 1
    · subst e;exact .root
    · exact (SubC.root.step (show optC (posC (n + 1)) (posC n) from .inl ((hasL_mk _ _ _).2 (by simp)))).trans (ih (by omega))
theorem sub_negI {n k:Nat} (h:k≤n):SubC (negIC n) (negIC k):=by
  induction n with
  | zero =>
    have:k=0:=by omega
    subst this;exact .root
  | succ n ih =>
    by_cases e:k=n + 1
    · subst e;exact .root
    · exact (SubC.root.step (show optC (negIC (n + 1)) (negIC n) from .inr ((hasR_mk _ _ _).2 (by simp)))).trans (ih (by omega))
theorem intC_nat (n:Nat):intC (n:Int)=posC n:=by unfold intC;rw [if_pos (by omega)];rfl
theorem intC_negn (n:Nat):intC (-(n:Int))=negIC n:=by
  unfold intC
  by_cases h:n=0
  · subst h;rfl
  · rw [if_neg (by omega),show (- -(n:Int)).toNat=n from by omega]
theorem num_side {t:Int} {p:Nat} (hr:Red t p) (hp:0 < p):numC t p=mkC [numC (redT (t - 1) p).1 (redT (t - 1) p).2] [numC (redT (t + 1) p).1 (redT (t + 1) p).2]:=numC_step hp (hr.resolve_left (by omega))
theorem num_all {t:Int} {p:Nat} (hr:Red t p) (h:t.natAbs / 2 ^ p < 120):∀ a,SubC (numC t p) a→a∈numU t p 121:=fun a ha=>num_in hr (by
  have h0:0 < 2 ^ p:=Nat.pow_pos (by decide)
  have h1:t.natAbs < 120 * 2 ^ p:=(Nat.div_lt_iff_lt_mul h0).1 h
  have e:((2 ^ p:Nat):Int)=(2:Int) ^ p:=by simp
  have h2:(0:Int) < 2 ^ p:=by rw [← e];omega
  constructor
  · have : -121 ≤ t / 2 ^ p := by
      apply (Int.le_ediv_iff_mul_le h2).2
      rw [← e];omega
    simpa using this
  · have : t / 2 ^ p < 121 := by
      apply (Int.ediv_lt_iff_lt_mul h2).2
      rw [← e];omega
    have:t / 2 ^ p + 1≤121:=by omega
    simpa using this) ha
end Go.Proofs.YtiidnnpanickaaaGreatDoor
