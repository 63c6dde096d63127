import Derived.Test.YtiidnnpanickaaaGreatDoorZdTinyLaw
/- What the claim of FnTinyCard needs of: NumMove NumFits. -/
namespace Go.Proofs.YtiidnnpanickaaaGreatDoor
set_option linter.unusedVariables false
set_option linter.unusedSimpArgs false
open Go.RowKit
def FewC (c:Nat):Prop:=∀ s,SubC c s→(∀ A:List Nat,A.Nodup→(∀ a∈A,hasL s a)→A.length≤24)∧∀ A:List Nat,A.Nodup→(∀ a∈A,hasR s a)→A.length≤24
theorem one_len {A:List Nat} (hA:A.Nodup) (h:∀ x∈A,∀ y∈A,x=y):A.length≤24:=by
  match A,hA,h with
  | [],_,_=>simp
  | [_],_,_=>simp
  | a :: b :: l, hA, h =>
    have e:=h a (by simp) b (by simp)
    rw [List.nodup_cons] at hA
    exact absurd (by rw [e];simp) hA.1
theorem few_nr (s:Int) (P:Nat):FewC (nr s P):=fun x hx=>by
  obtain ⟨v,rfl⟩:=nr_sub hx
  exact ⟨fun A hA h=>one_len hA fun x hx y hy=>(nr_one v P).1 _ _ (h x hx) (h y hy),fun A hA h=>one_len hA fun x hx y hy=>(nr_one v P).2 _ _ (h x hx) (h y hy)⟩
theorem subC_top {c x:Nat} (h:SubC c x):x=c∨∃ y,optC c y∧SubC y x:=by
  induction h with
  | root=>exact .inl rfl
  | step _ ho ih =>
    rcases ih with rfl | ⟨y,hy,hs⟩
    · exact .inr ⟨_,ho,.root⟩
    · exact .inr ⟨y,hy,hs.step ho⟩
theorem lefts_nodup (c:Nat):(lefts c).Nodup:=List.nodup_range.sublist List.filter_sublist
theorem rights_nodup (c:Nat):(rights c).Nodup:=List.nodup_range.sublist List.filter_sublist
theorem codes_nodup2 {P L:List Nat} {n:Nat} (hP:P.Nodup) (hL:L.Pairwise (· < ·)) (hl:∀ x∈L,x < n) (hn:n≤P.length):(atAll P L).Nodup:=by
  unfold atAll
  refine List.pairwise_map.2 (hL.imp_of_mem ?_)
  intro a b ha hb hab e
  have la:=hl a ha
  have lb:=hl b hb
  rw [getD_of (List.getElem?_eq_getElem (show a < P.length by omega)),getD_of (List.getElem?_eq_getElem (show b < P.length by omega))] at e
  have:=(List.getElem_inj hP).1 e
  omega
theorem fits_of_few {c:Nat} (hl:(formOf c).length≤120) (h:FewC c):fitsB (formOf c)=true:=by
  obtain ⟨P,hA⟩:=formOf_is c
  have hPl:=hA.book.len
  have hpos:=(of_form (formOf_is c)).1
  unfold fitsB
  rw [decide_eq_true_eq]
  refine ⟨hl,by omega,fun y hy=>?_⟩
  obtain ⟨j,hj,rfl⟩:=List.getElem_of_mem hy
  have ej:=List.getElem?_eq_getElem hj
  obtain ⟨o1,o2⟩:=hA.book.opts j _ ej
  obtain ⟨u1,u2⟩:=hA.book.up j _ ej
  have hcode:=hA.book.code j _ ej
  obtain ⟨f1,f2⟩:=h (P.getD j 0) ((hA.sub _).1 (getD_mem (show j < P.length by omega)))
  constructor
  · have := f1 (atAll P (formOf c)[j].1) (codes_nodup2 hA.book.nodup u1 o1 (by omega)) (fun a ha => by rw [hcode]; exact (hasL_mk _ _ _).2 ha)
    simpa [atAll] using this
  · have := f2 (atAll P (formOf c)[j].2) (codes_nodup2 hA.book.nodup u2 o2 (by omega)) (fun a ha => by rw [hcode]; exact (hasR_mk _ _ _).2 ha)
    simpa [atAll] using this
end Go.Proofs.YtiidnnpanickaaaGreatDoor
