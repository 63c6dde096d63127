import Derived.Test.YtiidnnpanickaaaGreatDoorZcCanSumR
import Derived.Test.YtiidnnpanickaaaGreatDoorZcNumFits
import Derived.Test.YtiidnnpanickaaaGreatDoorZcGroupLaw
/- What the claim of FnExactPlusNumberCard needs of: PlusLaw. -/
namespace Go.Proofs.YtiidnnpanickaaaGreatDoor
set_option linter.unusedVariables false
set_option linter.unusedSimpArgs false
open Go.RowKit
theorem sum_zeroL (x:Nat):sumC zeroC x=x:=by
  induction x using Nat.strongRecOn with
  | _ x ih =>
    refine code_ext (fun i=>?_) fun i=>?_
    · rw [hasL_sum]
      constructor
      · rintro (⟨l, h, _⟩ | ⟨l, h, rfl⟩)
        · exact absurd h (zeroL l)
        · rw [ih l (optC_lt (.inl h))];exact h
      · intro h
        exact .inr ⟨i,h,ih i (optC_lt (.inl h))⟩
    · rw [hasR_sum]
      constructor
      · rintro (⟨l, h, _⟩ | ⟨l, h, rfl⟩)
        · exact absurd h (zeroR l)
        · rw [ih l (optC_lt (.inr h))];exact h
      · intro h
        exact .inr ⟨i,h,ih i (optC_lt (.inr h))⟩
theorem codeZ:codeF [([],[])]=zeroC:=codeF_zero
theorem cs_first {chk:Bool} {Fi:List (List Int × List Int)}:csStep chk (some [([],[])]) Fi=csStep false (some [([],[])]) Fi:=by
  by_cases h:goodI Fi∧sumOk (i2 [([],[])]) (i2 (csC Fi))=true
  · obtain ⟨h1, h2⟩ := h
    have hg:=(sumOk_iff.1 h2).2.1
    have e1:csS [([],[])] Fi=csC Fi:=by
      unfold csS sumN
      rw [codeZ,sum_zeroL,formOf_codeF hg]
    have e2:canN (csC Fi)=csC Fi:=by
      unfold csC canN
      rw [codeF_formOf,canC_self (can_is _).1]
    have hf:fitsB (canN (csS [([],[])] Fi))=true:=by
      rw [e1,e2]
      have:=hg.1
      rw [fits_i2] at this
      exact this
    rw [cs_some h1 h2 (fun _=>hf),cs_some h1 h2 (fun _=>hf)]
  · rw [cs_not fun q=>h ⟨q.1,q.2.1⟩,cs_not fun q=>h ⟨q.1,q.2.1⟩]
theorem cs_first_is {chk:Bool} {Fi:List (List Int × List Int)} {Fs:List PL} (h:csStep chk (some [([],[])]) Fi=some Fs):Fs=csC Fi∧goodI (i2 (csC Fi)):=by
  rw [cs_first] at h
  by_cases hc:goodI Fi∧sumOk (i2 [([],[])]) (i2 (csC Fi))=true
  · have hg := (sumOk_iff.1 hc.2).2.1
    rw [cs_some hc.1 hc.2 (fun q=>by cases q)] at h
    have e1:csS [([],[])] Fi=csC Fi:=by
      unfold csS sumN
      rw [codeZ,sum_zeroL,formOf_codeF hg]
    have e2:canN (csC Fi)=csC Fi:=by
      unfold csC canN
      rw [codeF_formOf,canC_self (can_is _).1]
    rw [e1,e2] at h
    exact ⟨(Option.some.inj h).symm,hg⟩
  · rw [cs_not fun q => hc ⟨q.1, q.2.1⟩] at h
    cases h
theorem csC_num {T:Int} {p:Nat} (hr:Red T p):csC (i2 (numN T p))=numN T p:=by
  unfold csC canN numN
  rw [natF_i2,codeF_formOf,← nr_of hr,canC_self (can_nr _ _)]
theorem cs_second {Fi:List (List Int × List Int)} {T:Int} {p:Nat} (hr:Red T p) (hg:goodI (i2 (csC Fi))):csStep true (some (csC Fi)) (i2 (numN T p))=csStep false (some (csC Fi)) (i2 (numN T p)):=by
  by_cases h:goodI (i2 (numN T p))∧sumOk (i2 (csC Fi)) (i2 (csC (i2 (numN T p))))=true
  · obtain ⟨h1, h2⟩ := h
    have hf:fitsB (canN (csS (csC Fi) (i2 (numN T p))))=true:=by
      have hs:=(sumOk_iff.1 h2).2.2.2
      rw [natF_i2,natF_i2] at hs
      have e:codeF (csC Fi)=canC (codeF (natF Fi)):=by unfold csC canN;rw [codeF_formOf]
      have e2:codeF (csC (i2 (numN T p)))=nr T p:=by rw [csC_num hr];unfold numN;rw [codeF_formOf,nr_of hr]
      have hcf:fitsB (formOf (canC (codeF (natF Fi))))=true:=by
        have:=hg.1
        rw [fits_i2] at this
        exact this
      have hl:(formOf (sumC (canC (codeF (natF Fi))) (nr T p))).length≤120:=by
        unfold sumN at hs
        rw [e,e2] at hs
        unfold fitsB at hs
        rw [decide_eq_true_eq] at hs
        exact hs.1
      have key:=plus_fits T p (can_is _).1 hcf hl
      unfold canN csS sumN
      rw [codeF_formOf,e,e2]
      exact key
    rw [cs_some h1 h2 (fun _=>hf),cs_some h1 h2 (fun _=>hf)]
  · rw [cs_not fun q=>h ⟨q.1,q.2.1⟩,cs_not fun q=>h ⟨q.1,q.2.1⟩]
theorem plus_same (Fi:List (List Int × List Int)) {T:Int} {p:Nat} (hr:Red T p):csR true [Fi,i2 (numN T p)]=csR false [Fi,i2 (numN T p)]:=by
  unfold csR
  rw [if_pos (by simp),if_pos (by simp)]
  unfold csF
  rw [List.foldl_cons,List.foldl_cons,List.foldl_nil,List.foldl_cons,List.foldl_cons,List.foldl_nil,cs_first (chk:=true)]
  cases h:csStep false (some [([],[])]) Fi with
  | none=>rfl
  | some Fs =>
    obtain ⟨rfl,hg⟩:=cs_first_is h
    exact cs_second hr hg
end Go.Proofs.YtiidnnpanickaaaGreatDoor
