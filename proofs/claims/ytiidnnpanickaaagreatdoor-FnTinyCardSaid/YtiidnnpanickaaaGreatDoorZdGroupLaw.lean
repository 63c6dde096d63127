import Derived.Test.YtiidnnpanickaaaGreatDoorZdMinLaw
import Derived.Test.YtiidnnpanickaaaGreatDoorZdSumFn
/- What the claim of FnTinyCard needs of: GroupLaw. -/
namespace Go.Proofs.YtiidnnpanickaaaGreatDoor
set_option linter.unusedVariables false
set_option linter.unusedSimpArgs false
open Go.RowKit
theorem formOf_codeF {Fs:List PL} (h:goodI (i2 Fs)):formOf (codeF Fs)=Fs:=(good_form h).of.symm
theorem codeF_zero:codeF [([],[])]=zeroC:=by
  unfold codeF zeroC
  rw [show codesOf [([],[])]=codesOf ([] ++ [([],[])]) from rfl,codesOf_snoc]
  rfl
theorem lw_code (C L R:List Nat):(!geC zeroC (mkC (atAll C L) R))=L.any fun k=>geC (C.getD k 0) zeroC:=by
  refine Bool.eq_iff_iff.2 ?_
  rw [Bool.not_eq_true',List.any_eq_true,← Bool.not_eq_true,zero_ge]
  constructor
  · intro h
    refine Classical.byContradiction fun q=>h fun l hl=>?_
    obtain ⟨k,hk,rfl⟩:=mem_atAll.1 ((hasL_mk _ _ l).1 hl)
    cases e:geC (C.getD k 0) zeroC with
    | false=>rfl
    | true=>exact absurd ⟨k,hk,e⟩ q
  · rintro ⟨k, hk, e⟩ h
    rw [h _ ((hasL_mk _ _ _).2 (mem_atAll.2 ⟨k,hk,rfl⟩))] at e
    cases e
theorem rw_code (C L R:List Nat):(!geC (mkC L (atAll C R)) zeroC)=R.any fun k=>geC zeroC (C.getD k 0):=by
  refine Bool.eq_iff_iff.2 ?_
  rw [Bool.not_eq_true',List.any_eq_true,← Bool.not_eq_true,ge_zero]
  constructor
  · intro h
    refine Classical.byContradiction fun q=>h fun l hl=>?_
    obtain ⟨k,hk,rfl⟩:=mem_atAll.1 ((hasR_mk _ _ l).1 hl)
    cases e:geC zeroC (C.getD k 0) with
    | false=>rfl
    | true=>exact absurd ⟨k,hk,e⟩ q
  · rintro ⟨k, hk, e⟩ h
    rw [h _ ((hasR_mk _ _ _).2 (mem_atAll.2 ⟨k,hk,rfl⟩))] at e
    cases e
end Go.Proofs.YtiidnnpanickaaaGreatDoor
