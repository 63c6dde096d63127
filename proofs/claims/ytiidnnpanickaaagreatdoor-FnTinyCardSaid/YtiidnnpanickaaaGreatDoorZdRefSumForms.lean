import Derived.Test.YtiidnnpanickaaaGreatDoorZdSumFn
import Derived.Test.YtiidnnpanickaaaGreatDoorZdRefNeg
/- What the claim of FnTinyCard needs of: RefSumForms. -/
namespace Go.Proofs.YtiidnnpanickaaaGreatDoor
set_option linter.unusedVariables false
set_option linter.unusedSimpArgs false
open Go.RowKit
theorem l3Good_g {R:Nat→Prop} (nv:Value) (Fi:List (List Int × List Int)) (w:World) (h:NodeL R encI w nv Fi) (g:Bool) (hg:g=true↔goodI Fi) :
    Calls Tryz.prog 53 #[.agg #[nv]] w fun e w'=>e=.returned (.bool g)∧Fr NoM w w':=by
  refine (l3Good_any nv Fi w h).mono ?_
  rintro e w' ⟨b,rfl,hb,f⟩
  have:b=g:=by
    cases b <;> cases g <;> simp_all
  exact ⟨by rw [this],f⟩
theorem good_dec (Fi:List (List Int × List Int)):∃ g:Bool,(g=true↔goodI Fi):=by
  by_cases h:goodI Fi
  · exact ⟨true,by simp [h]⟩
  · exact ⟨false,by simp [h]⟩
end Go.Proofs.YtiidnnpanickaaaGreatDoor
