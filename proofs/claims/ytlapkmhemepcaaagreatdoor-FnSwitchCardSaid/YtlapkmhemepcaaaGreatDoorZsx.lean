import Derived.Test.YtlapkmhemepcaaaGreatDoorZsw
/- Lemmas. -/
set_option linter.all false
namespace Go.Proofs.YtlapkmhemepcaaaGreatDoor
open Go.RowKit
theorem ztu {R:Nat->Prop}(nv:Value)(Fi:List (List Int × List Int))(w:World)(h:NodeL R encI w nv Fi)(g:Bool)(hg:g=true↔zd6 Fi) : Calls Tryz.prog 72 #[.agg #[nv]] w λe w'=>e=.returned (.bool g)/\Fr NoM w w':=by refine(zvd nv Fi w h).mono ?_;rintro e w' ⟨b,rfl,hb,f⟩;have:b=g:=by{cases b <;> cases g <;> simp_all};exact⟨by rw[this],f⟩
