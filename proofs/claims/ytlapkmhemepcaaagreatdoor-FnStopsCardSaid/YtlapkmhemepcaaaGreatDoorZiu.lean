import Derived.Test.YtlapkmhemepcaaaGreatDoorZih
import Derived.Test.YtlapkmhemepcaaaGreatDoorZi1g
/- Lemmas. -/
set_option linter.all false
namespace Go.Proofs.YtlapkmhemepcaaaGreatDoor
open Go.RowKit
theorem ygn {M I:Nat->Prop}(pb ob sb:Nat)(ms mn:Value)(V:List PL)(BV:List Nat)(r:Nat)(W:World)(hP:PoolS M I W pb V BV (.map (some ob)) (.map (some sb)) ms mn)(hOK:PoolOK V BV)(hmo:MapF encP encB W ob (λ_=>none))(hmap:MapF encN encN W sb (λ_=>none))
  (hM:∀q,M q->q<W.heap.size/\q≠ob/\q≠sb) (hI:∀q,I q->q<W.heap.size/\q≠ob/\q≠sb) (hos:ob≠sb) (h1:r<V.length) (hn:V.length<=240) :
  Calls Tryz.prog 60 #[.pointer (some ⟨pb,0,none⟩),.int .i64 (r:Int)] W λe w'=>ye5 (canU (za0 V)) pb ob sb ms mn W V M I ((za0 V).getD r 0) e w' :=
 ydg (U:=canU (za0 V)) (by unfold canU;rw[yZ,uJ,za2];omega) pb ob sb ms mn r V BV M I _ _ W
  ⟨hP,hOK,λx hx=>y8 _ (zbk (by rw[za2];exact hx)),hmo,OrdF.none _,hmap,CanMO.none V,hM,hI,hos⟩ h1 (λa ha=>List.mem_append_right _ (y6.2 ⟨a,zh3 hOK h1 ha,rfl⟩))
