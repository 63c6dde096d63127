import Derived.Test.YtghekfmfonoocaaGreatDoorZtv
import Derived.Test.YtghekfmfonoocaaGreatDoorZtp
/- Lemmas. -/
namespace Go.Proofs.YtghekfmfonoocaaGreatDoor
set_option linter.unusedVariables false
set_option linter.unusedSimpArgs false
open Go.RowKit
theorem zxa:zg1 [] []=[([],[])]:=by decide
theorem zxr:zg1 [[([],[])]] [[([],[])]]=ze2 2:=by decide
theorem zo5:DF [nn1] [([],[])]/\zb0 [([],[])]=nn1:=by
 have h:=zu7 (U:=[]) (FL:=[]) (FR:=[]) (by simp) (by simp);rw[zxa]at h;exact h
theorem ydg:DF [nn1,nn4] (ze2 2)/\zb0 (ze2 2)=nn4:=by
 have h:=zu7 (U:=[nn1]) (FL:=[[([],[])]]) (FR:=[[([],[])]]) (fun Fm h=>by rw[List.mem_singleton.1 h];exact zo5.1) (fun Fm h=>by rw[List.mem_singleton.1 h];exact zo5.1);rw[zxr,List.map_singleton,zo5.2]at h;exact h
end Go.Proofs.YtghekfmfonoocaaGreatDoor
