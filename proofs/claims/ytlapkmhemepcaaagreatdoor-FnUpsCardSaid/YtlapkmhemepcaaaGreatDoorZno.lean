import Derived.Test.YtlapkmhemepcaaaGreatDoorZnm
/- Lemmas. -/
namespace Go.Proofs.YtlapkmhemepcaaaGreatDoor
set_option linter.unusedVariables false
set_option linter.unusedSimpArgs false
open Go.RowKit
theorem zv7:zfz [] []=[([],[])]:=by decide
theorem zvu:zfz [[([],[])]] [[([],[])]]=ze1 2:=by decide
theorem znf:DF [nn1] [([],[])]/\zas [([],[])]=nn1:=by
 have h:=ztn (U:=[]) (FL:=[]) (FR:=[]) (by simp) (by simp);rw[zv7]at h;exact h
theorem ycb:DF [nn1,nn4] (ze1 2)/\zas (ze1 2)=nn4:=by
 have h:=ztn (U:=[nn1]) (FL:=[[([],[])]]) (FR:=[[([],[])]]) (fun Fm h=>by rw[List.mem_singleton.1 h];exact znf.1) (fun Fm h=>by rw[List.mem_singleton.1 h];exact znf.1);rw[zvu,List.map_singleton,znf.2]at h;exact h
end Go.Proofs.YtlapkmhemepcaaaGreatDoor
