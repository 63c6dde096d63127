import Derived.Test.YtghekfmfonoocaaGreatDoorZuj
/- Lemmas. -/
set_option linter.all false
namespace Go.Proofs.YtghekfmfonoocaaGreatDoor
open Go.RowKit
theorem yca:zht [] []=[([],[])]:=by decide
theorem ycy:zht [[([],[])]] [[([],[])]]=zfd 2:=by decide
theorem zs3:DF [nn1] [([],[])]/\zas [([],[])]=nn1:=by have a:=zzf (U:=[]) (FL:=[]) (FR:=[]) (by simp) (by simp);rw[yca]at a;exact a
theorem ymb:DF [nn1,nn4] (zfd 2)/\zas (zfd 2)=nn4:=by have a:=zzf (U:=[nn1]) (FL:=[[([],[])]]) (FR:=[[([],[])]]) (λb a=>by rw[x9.1 a];exact zs3.1) (λb a=>by rw[x9.1 a];exact zs3.1);rw[ycy,List.map_singleton,zs3.2]at a;exact a
