import Derived.Test.YtcalpapdkmnblaaGreatDoorZlw
/- Lemmas. -/
namespace Go.Proofs.YtcalpapdkmnblaaGreatDoor
set_option linter.unusedVariables false
set_option linter.unusedSimpArgs false
open Go.RowKit
theorem zk7 (n:Nat):FormC (zam n) (zbt (n+1)):=by
 have hget:∀ {j:Nat}{x:PL},(zbt (n+1))[j]?=some x→j<n+1/\x=(List.range j,List.range j):=fun {j x} h=>by
  have hj:=(List.getElem?_eq_some_iff.1 h).1;rw[zbk]at hj;rw[zib hj]at h;exact⟨hj,(Option.some.inj h).symm⟩
 have hP:∀j,j<n+1→((List.range (n+1)).map zam).getD j 0=zam j:=fun j hj=>by
  rw[List.getD_eq_getElem?_getD,List.getElem?_map,List.getElem?_range hj];rfl
 refine⟨(List.range (n+1)).map zam,⟨by rw[List.length_map,List.length_range,zbk],fun j x h=>?_,fun j x h=>?_,fun j x h=>?_,?_⟩,fun x=>?_,fun i j x y hij hx hy=>?_⟩
 ·obtain⟨_,rfl⟩:=hget h
  exact⟨fun i hi=>List.mem_range.1 hi,fun i hi=>List.mem_range.1 hi⟩
 ·obtain⟨_,rfl⟩:=hget h
  exact⟨List.pairwise_lt_range,List.pairwise_lt_range⟩
 ·obtain⟨hj,rfl⟩:=hget h
  have e:za3 ((List.range (n+1)).map zam) (List.range j)=zgr j:=by
   rw[zpa];exact List.map_congr_left fun k hk=>hP k (by have:=List.mem_range.1 hk;omega)
  rw[hP j hj,e];rfl
 ·exact List.pairwise_map.2 (List.pairwise_lt_range.imp fun h e=>by have:=zm0 e;omega)
 ·rw[List.mem_map]
  exact⟨fun⟨k,hk,e⟩=>e ▸ zsq (by have:=List.mem_range.1 hk;omega),fun h=>by
   obtain⟨k,hk,e⟩:=zkz h;exact⟨k,List.mem_range.2 (by omega),e⟩⟩
 ·obtain⟨hj,rfl⟩:=hget hy
  obtain⟨hi,rfl⟩:=hget hx;rw[hP i hi,hP j hj];exact .inl (zgq (.inl (zb1.2 ⟨i,hij,rfl⟩)))
theorem zg6 (n:Nat):zb9 (zam n)=zbt (n+1):=(zk7 n).of.symm
theorem zmv {n:Nat}(h:n≤24):zc3 (i2 (zbt (n+1)))/\zak (zbt (n+1))=zam n:=znn (zk7 n) (zg6 n ▸ zmx h)
theorem znm {c n:Nat}:zb9 c=zbt (n+1)↔c=zam n :=
 ⟨fun h=>by rw[←zf5 c,h,←zg6,zf5],fun h=>by rw[h,zg6]⟩
def IsStar (g:Bool)(Fi:List (List Int × List Int))(t:Int)(ok:Bool):Prop :=
 (ok=true/\g=true/\∃n:Nat,n≤15/\t=n/\zam n=canC (zak (natF Fi)))∨(ok=false/\t=0/\∀n:Nat,g=true→n≤15→zam n≠canC (zak (natF Fi)))
theorem IsStar.one {g ok ok':Bool}{Fi:List (List Int × List Int)}{t t':Int}(h:IsStar g Fi t ok)(h':IsStar g Fi t' ok'):t=t'∧ok=ok':=by
 rcases h with ⟨e,hg,n,hn,e1,e2⟩|⟨e,e1,hn⟩
 ·rcases h' with ⟨f,_,m,_,f1,f2⟩|⟨_,_,hm⟩
  ·have:=zm0 (e2.trans f2.symm)
   exact⟨by rw[e1,f1,this],e.trans f.symm⟩
  ·exact absurd e2 (hm n hg hn)
 ·rcases h' with ⟨_,hg,m,hm,_,f2⟩|⟨f,f1,_⟩
  ·exact absurd f2 (hn m hg hm)
  ·exact⟨e1.trans f1.symm,e.trans f.symm⟩
theorem IsStar.of {g ok:Bool}{Fi:List (List Int × List Int)}{t:Int}(h:IsStar g Fi t ok)(hg:g=true){n:Nat}(hn:n≤15)(e:zam n=canC (zak (natF Fi))):ok=true/\t=n:=by
 rcases h with ⟨h1,_,m,_,e1,e2⟩|⟨_,_,hm⟩
 ·exact⟨h1,by rw[e1,zm0 (e2.trans e.symm)]⟩
 ·exact absurd e (hm n hg hn)
end Go.Proofs.YtcalpapdkmnblaaGreatDoor
