import Derived.Test.YtlapkmhemepcaaaGreatDoorZng
/- Lemmas. -/
namespace Go.Proofs.YtlapkmhemepcaaaGreatDoor
set_option linter.unusedVariables false
set_option linter.unusedSimpArgs false
open Go.RowKit
noncomputable def xAt (F:List PL)(k:Nat):Nat:=canC ((za0 F).getD k 0)
def yes (x y:Int × Nat):Bool:=decide (x.1*2^(16-x.2)<y.1*2^(16-y.2))
def yds (gr:Bool)(s y:Int × Nat):Bool:=if gr=true then yes s y else yes y s
def yf4 (gr:Bool)(s y:Int × Nat):Int × Nat:=if yds gr s y=true then y else s
def yet (gr:Bool):List (Int × Nat)→Int × Nat
 | []=>(0,0)
 | x::l=>l.foldl (yf4 gr) x
abbrev DyP:=(Int × Nat) × (Int × Nat)
noncomputable def yca (F:List PL)(A:List DyP)(k:Nat):DyP :=
 if isNB (xAt F k)=true then (valD (xAt F k),valD (xAt F k))
 else (yet true ((za5 F k).1.map fun l=>(A.getD l ((0,0),(0,0))).2),yet false ((za5 F k).2.map fun l=>(A.getD l ((0,0),(0,0))).1))
noncomputable def stL (F:List PL):Nat→List DyP
 | 0=>[]
 | k+1=>stL F k ++ [yca F (stL F k) k]
noncomputable def sL (F:List PL)(k:Nat):Int × Nat:=(yca F (stL F k) k).1
noncomputable def sR (F:List PL)(k:Nat):Int × Nat:=(yca F (stL F k) k).2
theorem yas (n:Nat)(hn:n<1000000000)(W:World):(Instr.makeSlice 103 (.int .i64 (n:Int)) (.int .i64 (n:Int))).run Tryz.prog W=.ok (.slice (some ⟨W.heap.size,0,none⟩) n n) (W.alloc (.cells (zbz encB false n) 4)):=by
 obtain⟨i0,hi,hz0,hz1,hz2⟩:=info_parts zk7;have h:=run_make (P:=Tryz.prog) W 103 4 i0 (.bool false) Tryz.underlying103 hi hz0 .i64 .i64 (n:Int) (n:Int) (by omega) (by omega) (by rw[hz2];omega) (by omega);rw[h,hz1,show((n:Int)).toNat=n from by omega,Nat.mul_one];have:madeCells (Value.cells (.bool false)) n=(zbz encB false n):=by
  apply Array.ext'
  unfold zbz;rw[List.toList_toArray,madeCells,Array.toList_map,Array.toList_range];refine(List.eq_replicate_iff.2 ⟨by simp,fun b hb=>?_⟩:_=List.replicate n (Value.bool false)).trans (by simp[encB]);obtain⟨i,_,rfl⟩:=List.mem_map.1 hb;show(Value.cells (.bool false))[i%(Value.cells (.bool false)).size]! = .bool false
  rw[show(Value.cells (.bool false)).size=1 from rfl,Nat.mod_one];rfl
 rw[this]
section
variable {W W':World}{g n k:Nat}{f:Nat→Int × Nat}{o:Option (Int × Nat)}{M:Nat→Prop}
end
section
variable {W W':World}{g n k:Nat}{F:List PL}{M:Nat→Prop}
end
end Go.Proofs.YtlapkmhemepcaaaGreatDoor
