import Derived.Test.YtkofnbjjbcohgaaGreatDoorZw2
/- Lemmas. -/
namespace Go.Proofs.YtkofnbjjbcohgaaGreatDoor
set_option linter.unusedVariables false
set_option linter.unusedSimpArgs false
open Go.RowKit
theorem znz {Fs:List PL}(h:zeb (i2 Fs)):0<Fs.length/\Fs.length≤120/\(∀y∈Fs,y.1.length≤24/\y.2.length≤24)/\PoolOK Fs (zau Fs)/\addB [] [] Fs=(Fs,zau Fs,List.range Fs.length)/\zdm [] [] Fs=Fs.length-1:=by
 obtain⟨h1,ho,hu,hk,hr⟩:=(zmi Fs).1 h;have hn:=zg5 ho hk;have hf:=h1;unfold zby at hf;rw[decide_eq_true_eq]at hf;have ha:=zmz Fs ho hu hn;refine⟨by omega,hf.1,hf.2.2,zfi ho hu hn,ha,?_⟩;unfold zdm;rw[ha];show(List.range Fs.length).getD (Fs.length-1) 0=_
 rw[zas,if_pos (by omega)]
theorem zt9 {Fi:List (List Int × List Int)}(h:zeb Fi):∃Fs,Fi=i2 Fs:=by
 obtain⟨Fs,e,_⟩:=zgx h.2.1;exact⟨Fs,e⟩
def thrI:Option Nat→Int
 | some z=>(z:Int)
 | none=>-1
end Go.Proofs.YtkofnbjjbcohgaaGreatDoor
