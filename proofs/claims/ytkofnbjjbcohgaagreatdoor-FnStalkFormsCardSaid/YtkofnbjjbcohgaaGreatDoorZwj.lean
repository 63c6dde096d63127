import Derived.Lib.SlTrimSet
import Derived.Test.YtkofnbjjbcohgaaGreatDoorZw2
/- Lemmas. -/
namespace Go.Proofs.YtkofnbjjbcohgaaGreatDoor
set_option linter.unusedVariables false
set_option linter.unusedSimpArgs false
open Go.RowKit
def zf6 (s:ByteArray):List Bool:=s.data.toList.map fun b=>decide (b=76)
def zcb (s:ByteArray):Prop:=∀b∈s.data.toList,b=76∨b=82
theorem zi3 {α:Type}(p:α→Bool)(l:List α):l.dropWhile p=[]↔∀x∈l,p x=true:=by
 induction l with
 | nil=>simp
 | cons a l ih =>
  rw[List.dropWhile_cons];split
  ·rename_i h
   rw[ih];constructor
   ·intro h2 x hx
    rcases List.mem_cons.1 hx with rfl|hx
    ·exact h
    ·exact h2 x hx
   ·exact fun h2 x hx=>h2 x (List.mem_cons_of_mem _ hx)
  ·rename_i h
   constructor
   ·intro h2;cases h2
   ·intro h2;exact absurd (h2 a List.mem_cons_self) h
theorem zue (l:List UInt8):Lib.trimS l [76,82]=[]↔∀b∈l,b=76∨b=82:=by
 have hp:∀b:UInt8,([76,82]:List UInt8).contains b=true↔b=76∨b=82:=fun b=>by simp
 unfold Lib.trimS Lib.trimLeftS Lib.trimRightS;constructor
 ·intro h b hb
  rw[zi3]at h;have hm:l.reverse.dropWhile (fun b=>([76,82]:List UInt8).contains b)=[]:=by
   cases hd:l.reverse.dropWhile (fun b=>([76,82]:List UInt8).contains b)with
   | nil=>rfl
   | cons y m =>
    exfalso
    have h1:=h y (by rw[hd];simp);have h2:=List.head_dropWhile_not (fun b=>([76,82]:List UInt8).contains b) (l:=l.reverse) (by rw[hd];simp);simp only[hd,List.head_cons]at h2;rw[h1]at h2;cases h2
  rw[zi3]at hm;exact(hp b).1 (hm b (by simpa using hb))
 ·intro h
  have hm:l.reverse.dropWhile (fun b=>([76,82]:List UInt8).contains b)=[]:=by
   rw[zi3];intro b hb;exact(hp b).2 (h b (by simpa using hb))
  rw[hm];rfl
theorem zf4 (s:ByteArray)(i:Nat)(b:UInt8)(h:s.data.toList[i]?=some b):(zf6 s).getD i false=decide (b=76):=by
 unfold zf6;rw[List.getD_eq_getElem?_getD,List.getElem?_map,h];rfl
def goL (s:List Bool)(i:Nat):List Nat:=(List.range i).filter fun j=>s.getD j false
def goR (s:List Bool)(i:Nat):List Nat:=(List.range i).filter fun j=>!s.getD j false
theorem zh4 (s:List Bool)(i:Nat):goL s (i+1)=if s.getD i false=true then goL s i ++ [i]else goL s i:=by
 unfold goL;rw[List.range_succ,List.filter_append];split <;> simp_all
theorem zh3 (s:List Bool)(i:Nat):goR s (i+1)=if s.getD i false=true then goR s i else goR s i ++ [i]:=by
 unfold goR;rw[List.range_succ,List.filter_append];split <;> simp_all
theorem zp7 (s:List Bool)(i:Nat):(goL s i).length≤i:=by
 have:=(List.filter_sublist (p:=fun j=>s.getD j false) (l:=List.range i)).length_le;simpa [goL] using this
theorem zp6 (s:List Bool)(i:Nat):(goR s i).length≤i:=by
 have:=(List.filter_sublist (p:=fun j=>!s.getD j false) (l:=List.range i)).length_le;simpa [goR] using this
end Go.Proofs.YtkofnbjjbcohgaaGreatDoor
