import Derived.Test.YtghekfmfonoocaaGreatDoorZt13
/- Lemmas. -/
namespace Go.Proofs.YtghekfmfonoocaaGreatDoor
set_option linter.unusedVariables false
set_option linter.unusedSimpArgs false
open Go.RowKit
theorem zp9 (x:Nat):sumC zar x=x:=by
 induction x using Nat.strongRecOn with
 | _ x ih =>
  refine zd1 (fun i=>?_) fun i=>?_
  ·rw[zcy]
   constructor
   ·rintro(⟨l,h,_⟩|⟨l,h,rfl⟩)
    ·exact absurd h (zxc l)
    ·rw[ih l (za5 (.inl h))];exact h
   ·intro h
    exact .inr ⟨i,h,ih i (za5 (.inl h))⟩
  ·rw[zcx]
   constructor
   ·rintro(⟨l,h,_⟩|⟨l,h,rfl⟩)
    ·exact absurd h (zxb l)
    ·rw[ih l (za5 (.inr h))];exact h
   ·intro h
    exact .inr ⟨i,h,ih i (za5 (.inr h))⟩
theorem yf3:zb0 [([],[])]=zar:=zx4
theorem zuq {chk:Bool}{Fi:List (List Int × List Int)}:zek chk (some [([],[])]) Fi=zek false (some [([],[])]) Fi:=by
 by_cases h:zbf Fi/\zf9 (i2 [([],[])]) (i2 (csC Fi))=true
 ·obtain⟨h1,h2⟩:=h
  have hg:=(zc7.1 h2).2.1;have e1:csS [([],[])] Fi=csC Fi:=by
   unfold csS sumN;rw[yf3,zp9,zk5 hg]
  have e2:canN (csC Fi)=csC Fi:=by
   unfold csC canN;rw[zbm,zi6 (zga _).1]
  have hf:zam (canN (csS [([],[])] Fi))=true:=by
   rw[e1,e2];have:=hg.1;rw[zh8]at this
   exact this
  rw[zg8 h1 h2 (fun _=>hf),zg8 h1 h2 (fun _=>hf)]
 ·rw[zgz fun q=>h ⟨q.1,q.2.1⟩,zgz fun q=>h ⟨q.1,q.2.1⟩]
theorem zsu {chk:Bool}{Fi:List (List Int × List Int)}{Fs:List PL}(h:zek chk (some [([],[])]) Fi=some Fs):Fs=csC Fi/\zbf (i2 (csC Fi)):=by
 rw[zuq]at h;by_cases hc:zbf Fi/\zf9 (i2 [([],[])]) (i2 (csC Fi))=true
 ·have hg:=(zc7.1 hc.2).2.1
  rw[zg8 hc.1 hc.2 (fun q=>by cases q)]at h;have e1:csS [([],[])] Fi=csC Fi:=by
   unfold csS sumN;rw[yf3,zp9,zk5 hg]
  have e2:canN (csC Fi)=csC Fi:=by
   unfold csC canN;rw[zbm,zi6 (zga _).1]
  rw[e1,e2]at h;exact⟨(Option.some.inj h).symm,hg⟩
 ·rw[zgz fun q=>hc ⟨q.1,q.2.1⟩]at h
  cases h
theorem yec {T:Int}{p:Nat}(hr:Red T p):csC (i2 (numN T p))=numN T p:=by
 unfold csC canN numN;rw[zbc,zbm,←zve hr,zi6 (ya5 _ _)]
theorem yc9 {Gi:List (List Int × List Int)}{T:Int}{p:Nat}(hr:Red T p):zek true (some (numN T p)) Gi=zek false (some (numN T p)) Gi:=by
 by_cases h:zbf Gi/\zf9 (i2 (numN T p)) (i2 (csC Gi))=true
 ·obtain⟨h1,h2⟩:=h
  have hg:=(zc7.1 h2).2.1;have hf:zam (canN (csS (numN T p) Gi))=true:=by
   have hs:=(zc7.1 h2).2.2.2;rw[zbc,zbc]at hs;have e:zb0 (csC Gi)=canC (zb0 (natF Gi)):=by unfold csC canN;rw[zbm]
   have e2:zb0 (numN T p)=nr T p:=by unfold numN;rw[zbm,zve hr]
   have hcf:zam (zac (canC (zb0 (natF Gi))))=true:=by
    have:=hg.1;rw[zh8]at this
    exact this
   have hl:(zac (sumC (canC (zb0 (natF Gi))) (nr T p))).length≤120:=by
    unfold sumN at hs;rw[e,e2,zta]at hs;unfold zam at hs;rw[decide_eq_true_eq]at hs;exact hs.1
   have key:=zya T p (zga _).1 hcf hl;rw[zta]at key;unfold canN csS sumN;rw[zbm,e,e2];exact key
  rw[zg8 h1 h2 (fun _=>hf),zg8 h1 h2 (fun _=>hf)]
 ·rw[zgz fun q=>h ⟨q.1,q.2.1⟩,zgz fun q=>h ⟨q.1,q.2.1⟩]
theorem yb6 (Gi:List (List Int × List Int)){T:Int}{p:Nat}(hr:Red T p):csR true [i2 (numN T p),Gi]=csR false [i2 (numN T p),Gi]:=by
 unfold csR;rw[if_pos (by simp),if_pos (by simp)];unfold csF;rw[List.foldl_cons,List.foldl_cons,List.foldl_nil,List.foldl_cons,List.foldl_cons,List.foldl_nil,zuq (chk:=true)];cases h:zek false (some [([],[])]) (i2 (numN T p))with
 | none=>rfl
 | some Fs =>
  obtain⟨rfl,_⟩:=zsu h;rw[yec hr];exact yc9 hr
end Go.Proofs.YtghekfmfonoocaaGreatDoor
