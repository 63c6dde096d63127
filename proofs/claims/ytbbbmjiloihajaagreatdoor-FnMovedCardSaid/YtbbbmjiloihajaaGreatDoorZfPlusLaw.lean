import Derived.Test.YtbbbmjiloihajaaGreatDoorZfCanSumR
/- What the claim of FnMovedCard needs of: PlusLaw. -/
namespace Go.Proofs.YtbbbmjiloihajaaGreatDoor
set_option linter.unusedVariables false
set_option linter.unusedSimpArgs false
open Go.RowKit
theorem zp0 (x:Nat):sumC zk8 x=x:=by
 induction x using Nat.strongRecOn with
 | _ x ih =>
  refine zib (fun i=>?_) fun i=>?_
  ·rw[ze0]
   constructor
   ·rintro(⟨l,h,_⟩|⟨l,h,rfl⟩)
    ·exact absurd h (ycu l)
    ·rw[ih l (za7 (.inl h))];exact h
   ·intro h
    exact .inr ⟨i,h,ih i (za7 (.inl h))⟩
  ·rw[zdz]
   constructor
   ·rintro(⟨l,h,_⟩|⟨l,h,rfl⟩)
    ·exact absurd h (yct l)
    ·rw[ih l (za7 (.inr h))];exact h
   ·intro h
    exact .inr ⟨i,h,ih i (za7 (.inr h))⟩
theorem yet:zab [([],[])]=zk8:=zvk
theorem zu3 {chk:Bool}{Fi:List (List Int × List Int)}:zee chk (some [([],[])]) Fi=zee false (some [([],[])]) Fi:=by
 by_cases h:zb2 Fi/\zf3 (i2 [([],[])]) (i2 (csC Fi))=true
 ·obtain⟨h1,h2⟩:=h
  have hg:=(zce.1 h2).2.1;have e1:csS [([],[])] Fi=csC Fi:=by
   unfold csS sumN;rw[yet,zp0,zk6 hg]
  have e2:canN (csC Fi)=csC Fi:=by
   unfold csC canN;rw[zb7,zfc (zcp _).1]
  have hf:zam (canN (csS [([],[])] Fi))=true:=by
   rw[e1,e2];have:=hg.1;rw[zhm]at this
   exact this
  rw[zgd h1 h2 (fun _=>hf),zgd h1 h2 (fun _=>hf)]
 ·rw[zge fun q=>h ⟨q.1,q.2.1⟩,zge fun q=>h ⟨q.1,q.2.1⟩]
theorem zmz {chk:Bool}{Fi:List (List Int × List Int)}{Fs:List PL}(h:zee chk (some [([],[])]) Fi=some Fs):Fs=csC Fi/\zb2 (i2 (csC Fi)):=by
 rw[zu3]at h;by_cases hc:zb2 Fi/\zf3 (i2 [([],[])]) (i2 (csC Fi))=true
 ·have hg:=(zce.1 hc.2).2.1
  rw[zgd hc.1 hc.2 (fun q=>by cases q)]at h;have e1:csS [([],[])] Fi=csC Fi:=by
   unfold csS sumN;rw[yet,zp0,zk6 hg]
  have e2:canN (csC Fi)=csC Fi:=by
   unfold csC canN;rw[zb7,zfc (zcp _).1]
  rw[e1,e2]at h;exact⟨(Option.some.inj h).symm,hg⟩
 ·rw[zge fun q=>hc ⟨q.1,q.2.1⟩]at h
  cases h
theorem zzb {T:Int}{p:Nat}(hr:Red T p):csC (i2 (numN T p))=numN T p:=by
 unfold csC canN numN;rw[zb8,zb7,←zpm hr,zfc (zzf _ _)]
theorem zz9 {Fi:List (List Int × List Int)}{T:Int}{p:Nat}(hr:Red T p)(hg:zb2 (i2 (csC Fi))):zee true (some (csC Fi)) (i2 (numN T p))=zee false (some (csC Fi)) (i2 (numN T p)):=by
 by_cases h:zb2 (i2 (numN T p))/\zf3 (i2 (csC Fi)) (i2 (csC (i2 (numN T p))))=true
 ·obtain⟨h1,h2⟩:=h
  have hf:zam (canN (csS (csC Fi) (i2 (numN T p))))=true:=by
   have hs:=(zce.1 h2).2.2.2;rw[zb8,zb8]at hs;have e:zab (csC Fi)=canC (zab (natF Fi)):=by unfold csC canN;rw[zb7]
   have e2:zab (csC (i2 (numN T p)))=nr T p:=by rw[zzb hr];unfold numN;rw[zb7,zpm hr]
   have hcf:zam (zak (canC (zab (natF Fi))))=true:=by
    have:=hg.1;rw[zhm]at this
    exact this
   have hl:(zak (sumC (canC (zab (natF Fi))) (nr T p))).length≤120:=by
    unfold sumN at hs;rw[e,e2]at hs;unfold zam at hs;rw[decide_eq_true_eq]at hs;exact hs.1
   have key:=zxs T p (zcp _).1 hcf hl;unfold canN csS sumN;rw[zb7,e,e2];exact key
  rw[zgd h1 h2 (fun _=>hf),zgd h1 h2 (fun _=>hf)]
 ·rw[zge fun q=>h ⟨q.1,q.2.1⟩,zge fun q=>h ⟨q.1,q.2.1⟩]
theorem zxr (Fi:List (List Int × List Int)){T:Int}{p:Nat}(hr:Red T p):csR true [Fi,i2 (numN T p)]=csR false [Fi,i2 (numN T p)]:=by
 unfold csR;rw[if_pos (by simp),if_pos (by simp)];unfold csF;rw[List.foldl_cons,List.foldl_cons,List.foldl_nil,List.foldl_cons,List.foldl_cons,List.foldl_nil,zu3 (chk:=true)];cases h:zee false (some [([],[])]) Fi with
 | none=>rfl
 | some Fs =>
  obtain⟨rfl,hg⟩:=zmz h;exact zz9 hr hg
end Go.Proofs.YtbbbmjiloihajaaGreatDoor
