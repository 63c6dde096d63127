import Derived.Test.YtkofnbjjbcohgaaGreatDoorZw4
import Derived.Test.YtkofnbjjbcohgaaGreatDoorZwj
/- Lemmas. -/
namespace Go.Proofs.YtkofnbjjbcohgaaGreatDoor
set_option linter.unusedVariables false
set_option linter.unusedSimpArgs false
open Go.RowKit
theorem zed (s:ByteArray)(k:Nat)(b:UInt8)(h:s.data.toList[k]?=some b)(ik:IntKind)(W:World):(Instr.index 9 (.string s) (.int ik (k:Int))).run Tryz.prog W=.ok (.int .u8 (b.toNat:Int)) W:=by
 have hk:k<s.size:=by
  have:=(List.getElem?_eq_some_iff.1 h).1;rw[Array.length_toList]at this
  exact this
 have h2:s[k]?=some b:=by
  have e:s.data[k]?=some b:=by rw[←Array.getElem?_toList];exact h
  rw[getElem?_pos s k hk];have e2:=(Array.getElem?_eq_some_iff.1 e).2;exact congrArg some e2
 simp[Instr.index,asIntOf,run_underlying Tryz.underlying9,h2]
theorem zyn (b c:UInt8):(((b.toNat:Int)) != ((c.toNat:Int)))=!decide (b=c):=by
 by_cases h:b=c
 ·subst h;simp
 ·have h1:b.toNat≠c.toNat:=fun e=>h (UInt8.toNat_inj.1 e)
  have h2:(b.toNat:Int)≠(c.toNat:Int):=fun e=>h1 (by omega)
  simp[h,h2]
set_option maxHeartbeats 1000000 in
theorem zmb (s:ByteArray)(m:Nat)(w:World)(hs:s.size<1000000000)(g:Bool)(hg:g=true↔zcb s/\s.size≤m) :
  Calls Tryz.prog 35 #[.string s,.int .i64 (m:Int)] w fun e w'=>e=.returned (.bool g)/\w'=w:=by
 have HG:=Hh hg;clear hg;have hsz:s.data.toList.length=s.size:=by rw[Array.length_toList];rfl
 have HSz:=Hh hsz;clear hsz;go_enter Tryz.func35,Tryz.ntmps35;go_wp2;go_loop [5] (fun i=>∃k:Nat,i=.int .i64 k/\k≤s.size/\∀(j:Nat) (b:UInt8),j<k→s.data.toList[j]?=some b→b=76∨b=82) (fun i=>s.size-(intOf i).toNat)
 case atStart=>exact⟨0,rfl,Nat.zero_le _,fun j b hj=>by omega⟩
 case round =>
  obtain⟨k,rfl,hk,hall⟩:=hrel;have HAll:=Hh hall;clear hall;by_cases hlt:k<s.size
  ·obtain⟨b,hb⟩:∃b,s.data.toList[k]?=some b:=⟨_,List.getElem?_eq_getElem (by rw[HSz.out];exact hlt)⟩
   have hrun:=zed s k b hb .i64 w;have HB:=Hh hb;clear hb;by_cases h1:b=76
   ·subst h1
    have HNext:=Hh (show ∀(j:Nat) (b:UInt8),j<k+1→s.data.toList[j]?=some b→b=76∨b=82 from fun j b hj hb=>by
     by_cases e:j=k
     ·subst e;have e:=HB.out.symm.trans hb;cases e;exact .inl rfl
     ·exact HAll.out j b (by omega) hb)
    go_wp2;go_round
    case rel=>exact⟨k+1,by go_num,by omega,HNext.out⟩
    case measure=>simp[intOf];omega
   ·have n1:((b.toNat:Int) != 76)=true:=by have:=zyn b 76;rw[show((76:UInt8).toNat:Int)=76 from rfl]at this;rw[this];simp[h1]
    have HH1:=Hh h1;clear h1;by_cases h2:b=82
    ·subst h2
     have HNext:=Hh (show ∀(j:Nat) (b:UInt8),j<k+1→s.data.toList[j]?=some b→b=76∨b=82 from fun j b hj hb=>by
      by_cases e:j=k
      ·subst e;have e:=HB.out.symm.trans hb;cases e;exact .inr rfl
      ·exact HAll.out j b (by omega) hb)
     clear n1;go_wp2;go_round
     case rel=>exact⟨k+1,by go_num,by omega,HNext.out⟩
     case measure=>simp[intOf];omega
    ·have n2:((b.toNat:Int) != 82)=true:=by have:=zyn b 82;rw[show((82:UInt8).toNat:Int)=82 from rfl]at this;rw[this];simp[h2]
     have HH2:=Hh h2;clear h2;have hgf:g=false:=by
      cases hgc:g with
      | false=>rfl
      | true =>
       rcases (HG.out.1 hgc).1 b (List.mem_of_getElem? HB.out)with e|e
       ·exact absurd e HH1.out
       ·exact absurd e HH2.out
     subst hgf;go_wp2;go_ret;exact⟨rfl,rfl⟩
  ·have hke:k=s.size:=by omega
   subst hke;clear hlt hk;have hm:zcb s:=fun b hb=>by
    obtain⟨j,hj,rfl⟩:=List.getElem_of_mem hb;exact HAll.out j _ (by rw[←HSz.out];exact hj) (List.getElem?_eq_getElem hj)
   have HM:=Hh hm;clear hm;have hge:g=decide (s.size≤m):=by
    by_cases hle:s.size≤m
    ·rw[decide_eq_true hle];exact HG.out.2 ⟨HM.out,hle⟩
    ·rw[decide_eq_false hle]
     cases hgc:g with
     | false=>rfl
     | true=>exact absurd (HG.out.1 hgc).2 hle
   have HGe:=Hh hge;clear hge;go_wp2;go_ret;exact⟨by rw[HGe.out];rfl,rfl⟩
theorem zie (s:ByteArray)(w:World)(hs:s.size<1000000000)(g:Bool)(hg:g=true↔zcb s/\s.size≤16) :
  Calls Tryz.prog 17 #[.string s] w fun e w'=>e=.returned (.bool g)/\w'=w:=by
 have HG:=Hh (zmb s 16 w hs g hg);clear hg;go_enter Tryz.func17,Tryz.ntmps17;go_wp2_with fail;refine HG.out.mono ?_
 rintro e w' ⟨rfl,rfl⟩;go_wp2;go_ret;exact⟨rfl,rfl⟩
end Go.Proofs.YtkofnbjjbcohgaaGreatDoor
