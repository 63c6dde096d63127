import Derived.Test.YtkofnbjjbcohgaaGreatDoorZw4
import Derived.Test.YtkofnbjjbcohgaaGreatDoorZwf
import Derived.Test.YtkofnbjjbcohgaaGreatDoorZww
/- Lemmas. -/
namespace Go.Proofs.YtkofnbjjbcohgaaGreatDoor
set_option linter.unusedVariables false
set_option linter.unusedSimpArgs false
open Go.RowKit
set_option maxHeartbeats 4000000 in
theorem zsp (x y z:Int)(b:Nat)(w:World)(h0:w.cell? ⟨b,0,none⟩=some (.int .i64 x))(h1:w.cell? ⟨b,1,none⟩=some (.int .i64 y))(h2:w.cell? ⟨b,2,none⟩=some (.int .i64 z)) :
  Calls Tryz.prog 43 #[.slice (some ⟨b,0,none⟩) 3 3] w fun e w'=>e=.returned (.int .i64 (orI x (orI y z)))/\w'=w:=by
 have H0:=Hh h0;have H1:=Hh h1;have H2:=Hh h2;clear h0 h1 h2;go_enter Tryz.func43,Tryz.ntmps43;go_wp2;go_loopw [8] (fun i W=>∃k:Nat,i=.int .i64 k/\k≤3/\(1≤k→x=0)/\(2≤k→y=0)/\(3≤k→z=0)/\W=w) (fun i _=>3-(intOf i).toNat)
 case atStart=>exact⟨0,rfl,by omega,fun h=>by omega,fun h=>by omega,fun h=>by omega,rfl⟩
 case round =>
  obtain⟨k,rfl,hk,hx,hy,hz,hw⟩:=hrel;have HX:=Hh hx;have HY:=Hh hy;have HZ:=Hh hz;have HW:=Hh hw;clear hx hy hz;have hk3:k=0∨k=1∨k=2∨k=3:=by omega
  rcases hk3 with rfl|rfl|rfl|rfl
  ·have c0:wr.cell? ⟨b,0,none⟩=some (.int .i64 x):=by rw[hw];exact H0.out
   clear hw hk;by_cases he:x=0
   ·have hb:(x == 0)=true:=by simpa using he
    have HE:=Hh he;clear he;go_wp2;go_roundw
    case rel=>exact⟨1,rfl,by omega,fun _=>HE.out,fun h=>by omega,fun h=>by omega,HW.out⟩
    case measure=>simp[intOf]
   ·have hb:(x == 0)=false:=by simpa using he
    have HE:=Hh he;clear he;go_wp2;go_ret;exact⟨by rw[show orI x (orI y z)=x from if_neg HE.out];rfl,HW.out⟩
  ·have c1:wr.cell? ⟨b,1,none⟩=some (.int .i64 y):=by rw[hw];exact H1.out
   clear hw hk;by_cases he:y=0
   ·have hb:(y == 0)=true:=by simpa using he
    have HE:=Hh he;clear he;go_wp2;go_roundw
    case rel=>exact⟨2,rfl,by omega,fun _=>HX.out (by omega),fun _=>HE.out,fun h=>by omega,HW.out⟩
    case measure=>simp[intOf]
   ·have hb:(y == 0)=false:=by simpa using he
    have HE:=Hh he;clear he;go_wp2;go_ret;exact⟨by rw[show orI x (orI y z)=y from(if_pos (HX.out (by omega))).trans (if_neg HE.out)];rfl,HW.out⟩
  ·have c2:wr.cell? ⟨b,2,none⟩=some (.int .i64 z):=by rw[hw];exact H2.out
   clear hw hk;by_cases he:z=0
   ·have hb:(z == 0)=true:=by simpa using he
    have HE:=Hh he;clear he;go_wp2;go_roundw
    case rel=>exact⟨3,rfl,by omega,fun _=>HX.out (by omega),fun _=>HY.out (by omega),fun _=>HE.out,HW.out⟩
    case measure=>simp[intOf]
   ·have hb:(z == 0)=false:=by simpa using he
    have HE:=Hh he;clear he;go_wp2;go_ret;exact⟨by rw[show orI x (orI y z)=z from(if_pos (HX.out (by omega))).trans (if_pos (HY.out (by omega)))];rfl,HW.out⟩
  ·clear hw hk
   go_wp2;go_ret;exact⟨by rw[show orI x (orI y z)=0 from(if_pos (HX.out (by omega))).trans ((if_pos (HY.out (by omega))).trans (HZ.out (by omega)))];rfl,HW.out⟩
theorem zy0 (a:Option Addr)(n c k b off:Nat)(hk:k<n)(ha:a=some ⟨b,off,none⟩)(w:World) :
  (Instr.indexAt 87 (.slice a n c) (.int .i64 (k:Int))).run Tryz.prog w=.ok (.pointer (some ⟨b,off+k,none⟩)) w:=by
 subst ha;go_simp
set_option maxHeartbeats 1000000 in
theorem zic (v:Value)(L:List Bool)(w:World)(hL:Bools w v L) :
  Calls Tryz.prog 76 #[v,.bool false] w fun e w'=>∃r:Int,e=.returned (.int .i64 r)/\(0≤r↔false∈L)/\w'=w:=by
 obtain⟨a,c,rfl,hac,hcm,hL⟩:=hL;have HL:=Hh hL;clear hL;go_enter Tryz.func76,Tryz.ntmps76;go_wp2;go_loop [8] (fun i=>∃k:Nat,i=.int .i64 k/\k≤L.length/\false ∉ L.take k) (fun i=>L.length-(intOf i).toNat)
 case atStart=>exact⟨0,rfl,Nat.zero_le _,by simp⟩
 case round =>
  obtain⟨k,rfl,hk,hno⟩:=hrel;have HNo:=Hh hno;clear hno;by_cases hlt:k<L.length
  ·obtain⟨m,hm⟩:∃m,L[k]?=some m:=⟨_,List.getElem?_eq_getElem hlt⟩
   obtain⟨b1,o1,ha,hc⟩:=HL.out k m hm;have ix:=zy0 a L.length c k b1 o1 hlt ha;have hc1:w.cell? ⟨b1,o1+k,none⟩=some (.bool m):=hc;have HM:=Hh hm;clear hm ha hc;cases m with
   | false =>
    go_wp2;go_ret;exact⟨(k:Int),rfl,⟨fun _=>List.mem_of_getElem? HM.out,fun _=>by omega⟩,rfl⟩
   | true =>
    go_wp2;go_round
    case rel=>exact⟨k+1,by go_num,by omega,fun h=>by
     obtain⟨hkl,e⟩:=List.getElem?_eq_some_iff.1 HM.out
     rw[List.take_succ_eq_append_getElem hkl,List.mem_append,List.mem_singleton]at h;rcases h with h|h
     ·exact HNo.out h
     ·rw[e]at h;cases h⟩
    case measure=>simp[intOf];omega
  ·have hk':k=L.length:=by omega
   subst hk';have hno:false ∉ L:=by have:=HNo.out;rwa [List.take_length]at this
   have HN:=Hh hno;clear hno;go_wp2;go_ret;exact⟨-1,rfl,⟨fun h=>by omega,fun h=>absurd h HN.out⟩,rfl⟩
set_option maxHeartbeats 1000000 in
theorem zgb (v:Value)(L:List Bool)(w:World)(hL:Bools w v L) :
  Calls Tryz.prog 46 #[v,.bool false] w fun e w'=>e=.returned (.bool (decide (false∈L)))/\w'=w:=by
 have HL:=Hh (zic v L w hL);clear hL;go_enter Tryz.func46,Tryz.ntmps46;go_wp2_with fail;refine HL.out.mono ?_
 rintro e w1 ⟨r,rfl,hr,rfl⟩;have hd:decide (0≤r)=decide (false∈L):=by simp only[hr]
 have HD:=Hh hd;clear hr hd;go_wp2;go_ret;exact⟨by rw[←HD.out];rfl,rfl⟩
theorem zz0 (b1 b2:Nat)(x y:PL):orI (Lib.compareInt (b1:Int) (b2:Int)) (orI (cmpL x.1 y.1) (cmpL x.2 y.2))<0↔klt b1 x b2 y:=by
 unfold klt zac orI Lib.compareInt;by_cases h1:b1<b2
 ·have:(b1:Int)<(b2:Int):=by omega
  simp[h1,this]
 ·have h1':¬(b1:Int)<(b2:Int):=by omega
  by_cases h2:b2<b1
  ·have h2':(b2:Int)<(b1:Int):=by omega
   have:¬b1=b2:=by omega
   simp[h1,h1',h2',this]
  ·have h2':¬(b2:Int)<(b1:Int):=by omega
   have e:b1=b2:=by omega
   subst e;by_cases h3:cmpL x.1 y.1=0
   ·simp[h3]
   ·simp[h3]
end Go.Proofs.YtkofnbjjbcohgaaGreatDoor
