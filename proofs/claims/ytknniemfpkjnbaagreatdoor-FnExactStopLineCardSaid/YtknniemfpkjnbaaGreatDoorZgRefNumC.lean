import Derived.Test.YtknniemfpkjnbaaGreatDoorZgRefNum
import Derived.Test.YtknniemfpkjnbaaGreatDoorZgRefNumA
import Derived.Test.YtknniemfpkjnbaaGreatDoorZgNumVal
/- What the claim of FnExactStopLineCard needs of: RefNumB RefNumC. -/
namespace Go.Proofs.YtknniemfpkjnbaaGreatDoor
set_option linter.unusedVariables false
set_option linter.unusedSimpArgs false
open Go.RowKit
theorem ziz {t p:Nat}(hp:p≤24):(t:Int)*2^(24-p)/2^24=((t/2^p:Nat):Int):=by
 have e1:(t:Int)*2^(24-p)=((t*2^(24-p):Nat):Int):=by simp
 have e2:(2:Int)^24=((2^24:Nat):Int):=by simp
 rw[e1,e2,←Int.natCast_ediv,show(2:Nat)^24=2^p*2^(24-p)from by rw[←Nat.pow_add,show p+(24-p)=24 from by omega],Nat.mul_div_mul_right _ _ (Nat.pow_pos (by decide))]
set_option maxRecDepth 4000 in
set_option maxHeartbeats 2000000 in
theorem zp1 (t p:Nat)(w:World)(hp:p≤24)(ht:t≤1073741824):Calls Tryz.prog 164 #[.agg #[.int .i64 (t:Int),.int .i64 (p:Int)]] w fun e w'=>e=.returned (.int .i64 ((t/2^p:Nat):Int))/\Fr NoM w w':=by
 obtain⟨w1,hw1⟩:∃w1,w1=w.alloc (.cells #[.int .i64 (t:Int),.int .i64 (p:Int)] 43):=⟨_,rfl⟩;have f1:Fr NoM w w1:=by rw[hw1];exact(Fr.refl NoM w).alloc _
 obtain⟨m,hm⟩:∃m:Int,m=(t:Int)*2^(24-p):=⟨_,rfl⟩;have hb:=zez (T:=(t:Int)) hp (by omega);rw[←hm]at hb;have HS:=Hh (show Calls Tryz.prog 163 #[.agg #[.int .i64 (t:Int),.int .i64 (p:Int)]] w1 fun e w'=>e=.returned (.int .i64 m)/\Fr NoM w1 w' from by rw[hm];exact zbt (t:Int) p w1 hp (by omega));have HE:=Hh (show m/16777216=((t/2^p:Nat):Int)from by rw[←ziz hp,hm];rfl);have F1:=Hh f1;clear f1 hm;go_enter Tryz.func164,Tryz.ntmps164;go_wp2_with fail;rw[←hw1];clear hw1;(with_reducible refine HS.out.mono ?_);rintro e w2 ⟨rfl,f2⟩;have F2:=Hh (F1.out.trans f2 (fun _ _ q=>q));clear f2;go_wp2;go_ret;exact⟨by rw[←HE.out];rfl,F2.out⟩
end Go.Proofs.YtknniemfpkjnbaaGreatDoor
