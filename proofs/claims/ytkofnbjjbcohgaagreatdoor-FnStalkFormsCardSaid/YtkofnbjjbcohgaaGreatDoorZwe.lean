import Derived.Laws.Concat
import Derived.Laws.DeepStrings4
import Derived.Test.YtkofnbjjbcohgaaGreatDoorZwa
import Derived.Test.YtkofnbjjbcohgaaGreatDoorZwd
/- Lemmas. -/
namespace Go.Proofs.YtkofnbjjbcohgaaGreatDoor
set_option linter.unusedVariables false
set_option linter.unusedSimpArgs false
open Go.RowKit
def zu0 (cb n m:Nat)(w:World)(e:Ending)(w':World):Prop:=∃s:ByteArray,e=.returned (.string s)/\s.size≤m/\CurS w' cb n/\Fr (fun q=>q=cb) w w'
set_option maxRecDepth 8000 in
set_option maxHeartbeats 4000000 in
theorem zyt (cb n b m:Nat)(x y z:ByteArray)(t:TypeId)(w:World)(h:CurS w cb n)(hn:n<100000)(hb:w.heap[b]?=some (.cells #[.string x,.string y,.string z] t (0,0)))(hne:b≠cb)(hx:x.size≤m)(hy:y.size≤m)(hz:z.size≤m) :
  Calls Tryz.prog 27 #[.pointer (some ⟨cb,0,none⟩),.slice (some ⟨b,0,none⟩) 3 3] w fun e w'=>zu0 cb (n+2) m w e w':=by
 have HPk:=Hh (zdx cb n 3 w h (by omega) ⟨by omega,by omega⟩);have HB:=Hh (fun(W:World) (f:Fr (fun q=>q=cb) w W)=>show W.cell? ⟨b,0,none⟩=some (.string x)/\W.cell? ⟨b,1,none⟩=some (.string y)/\W.cell? ⟨b,2,none⟩=some (.string z)from by
  have h1:=f.heap hb (fun e=>hne e);exact⟨by rw[cell_of_row W _ 0 _ _ _ h1];rfl,by rw[cell_of_row W _ 1 _ _ _ h1];rfl,by rw[cell_of_row W _ 2 _ _ _ h1];rfl⟩)
 have HXs:=Hh (And.intro hx (And.intro hy hz));clear h hb hne hx hy hz hn;go_enter Tryz.func27,Tryz.ntmps27;go_wp2_with fail;(with_reducible refine HPk.out.mono ?_);rintro e w1 ⟨k,rfl,k0,k1,c1,f1⟩;have k3:k<3:=by omega
 obtain⟨b0,b1,b2⟩:=HB.out w1 f1;have HC:=Hh c1;have HF:=Hh f1;clear c1 f1 k1;rcases (by omega:k=0∨k=1∨k=2)with rfl|rfl|rfl
 ·go_wp2_with fail
  go_ret;exact⟨x,rfl,HXs.out.1,HC.out,HF.out⟩
 ·go_wp2_with fail
  go_ret;exact⟨y,rfl,HXs.out.2.1,HC.out,HF.out⟩
 ·go_wp2_with fail
  go_ret;exact⟨z,rfl,HXs.out.2.2,HC.out,HF.out⟩
theorem zuh (t:ByteArray)(i j:Nat):(t.extract i j).size≤t.size:=by
 rw[ByteArray.size_extract];omega
set_option maxRecDepth 8000 in
set_option maxHeartbeats 8000000 in
theorem zpt (cb n:Nat)(t:ByteArray)(w:World)(h:CurS w cb n)(hn:n<100000)(ht:t.size≤1000) :
  Calls Tryz.prog 29 #[.pointer (some ⟨cb,0,none⟩),.string t,.string ⟨#[76,82,120]⟩] w fun e w'=>zu0 cb (n+6) 1100 w e w':=by
 obtain⟨q,hq⟩:∃q,t.toList.isEmpty=q:=⟨_,rfl⟩;have HN:=Hh (fun(e:q=false)=>show 0<t.size from Nat.pos_of_ne_zero fun h0=>by
  have e2:t=⟨#[]⟩:=ByteArray.ext (Array.eq_empty_of_size_eq_zero h0);rw[e2,e]at hq;simp at hq)
 have HC:=Hh h;have HT:=Hh ht;clear h;go_enter Tryz.func29,Tryz.ntmps29;cases q with
 | true =>
  clear HN;go_wp2_with fail;go_ret;exact⟨_,rfl,by first|decide|(exact Nat.le_trans (zuh _ _ _) (by decide)),HC.out.mono (by omega),Fr.refl _ _⟩
 | false =>
  have hpos:=HN.out rfl;clear HN;have HPk:=Hh (zdx cb n t.size w HC.out (by omega) ⟨by omega,by omega⟩);go_wp2_with fail;(with_reducible refine HPk.out.mono ?_);rintro e w1 ⟨i,rfl,i0,i1,c1,f1⟩;have i2:i<(t.size:Int):=by omega
  have HPk:=Hh (zdx cb (n+2) 3 w1 c1 (by omega) ⟨by omega,by omega⟩);have F1:=Hh f1;clear c1 f1 i1 hq;go_wp2_with fail;(with_reducible refine HPk.out.mono ?_);rintro e w2 ⟨k,rfl,k0,k1,c2,f2⟩;have k3:k<3:=by omega
  have HPk:=Hh (zdx cb (n+2+2) 3 w2 c2 (by omega) ⟨by omega,by omega⟩);have F2:=Hh (F1.out.trans f2 (fun _ _ q=>q));clear c2 f2 k1;have i3:i≤(t.size:Int):=by omega
  have i4:i+1≤(t.size:Int):=by omega
  have i5:0≤i+1:=by omega
  rcases (by omega:k=0∨k=1∨k=2)with rfl|rfl|rfl
  all_goals
   go_wp2_with fail;(with_reducible refine HPk.out.mono ?_);rintro e w3 ⟨m,rfl,m0,m1,c3,f3⟩;have m3:m<3:=by omega
   have HC3:=Hh c3;have F3:=Hh (F2.out.trans f3 (fun _ _ q=>q));clear c3 f3 m1;rcases (by omega:m=0∨m=1∨m=2)with rfl|rfl|rfl
   all_goals
    clear m0 m3 k0 k3;go_wp2;go_quiet (fail);go_wp2;go_ret;refine⟨_,rfl,?_,HC3.out.fr0 (zbq _ _),F3.out.trans (zbq _ _) (fun _ _ q=>q.elim)⟩;simp[ByteArray.size_append',ByteArray.size_extract];have:=HT.out;omega
set_option maxRecDepth 8000 in
set_option maxHeartbeats 8000000 in
theorem zma (cb n:Nat)(m:Int)(w:World)(h:CurS w cb n)(hn:n<1000)(hm:0≤m/\m≤17):Calls Tryz.prog 11 #[.pointer (some ⟨cb,0,none⟩),.int .i64 m] w fun e w'=>zu0 cb (n+50) 1100 w e w':=by
 obtain⟨m0,m1⟩:=hm;have HPk:=Hh (zdx cb n (m+1) w h (by omega) ⟨by omega,by omega⟩);have HN:=Hh hn;clear h hn;go_enter Tryz.func11,Tryz.ntmps11;go_wp2_with fail;(with_reducible refine HPk.out.mono ?_);rintro e w1 ⟨k,rfl,k0,k1,c1,f1⟩;obtain⟨kn,hkn⟩:∃kn:Nat,k=(kn:Int):=⟨k.toNat,by omega⟩;have hk17:kn≤17:=by omega
 subst hkn;have HC1:=Hh c1;have HF1:=Hh f1;have HK:=Hh hk17;clear c1 f1 k0 k1 hk17 m0 m1 HPk;go_wp2_with fail;go_loopw [5,6] (fun x i wr=>∃(s:ByteArray) (j u:Nat),x=.string s/\i=.int .i64 j/\j+u≤17/\s.size≤u/\CurS wr cb (n+2+2*u)/\Fr (fun q=>q=cb) w wr) (fun _ i _=>(intOf i).toNat)
 case atStart=>exact⟨⟨#[]⟩,kn,0,rfl,rfl,by have:=HK.out;omega,by decide,HC1.out,HF1.out⟩
 case round =>
  obtain⟨s,j,u,rfl,rfl,hju,hsu,hc,hf⟩:=hrel;obtain⟨wo,rfl⟩:∃wo,wo=wr:=⟨_,rfl⟩;have HC:=Hh hc;have HF:=Hh hf;have HCl:=Hh hc.lt;have hn:=HN.out;clear hc hf;by_cases hj:j=0
  ·subst hj
   have HOne:=Hh (zxn cb (n+2+2*u) 12 wo HC.out (by omega) ⟨by omega,by omega⟩);have HSz:=Hh (show s.size≤17 from by omega);have HU:=Hh (show u≤17 from by omega);clear hju hsu hn;go_wp2_with fail;(with_reducible refine HOne.out.mono ?_);rintro e w3 ⟨b,rfl,c3,f3⟩;have HC3:=Hh c3;have HF3:=Hh (HF.out.trans f3 (fun _ _ q=>q));clear c3 f3 HOne;cases b with
   | false =>
    go_wp2_with fail;go_ret;exact⟨s,rfl,by have:=HSz.out;omega,HC3.out.mono (by have:=HU.out;omega),HF3.out⟩
   | true =>
    have HSp:=Hh (zpt cb (n+2+2*u+2) s w3 HC3.out (by have:=HU.out;have:=HN.out;omega) (by have:=HSz.out;omega));go_wp2_with fail;(with_reducible refine HSp.out.mono ?_);rintro e w4 ⟨t,rfl,ht,c4,f4⟩;have HT:=Hh ht;have HC4:=Hh c4;have HF4:=Hh (HF3.out.trans f4 (fun _ _ q=>q));clear ht c4 f4 HSp;go_wp2_with fail;go_ret;exact⟨t,rfl,HT.out,HC4.out.mono (by have:=HU.out;omega),HF4.out⟩
  ·have hj1:(0:Int)<(j:Int):=by omega
   have HOf:=Hh (zyt cb (n+2+2*u) wo.heap.size 1 ⟨#[76]⟩ ⟨#[82]⟩ ⟨#[76]⟩ 9 (wo.alloc (.cells #[.string ⟨#[76]⟩,.string ⟨#[82]⟩,.string ⟨#[76]⟩] 9)) (HC.out.fr0 ((Fr.refl NoM wo).alloc _)) (by omega) (heap_alloc_new wo _) (by have:=HCl.out;omega) (by decide) (by decide) (by decide));have HJ:=Hh (And.intro hju hsu);clear hju hn;go_wp2_with fail;(with_reducible refine HOf.out.mono ?_);rintro e w5 ⟨t,rfl,ht,c5,f5⟩;obtain⟨y,hy⟩:∃y,s++t=y:=⟨_,rfl⟩;have hj17:j≤17:=by have:=HJ.out.1;omega
   have hu17:s.size≤17:=by have:=HJ.out;omega
   have hadd:=run_string_add_sum (P:=Tryz.prog) w5 s t (by omega);rw[hy]at hadd;have HY:=Hh (show y.size≤u+1 from by rw[←hy,ByteArray.size_append'];omega);have hno:¬(s.size+t.size>9223372036854775807):=by omega
   have HC5:=Hh c5;have HF5:=Hh (HF.out.trans (((Fr.refl (fun q=>q=cb) wo).alloc _).trans f5 (fun _ _ q=>q)) (fun _ _ q=>q));clear c5 f5 ht HOf hsu;go_wp2_with fail;go_roundw
   case rel=>exact⟨y,j-1,u+1,rfl,by first|go_num|(congr 1;omega),by have:=HJ.out.1;omega,HY.out,HC5.out.mono (by omega),HF5.out⟩
   case measure=>simp[intOf];omega
def zyi (w:World)(e:Ending)(w':World):Prop:=∃s:ByteArray,e=.returned (.string s)/\s.size≤1100/\Fr NoM w w'
set_option maxRecDepth 8000 in
set_option maxHeartbeats 4000000 in
theorem zih (cv:Value)(L:List Int)(w:World)(h:CodeOK w cv L):Calls Tryz.prog 5 #[cv] w fun e w'=>zyi w e w':=by
 obtain⟨w2,hw2⟩:∃w2,w2=w.alloc (.cells #[cv,.int .i64 0,.int .u64 0] 39):=⟨_,rfl⟩;have f2:Fr NoM w w2:=by rw[hw2];exact(Fr.refl NoM w).alloc _
 have hc2:CurS w2 w.heap.size 0:=by rw[hw2];exact CurS.start h
 have hs2:w2.heap.size=w.heap.size+1:=by rw[hw2];simp
 obtain⟨cb,hcb⟩:∃cb,cb=w.heap.size:=⟨_,rfl⟩;rw[←hcb]at hc2;have HC2:=Hh hc2;have F2:=Hh f2;have HLt:=Hh (show cb<w2.heap.size from by omega);have HBack:=Hh (fun(W:World) (f:Fr (fun q=>q=cb) w2 W)=>(f2.trans f (fun q hq e=>by have e:q=cb:=e;omega):Fr NoM w W));have HIn:=Hh (fun(W:World)=>(show Ints (W.alloc (.cells #[.int .i64 5,.int .i64 8,.int .i64 17] 3)) (.slice (some ⟨W.heap.size,0,none⟩) 3 3) [5,8,17]from zy2 W [5,8,17] rfl (by decide)));obtain⟨ca,cc,rfl,zz⟩:=id h.1;clear zz h f2 hc2 hs2;go_enter Tryz.func5,Tryz.ntmps5;go_upto_region 2 with fail;rw[←hw2,←hcb];clear hw2 hcb;go_wp2_with fail;(with_reducible refine(ztx cb 0 _ [5,8,17] _ (by exact HC2.out.fr0 ((Fr.refl NoM w2).alloc _)) (by exact HIn.out w2) (fun q hq=>by exact zyr hq (by exact HLt.out)) (by simp) (by simp) (by omega)).mono ?_);rintro e w3 ⟨z,rfl,zm,c3,f3⟩;have hz:0≤z/\z≤17:=by
  simp only[List.mem_cons,List.not_mem_nil,or_false]at zm;omega
 have HSt:=Hh (zma cb _ z w3 c3 (by omega) hz);have F3:=Hh (((Fr.refl (fun q=>q=cb) w2).alloc _).trans f3 (fun _ _ q=>q));clear zm c3 f3 hz;go_wp2_with fail;(with_reducible refine HSt.out.mono ?_);rintro e w4 ⟨s,rfl,hs,c4,f4⟩;have F4:=Hh (HBack.out w4 (F3.out.trans f4 (fun _ _ q=>q)));have HS:=Hh hs;clear hs c4 f4;go_wp2_with fail;go_ret;exact⟨s,rfl,HS.out,F4.out⟩
end Go.Proofs.YtkofnbjjbcohgaaGreatDoor
