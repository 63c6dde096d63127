import Derived.Test.YtkofnbjjbcohgaaGreatDoorZwm
import Derived.Test.YtkofnbjjbcohgaaGreatDoorZw11
/- Lemmas. -/
namespace Go.Proofs.YtkofnbjjbcohgaaGreatDoor
set_option linter.unusedVariables false
set_option linter.unusedSimpArgs false
open Go.RowKit
theorem zps (b:List Bool):∀n:Nat,(0≤(stS b n).2.1/\(stS b n).2.1≤65536)∧-((n:Int)*65536)≤(stS b n).1/\(stS b n).1≤(n:Int)*65536:=by
 intro n;induction n with
 | zero=>exact⟨⟨by show(0:Int)≤65536;omega,by show(65536:Int)≤65536;omega⟩,by show -(((0:Nat):Int)*65536)≤0;omega,by show(0:Int)≤((0:Nat):Int)*65536;omega⟩
 | succ n ih =>
  obtain⟨⟨d0,d1⟩,v0,v1⟩:=ih;have e:stS b (n+1)=(if b.getD n false=true then (stS b n).1+(if ((stS b n).2.2 && (b.getD n false == b.getD 0 false))=true then (stS b n).2.1 else (stS b n).2.1/2)else (stS b n).1-(if ((stS b n).2.2 && (b.getD n false == b.getD 0 false))=true then (stS b n).2.1 else (stS b n).2.1/2),(if ((stS b n).2.2 && (b.getD n false == b.getD 0 false))=true then (stS b n).2.1 else (stS b n).2.1/2),((stS b n).2.2 && (b.getD n false == b.getD 0 false))):=rfl;rw[e];obtain⟨d,hd⟩:∃d,d=(if ((stS b n).2.2 && (b.getD n false == b.getD 0 false))=true then (stS b n).2.1 else (stS b n).2.1/2):=⟨_,rfl⟩;rw[←hd];have h:0≤d/\d≤65536:=by rw[hd];split <;> omega
  refine⟨h,?_⟩;simp only;split <;> omega
theorem zet {b:List Bool}{n:Nat}{v d v' d':Int}{f f' x y:Bool}(h:stS b n=(v,d,f))(hx:b.getD n false=x)(hy:b.getD 0 false=y)(hf:f'=(f && (x == y)))(hd:d'=if f'=true then d else d.tdiv 2)(hp:0≤d)(hv:v'=if x=true then v+d' else v-d'):stS b (n+1)=(v',d',f'):=by
 have e:stS b (n+1)=(if b.getD n false=true then (stS b n).1+(if ((stS b n).2.2 && (b.getD n false == b.getD 0 false))=true then (stS b n).2.1 else (stS b n).2.1/2)else (stS b n).1-(if ((stS b n).2.2 && (b.getD n false == b.getD 0 false))=true then (stS b n).2.1 else (stS b n).2.1/2),(if ((stS b n).2.2 && (b.getD n false == b.getD 0 false))=true then (stS b n).2.1 else (stS b n).2.1/2),((stS b n).2.2 && (b.getD n false == b.getD 0 false))):=rfl;rw[Int.tdiv_eq_ediv_of_nonneg hp]at hd;rw[e,h,hx,hy];simp only;rw[←hf,←hd,←hv]
def zz5 (s:ByteArray)(g:Bool)(w:World)(e:Ending)(w':World):Prop :=
 ∃(T P:Int) (ok:Bool),e=.returned (.tuple #[.agg #[.int .i64 T,.int .i64 P],.bool ok])/\(g=true→ok=true→T=(redT (stV (zf6 s) s.size) 16).1/\P=((redT (stV (zf6 s) s.size) 16).2:Int))/\Fr NoM w w'
set_option maxRecDepth 8000 in
set_option maxHeartbeats 8000000 in
theorem zhg (s:ByteArray)(w:World)(hs:s.size<1000000000)(g:Bool)(hg:g=true↔zcb s/\s.size≤16) :
  Calls Tryz.prog 9 #[.string s] w fun e w'=>zz5 s g w e w':=by
 obtain⟨w1,hw1⟩:∃w1,w1=w.alloc (.cells #[.int .i64 0,.int .i64 0] 32):=⟨_,rfl⟩;have f1:Fr NoM w w1:=by rw[hw1];exact(Fr.refl NoM w).alloc _
 have e1:w1.heap[w.heap.size]?=some (.cells #[.int .i64 0,.int .i64 0] 32 (0,0)):=by rw[hw1];exact heap_alloc_new w _
 have HRs:=Hh (fun(W:World) (f:Fr NoM w1 W)=>show W.cell? ⟨w.heap.size,0,none⟩=some (.int .i64 0)/\W.cell? ⟨w.heap.size,1,none⟩=some (.int .i64 0)/\W.frozen? ⟨w.heap.size,0,none⟩=false/\W.frozen? ⟨w.heap.size,1,none⟩=false from by
  have h1:=f.heap e1 (fun q=>q);exact⟨by rw[cell_of_row W _ 0 _ _ _ h1];rfl,by rw[cell_of_row W _ 1 _ _ _ h1];rfl,by simp[World.frozen?,h1],by simp[World.frozen?,h1]⟩)
 have HF:=Hh (fun(W:World) (y1 y2:Int) (f:Fr NoM w1 W)=>(((f1.trans f (fun _ _ q=>q)).setCell ⟨w.heap.size,0,none⟩ (.int .i64 y1) (fun h=>by have h:w.heap.size<w.heap.size:=h;omega)).setCell ⟨w.heap.size,1,none⟩ (.int .i64 y2) (fun h=>by have h:w.heap.size<w.heap.size:=h;omega):Fr NoM w ((W.setCell ⟨w.heap.size,0,none⟩ (.int .i64 y1)).setCell ⟨w.heap.size,1,none⟩ (.int .i64 y2))));have HGd:=Hh (zfa s w1 hs g hg);have hsz:s.data.toList.length=s.size:=by rw[Array.length_toList];rfl
 have HSz:=Hh hsz;have HG:=Hh hg;obtain⟨bits,hbits⟩:∃b,b=zf6 s:=⟨_,rfl⟩;have HB:=Hh hbits;clear f1 e1 hg hsz hbits;go_enter Tryz.func9,Tryz.ntmps9;go_upto_region 1 with fail;rw[←hw1];clear hw1;go_wp2_with fail;(with_reducible refine HGd.out.mono ?_);rintro e w2 ⟨rfl,f2⟩;have F2:=Hh f2;clear f2;cases g with
 | false =>
  obtain⟨r0,r1,r2,r3⟩:=HRs.out w2 F2.out;have HM:=Hh (HF.out w2 0 0 F2.out);go_wp2_with fail;refine bodyPost_ret (v:=.tuple #[.agg #[.int .i64 0,.int .i64 0],.bool false]) (by simp[results,Tryz.results9,go_sem,r0,r1,r2,r3]) rfl ?_
  exact⟨0,0,false,rfl,(fun h=>absurd h (by simp)),HM.out⟩
 | true =>
 have hm:=HG.out.1 rfl;have HMk:=Hh hm.1;have h16:s.size≤16:=hm.2;clear hm HG hs;go_wp2_with fail;go_loopw [4,5,6,7,14] (fun v d f x i wr=>∃(n q:Nat) (a c:Int) (o:Bool),v=.int .i64 a/\d=.int .i64 c/\f=.bool o/\i=.int .i64 n/\n≤s.size/\stS bits n=(a,c,o)/\wr=w2.drewN q) (fun _ _ _ _ i _=>s.size-(intOf i).toNat)
 case atStart=>exact⟨0,0,0,65536,true,rfl,rfl,rfl,rfl,Nat.zero_le _,rfl,rfl⟩
 case round =>
  obtain⟨n,q,a,c,o,rfl,rfl,rfl,rfl,hn,hst,rfl⟩:=hrel;have hb:=zps bits n;rw[hst]at hb;simp only at hb;obtain⟨⟨c0,c1⟩,a0,a1⟩:=hb;have a2:-1048576≤a:=by omega
  have a3:a≤1048576:=by omega
  have HSt:=Hh hst;clear hst a0 a1;by_cases hlt:n<s.size
  ·obtain⟨ch,hch⟩:∃b,s.data.toList[n]?=some b:=⟨_,List.getElem?_eq_getElem (by rw[HSz.out];exact hlt)⟩
   obtain⟨c9,hc9⟩:∃b,s.data.toList[0]?=some b:=⟨_,List.getElem?_eq_getElem (by rw[HSz.out];omega)⟩;have hm1:ch=76∨ch=82:=HMk.out ch (List.mem_of_getElem? hch);have hm2:c9=76∨c9=82:=HMk.out c9 (List.mem_of_getElem? hc9);have HX:=Hh (show bits.getD n false=decide (ch=76)from by rw[HB.out];exact zf4 s n ch hch);have HY:=Hh (show bits.getD 0 false=decide (c9=76)from by rw[HB.out];exact zf4 s 0 c9 hc9);have hr1:=fun W=>zed s n ch hch .i64 W
   have hr2:=fun W=>zed s 0 c9 hc9 .i64 W
   rw[show((0:Nat):Int)=0 from rfl]at hr2;clear hch hc9;have d0:0≤c.tdiv 2:=Int.tdiv_nonneg c0 (by decide);have d1:c.tdiv 2≤65536:=by rw[Int.tdiv_eq_ediv_of_nonneg c0];omega
   obtain⟨h,hh⟩:∃h,h=c.tdiv 2:=⟨_,rfl⟩;have HH:=Hh hh;rcases hm1 with rfl|rfl
   ·have HXx:=Hh (show bits.getD n false=true from by rw[HX.out];decide)
    cases o with
    | false =>
     have HN:=Hh (show stS bits (n+1)=(a+h,h,false)from zet HSt.out HXx.out rfl rfl (by rw[if_neg (by simp)];exact hh) c0 (by simp));rw[←hh]at d0 d1;clear hr2;go_wp2;go_quiet (fail);go_wp2;go_roundw
     case rel=>exact⟨n+1,_,_,_,_,by first|rfl|(rw[HH.out])|(simp[HH.out]),by first|rfl|(rw[HH.out]),rfl,by go_num,by omega,HN.out,rfl⟩
     case measure=>simp[intOf];omega
    | true =>
     rcases hm2 with rfl|rfl
     ·have HYy:=Hh (show bits.getD 0 false=true from by rw[HY.out];decide)
      have HN:=Hh (show stS bits (n+1)=(a+c,c,true)from zet HSt.out HXx.out HYy.out rfl (by rw[if_pos rfl]) c0 (by simp));clear hh;go_wp2;go_quiet (fail);go_wp2;go_roundw
      case rel=>exact⟨n+1,_,_,_,_,by first|rfl|(rw[HH.out])|(simp[HH.out]),by first|rfl|(rw[HH.out]),rfl,by go_num,by omega,HN.out,rfl⟩
      case measure=>simp[intOf];omega
     ·have HYy:=Hh (show bits.getD 0 false=false from by rw[HY.out];decide)
      have HN:=Hh (show stS bits (n+1)=(a+h,h,false)from zet HSt.out HXx.out HYy.out rfl (by rw[if_neg (by simp)];exact hh) c0 (by simp));rw[←hh]at d0 d1;go_wp2;go_quiet (fail);go_wp2;go_roundw
      case rel=>exact⟨n+1,_,_,_,_,by first|rfl|(rw[HH.out])|(simp[HH.out]),by first|rfl|(rw[HH.out]),rfl,by go_num,by omega,HN.out,rfl⟩
      case measure=>simp[intOf];omega
   ·have HXx:=Hh (show bits.getD n false=false from by rw[HX.out];decide)
    cases o with
    | false =>
     have HN:=Hh (show stS bits (n+1)=(a-h,h,false)from zet HSt.out HXx.out rfl rfl (by rw[if_neg (by simp)];exact hh) c0 (by simp));rw[←hh]at d0 d1;clear hr2;go_wp2;go_quiet (fail);go_wp2;go_roundw
     case rel=>exact⟨n+1,_,_,_,_,by first|rfl|(rw[HH.out])|(simp[HH.out]),by first|rfl|(rw[HH.out]),rfl,by go_num,by omega,HN.out,rfl⟩
     case measure=>simp[intOf];omega
    | true =>
     rcases hm2 with rfl|rfl
     ·have HYy:=Hh (show bits.getD 0 false=true from by rw[HY.out];decide)
      have HN:=Hh (show stS bits (n+1)=(a-h,h,false)from zet HSt.out HXx.out HYy.out rfl (by rw[if_neg (by simp)];exact hh) c0 (by simp));rw[←hh]at d0 d1;go_wp2;go_quiet (fail);go_wp2;go_roundw
      case rel=>exact⟨n+1,_,_,_,_,by first|rfl|(rw[HH.out])|(simp[HH.out]),by first|rfl|(rw[HH.out]),rfl,by go_num,by omega,HN.out,rfl⟩
      case measure=>simp[intOf];omega
     ·have HYy:=Hh (show bits.getD 0 false=false from by rw[HY.out];decide)
      have HN:=Hh (show stS bits (n+1)=(a-c,c,true)from zet HSt.out HXx.out HYy.out rfl (by rw[if_pos rfl]) c0 (by simp));clear hh;go_wp2;go_quiet (fail);go_wp2;go_roundw
      case rel=>exact⟨n+1,_,_,_,_,by first|rfl|(rw[HH.out])|(simp[HH.out]),by first|rfl|(rw[HH.out]),rfl,by go_num,by omega,HN.out,rfl⟩
      case measure=>simp[intOf];omega
  ·have hne:n=s.size:=by omega
   subst hne;have HE:=Hh (show a=stV bits s.size from by unfold stV;rw[HSt.out]);obtain⟨gl,hgl⟩:=zny (redT a 16).1 (redT a 16).2;have hlow:=fun(W:World)=>zg7 a 16 W ⟨by omega,by omega⟩ (by omega) gl hgl
   rw[show((16:Nat):Int)=16 from rfl]at hlow;have HLow:=Hh hlow;obtain⟨wz,hwz⟩:∃wz,wz=w2.drewN q:=⟨_,rfl⟩;have FZ:=Hh (show Fr NoM w1 wz from by rw[hwz];exact F2.out.trans (zbq _ _) (fun _ _ q=>q));rw[←hwz];clear hwz hgl hlt hlow;go_wp2_with fail;(with_reducible refine(HLow.out wz).mono ?_);rintro e w4 ⟨rfl,f4⟩;have F4:=Hh (FZ.out.trans f4 (fun _ _ q=>q));clear f4 HLow;cases gl with
   | false =>
    obtain⟨r0,r1,r2,r3⟩:=HRs.out w4 F4.out;have HM:=Hh (HF.out w4 0 0 F4.out);unfold lowT;go_wp2_with fail;refine bodyPost_ret (v:=.tuple #[.agg #[.int .i64 0,.int .i64 0],.bool false]) (by simp[results,Tryz.results9,go_sem,r0,r1,r2,r3]) rfl ?_
    exact⟨0,0,false,rfl,(fun _ h=>absurd h (by simp)),HM.out⟩
   | true =>
    obtain⟨X,hX⟩:∃X,X=(redT a 16).1:=⟨_,rfl⟩;obtain⟨Y,hY⟩:∃Y:Int,Y=((redT a 16).2:Int):=⟨_,rfl⟩;obtain⟨r0,r1,r2,r3⟩:=HRs.out w4 F4.out;have HM:=Hh (HF.out w4 X Y F4.out);have HV:=Hh (show X=(redT (stV (zf6 s) s.size) 16).1/\Y=((redT (stV (zf6 s) s.size) 16).2:Int)from by
     rw[←HB.out,←HE.out];exact⟨hX,hY⟩)
    unfold lowT;rw[←hX,←hY];clear hX hY;go_wp2_with fail;refine bodyPost_ret (v:=.tuple #[.agg #[.int .i64 X,.int .i64 Y],.bool true]) (by simp[results,Tryz.results9,go_sem,r0,r1,r2,r3]) rfl ?_
    exact⟨X,Y,true,rfl,fun _ _=>HV.out,HM.out⟩
end Go.Proofs.YtkofnbjjbcohgaaGreatDoor
