import Derived.Test.YtkofnbjjbcohgaaGreatDoorZwc
import Derived.Test.YtkofnbjjbcohgaaGreatDoorZwq
/- Lemmas. -/
namespace Go.Proofs.YtkofnbjjbcohgaaGreatDoor
set_option linter.unusedVariables false
set_option linter.unusedSimpArgs false
open Go.RowKit
set_option maxRecDepth 4000 in
set_option maxHeartbeats 8000000 in
theorem zhc {M I:Nat→Prop}{C:List Nat}{V:List PL}{BV:List Nat}(B:BookC V C)(pb ob:Nat)(mc ms mn:Value)(hMo:¬M ob)(hIo:¬I ob)(lf:Bool)(g:Nat→Nat→Bool)(hg:g=if lf=true then gR C else gL C)(x y:Nat)(zv:Value)(Z:List Nat)(f:Nat × Nat→Option Bool)(w:World)
  (hP:PoolS M I w pb V BV (.map (some ob)) mc ms mn) (hf:MapF encP encB w ob f) (ho:OrdF C f) (hx:x<V.length) (hZ:Nats w zv Z) (hZb:Z≠[]→∀q,zv.ownBlock=some q→q≠ob) (hZt:∀z∈Z,z<V.length) :
  Calls Tryz.prog 94 #[.pointer (some ⟨pb,0,none⟩),.int .i64 (x:Int),.int .i64 (y:Int),.bool lf,zv] w fun e w'=>e=.returned (.int .i64 (thrI (Z.find? (g x))))/\∃f',MapF encP encB w' ob f'∧OrdF C f'∧Fr (fun q=>q=ob) w w':=by
 have HL:=Hh (fun(W:World) (f:Fr (fun q=>q=ob) w W)=>show Nats W zv Z from hZ.fr f hZb);have HP:=Hh (fun(W:World) (f:Fr (fun q=>q=ob) w W)=>hP.fr f (fun q hq e=>hMo (e ▸ hq)) (fun q hq e=>hIo (e ▸ hq)));have HGe:=Hh (fun x y (hx:x<V.length) (hy:y<V.length)=>(ztb B pb ob mc ms mn hMo hIo (x+y+1) x y (Nat.lt_succ_self _) hx hy:GeIs M I C V BV pb ob mc ms mn x y));obtain⟨la,lc,rfl,hlc,hlcm,z⟩:=hZ;obtain⟨res,hres⟩:∃res,res=thrI (Z.find? (g x)):=⟨_,rfl⟩;rw[←hres];have HLt:=Hh hZt;have HF:=Hh hf;have HO:=Hh ho;have Hg:=Hh hg;have HRes:=Hh hres;have HX:=Hh hx;clear hP hf ho hZt z hZb hMo hIo hg hres hx;go_enter Tryz.func94,Tryz.ntmps94;go_wp2_with fail;go_loopw [15] (fun t W=>∃(k:Nat) (f1:Nat × Nat→Option Bool),t=.int .i64 k/\k≤Z.length/\(Z.take k).find? (g x)=none/\MapF encP encB W ob f1/\OrdF C f1/\Fr (fun q=>q=ob) w W) (fun t _=>Z.length-(intOf t).toNat)
 case atStart=>exact⟨0,f,rfl,Nat.zero_le _,rfl,HF.out,HO.out,Fr.refl _ _⟩
 case round =>
  obtain⟨k,f1,rfl,hk,hno,hf1,ho1,hfr⟩:=hrel;obtain⟨w6,rfl⟩:∃w6,w6=wr:=⟨_,rfl⟩;have HF1:=Hh hf1;have HO1:=Hh ho1;have HFr:=Hh hfr;have HNo:=Hh hno;clear hf1 ho1 hfr hno;by_cases hkl:k<Z.length
  ·obtain⟨z,hz⟩:∃z,Z[k]?=some z:=⟨_,List.getElem?_eq_getElem hkl⟩
   have hzl:=HLt.out z (List.mem_of_getElem? hz);obtain⟨_,_,ee,_,_,hcc⟩:=HL.out w6 HFr.out;cases ee
   obtain⟨b1,o1,ha1,d1⟩:=hcc k z hz;have ix1:=zaa la Z.length lc k b1 o1 hkl ha1;unfold encN at d1;obtain⟨a,ha⟩:∃a,a=g x z:=⟨_,rfl⟩;obtain⟨hi',ez⟩:=List.getElem?_eq_some_iff.1 hz
   have htk:(Z.take (k+1)).find? (g x)=if a=true then some z else none:=by
    rw[List.take_succ_eq_append_getElem hkl,ez,List.find?_append,HNo.out,Option.none_or,ha];cases hb:g x z <;> simp[hb]
   have hres:a=true→res=(z:Int):=fun h=>by
    rw[HRes.out,←List.take_append_drop (k+1) Z,List.find?_append,htk,if_pos h];rfl
   have hgo:a=false→(Z.take (k+1)).find? (g x)=none:=fun h=>by rw[htk,h];rfl
   have HRs:=Hh hres;have HGo:=Hh hgo;cases lf with
   | true =>
    have ha':a=geV C x z:=by rw[ha,Hg.out];rfl
    have h1:=HGe.out x z HX.out hzl;unfold GeIs at h1;rw[←ha']at h1;have H1:=Hh h1;clear hcc hz ha1 ha htk hres hgo h1 ha' ez;go_wp2_with fail;refine(H1.out f1 w6 (HP.out w6 HFr.out) HF1.out HO1.out).mono ?_
    rintro e w8 ⟨rfl,f3,hf3,ho3,hfr3⟩;have HF3:=Hh hf3;have HO3:=Hh ho3;have HFr3:=Hh (HFr.out.trans hfr3 (fun _ _ q=>q));clear hf3 ho3 hfr3 d1 ix1;cases a with
    | true =>
     have hr:=HRs.out rfl;go_wp2_with fail;go_ret;exact⟨by rw[hr] <;> rfl,f3,HF3.out,HO3.out,HFr3.out⟩
    | false =>
     have HNx:=Hh (HGo.out rfl);go_wp2_with fail;go_roundw
     case rel=>exact⟨k+1,f3,by go_num,by omega,HNx.out,HF3.out,HO3.out,HFr3.out⟩
     case measure=>simp[intOf];omega
   | false =>
    have ha':a=geV C z x:=by rw[ha,Hg.out];rfl
    have h1:=HGe.out z x hzl HX.out;unfold GeIs at h1;rw[←ha']at h1;have H1:=Hh h1;clear hcc hz ha1 ha htk hres hgo h1 ha' ez;go_wp2_with fail;refine(H1.out f1 w6 (HP.out w6 HFr.out) HF1.out HO1.out).mono ?_
    rintro e w8 ⟨rfl,f3,hf3,ho3,hfr3⟩;have HF3:=Hh hf3;have HO3:=Hh ho3;have HFr3:=Hh (HFr.out.trans hfr3 (fun _ _ q=>q));clear hf3 ho3 hfr3 d1 ix1;cases a with
    | true =>
     have hr:=HRs.out rfl;go_wp2_with fail;go_ret;exact⟨by rw[hr] <;> rfl,f3,HF3.out,HO3.out,HFr3.out⟩
    | false =>
     have HNx:=Hh (HGo.out rfl);go_wp2_with fail;go_roundw
     case rel=>exact⟨k+1,f3,by go_num,by omega,HNx.out,HF3.out,HO3.out,HFr3.out⟩
     case measure=>simp[intOf];omega
  ·have hk':k=Z.length:=by omega
   have hr:res=-1:=by
    have h:=HNo.out;rw[hk',List.take_length]at h;rw[HRes.out,h];rfl
   clear hk';go_wp2_with fail;go_ret;exact⟨by rw[hr] <;> rfl,f1,HF1.out,HO1.out,HFr.out⟩
end Go.Proofs.YtkofnbjjbcohgaaGreatDoor
