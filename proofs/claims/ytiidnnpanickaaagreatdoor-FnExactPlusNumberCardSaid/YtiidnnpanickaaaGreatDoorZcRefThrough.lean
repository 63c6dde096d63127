import Derived.Test.YtiidnnpanickaaaGreatDoorZcRefDrop
import Derived.Test.YtiidnnpanickaaaGreatDoorZcThroughP
/- What the claim of FnExactPlusNumberCard needs of: RefThrough. -/
namespace Go.Proofs.YtiidnnpanickaaaGreatDoor
set_option linter.unusedVariables false
set_option linter.unusedSimpArgs false
open Go.RowKit
set_option maxRecDepth 4000 in
set_option maxHeartbeats 8000000 in
theorem l6ThroughL_any {C:List Nat} {NL:List PL} (B:BookC NL C) (ob bb kb x y:Nat) (hN:NL.length < 1000) (hx:x < NL.length) (hy:y < NL.length) (hZt:∀ z∈(nodeV NL y).2,z < NL.length) (K:List Nat) (w:World) (hO:OrdR w ob bb kb NL K) (hK:KOK C NL.length (2 * NL.length) K) :
    Calls Tryz.prog 201 #[.pointer (some ⟨ob,0,none⟩),.int .i64 (x:Int),.int .i64 (y:Int),.bool true] w fun e w'=>e=.returned (.int .i64 (thrI ((nodeV NL y).2.find? (gR C x))))∧∃ K',OrdR w' ob bb kb NL K'∧KOK C NL.length (2 * NL.length) K'∧Fr (fun q=>q=kb) w w':=by
  have HGq:=Lib.hid (fun x y hx hy K w=>geq_full B ob bb kb x y hN hx hy K w)
  obtain ⟨bv,hbv,hNb⟩:=hO.nv
  obtain ⟨na,nc,rfl,_,_,hnn⟩:=hNb
  obtain ⟨b1,o1,l,r,hna,hb1,c1,c2,s1,s2,q1,q2⟩:=hnn _ _ (node_at hy)
  have ix:=ixNode na NL.length nc y b1 o1 hy hna
  have o0:=hO.o0
  obtain ⟨Z,hZ⟩:∃ Z,Z=(nodeV NL y).2:=⟨_,rfl⟩
  rw [← hZ] at hZt s2 q2 ⊢
  have HL:=Lib.hid (fun (W:World) (f:Fr (fun q=>q=kb) w W)=>show Nats W r Z from s2.fr f q2)
  obtain ⟨la,lc,rfl,hl1,hl2,z⟩:=id s1
  clear z
  obtain ⟨ra,rc,rfl,hl3,hl4,z⟩:=id s2
  clear z
  obtain ⟨res,hres⟩:∃ res,res=thrI (Z.find? (gR C x)):=⟨_,rfl⟩
  rw [← hres]
  have HLt:=Lib.hid hZt;have HRes:=Lib.hid hres;have HX:=Lib.hid hx;have HO:=Lib.hid hO;have HK:=Lib.hid hK
  clear hO hK hx hZt hres hnn s1 s2 q1 q2 hna hZ
  go_enter Tryz.func201,Tryz.ntmps201
  go_wp2_with fail
  clear o0 hbv c1 c2 ix
  go_loopw [10] (fun t W=>∃ (k:Nat) (K1:List Nat),t=.int .i64 k∧k≤Z.length∧(Z.take k).find? (gR C x)=none∧OrdR W ob bb kb NL K1∧KOK C NL.length (2 * NL.length) K1∧Fr (fun q=>q=kb) w W) (fun t _=>Z.length - (intOf t).toNat)
  case atStart=>exact ⟨0,K,rfl,Nat.zero_le _,rfl,HO.out,HK.out,Fr.refl _ _⟩
  case round =>
    obtain ⟨k,K1,rfl,hk,hno,hO1,hK1,hfr⟩:=hrel
    obtain ⟨w6,rfl⟩:∃ w6,w6=wr:=⟨_,rfl⟩
    have HO1:=Lib.hid hO1;have HK1:=Lib.hid hK1;have HFr:=Lib.hid hfr;have HNo:=Lib.hid hno
    clear hO1 hK1 hfr hno
    by_cases hkl:k < Z.length
    · obtain ⟨z, hz⟩ : ∃ z, Z[k]? = some z := ⟨_, List.getElem?_eq_getElem hkl⟩
      have hzl:=HLt.out z (List.mem_of_getElem? hz)
      have HC:=Lib.hid (fun (W:World) (f:Fr (fun q=>q=kb) w W)=>show ∃ b2 o2,ra=some ⟨b2,o2,none⟩∧W.cell? ⟨b2,o2 + k,none⟩=some (.int .i64 (z:Int)) from by
        obtain ⟨_,_,ee,_,_,hcc⟩:=HL.out W f
        cases ee
        exact hcc k z hz)
      obtain ⟨b2,o2,ha2,d2⟩:=HC.out w6 HFr.out
      have ix1:=ixInts ra Z.length rc k b2 o2 hkl ha2
      obtain ⟨a,ha⟩:∃ a,a=gR C x z:=⟨_,rfl⟩
      obtain ⟨hi',ez⟩:=List.getElem?_eq_some_iff.1 hz
      have htk:(Z.take (k + 1)).find? (gR C x)=if a=true then some z else none:=by
        rw [List.take_succ_eq_append_getElem hkl,ez,List.find?_append,HNo.out,Option.none_or,ha]
        cases hb:gR C x z <;> simp [hb]
      have hres:a=true→res=(z:Int):=fun h=>by
        rw [HRes.out,← List.take_append_drop (k + 1) Z,List.find?_append,htk,if_pos h]
        rfl
      have hgo:a=false→(Z.take (k + 1)).find? (gR C x)=none:=fun h=>by rw [htk,h];rfl
      have HRs:=Lib.hid hres;have HGo:=Lib.hid hgo
      have h1:=HGq.out x z HX.out hzl K1 w6 HO1.out HK1.out
      rw [show geV C x z=a from ha.symm] at h1
      have H1:=Lib.hid h1
      have HA2:=Lib.hid ha2
      clear hz ha htk hres hgo h1 ez ha2
      go_wp2_with fail
      refine H1.out.mono ?_
      rintro e w8 ⟨rfl,K2,hO2,hK2,hfr2⟩
      have HO2:=Lib.hid hO2;have HK2:=Lib.hid hK2;have HFr2:=Lib.hid (HFr.out.trans hfr2 (fun _ _ q=>q))
      clear hO2 hK2 hfr2 d2
      cases a with
      | true =>
        have hr:=HRs.out rfl
        obtain ⟨b3,o3,ha3,d3⟩:=HC.out w8 HFr2.out
        rw [HA2.out] at ha3
        cases ha3
        go_wp2_with fail
        go_ret
        exact ⟨by rw [hr] <;> rfl,K2,HO2.out,HK2.out,HFr2.out⟩
      | false =>
        have HNx:=Lib.hid (HGo.out rfl)
        go_wp2_with fail
        go_roundw
        case rel=>exact ⟨k + 1,K2,by go_num,by omega,HNx.out,HO2.out,HK2.out,HFr2.out⟩
        case measure=>simp [intOf];omega
    · have hk' : k = Z.length := by omega
      have hr:res=-1:=by
        have h:=HNo.out
        rw [hk',List.take_length] at h
        rw [HRes.out,h];rfl
      clear hk'
      go_wp2_with fail
      go_ret
      exact ⟨by rw [hr] <;> rfl,K1,HO1.out,HK1.out,HFr.out⟩
set_option maxRecDepth 4000 in
set_option maxHeartbeats 8000000 in
theorem l6ThroughR_any {C:List Nat} {NL:List PL} (B:BookC NL C) (ob bb kb x y:Nat) (hN:NL.length < 1000) (hx:x < NL.length) (hy:y < NL.length) (hZt:∀ z∈(nodeV NL y).1,z < NL.length) (K:List Nat) (w:World) (hO:OrdR w ob bb kb NL K) (hK:KOK C NL.length (2 * NL.length) K) :
    Calls Tryz.prog 201 #[.pointer (some ⟨ob,0,none⟩),.int .i64 (x:Int),.int .i64 (y:Int),.bool false] w fun e w'=>e=.returned (.int .i64 (thrI ((nodeV NL y).1.find? (gL C x))))∧∃ K',OrdR w' ob bb kb NL K'∧KOK C NL.length (2 * NL.length) K'∧Fr (fun q=>q=kb) w w':=by
  have HGq:=Lib.hid (fun x y hx hy K w=>geq_full B ob bb kb x y hN hx hy K w)
  obtain ⟨bv,hbv,hNb⟩:=hO.nv
  obtain ⟨na,nc,rfl,_,_,hnn⟩:=hNb
  obtain ⟨b1,o1,l,r,hna,hb1,c1,c2,s1,s2,q1,q2⟩:=hnn _ _ (node_at hy)
  have ix:=ixNode na NL.length nc y b1 o1 hy hna
  have o0:=hO.o0
  obtain ⟨Z,hZ⟩:∃ Z,Z=(nodeV NL y).1:=⟨_,rfl⟩
  rw [← hZ] at hZt s1 q1 ⊢
  have HL:=Lib.hid (fun (W:World) (f:Fr (fun q=>q=kb) w W)=>show Nats W l Z from s1.fr f q1)
  obtain ⟨la,lc,rfl,hl1,hl2,z⟩:=id s1
  clear z
  obtain ⟨ra,rc,rfl,hl3,hl4,z⟩:=id s2
  clear z
  obtain ⟨res,hres⟩:∃ res,res=thrI (Z.find? (gL C x)):=⟨_,rfl⟩
  rw [← hres]
  have HLt:=Lib.hid hZt;have HRes:=Lib.hid hres;have HX:=Lib.hid hx;have HO:=Lib.hid hO;have HK:=Lib.hid hK
  clear hO hK hx hZt hres hnn s1 s2 q1 q2 hna hZ
  go_enter Tryz.func201,Tryz.ntmps201
  go_wp2_with fail
  clear o0 hbv c1 c2 ix
  go_loopw [12] (fun t W=>∃ (k:Nat) (K1:List Nat),t=.int .i64 k∧k≤Z.length∧(Z.take k).find? (gL C x)=none∧OrdR W ob bb kb NL K1∧KOK C NL.length (2 * NL.length) K1∧Fr (fun q=>q=kb) w W) (fun t _=>Z.length - (intOf t).toNat)
  case atStart=>exact ⟨0,K,rfl,Nat.zero_le _,rfl,HO.out,HK.out,Fr.refl _ _⟩
  case round =>
    obtain ⟨k,K1,rfl,hk,hno,hO1,hK1,hfr⟩:=hrel
    obtain ⟨w6,rfl⟩:∃ w6,w6=wr:=⟨_,rfl⟩
    have HO1:=Lib.hid hO1;have HK1:=Lib.hid hK1;have HFr:=Lib.hid hfr;have HNo:=Lib.hid hno
    clear hO1 hK1 hfr hno
    by_cases hkl:k < Z.length
    · obtain ⟨z, hz⟩ : ∃ z, Z[k]? = some z := ⟨_, List.getElem?_eq_getElem hkl⟩
      have hzl:=HLt.out z (List.mem_of_getElem? hz)
      have HC:=Lib.hid (fun (W:World) (f:Fr (fun q=>q=kb) w W)=>show ∃ b2 o2,la=some ⟨b2,o2,none⟩∧W.cell? ⟨b2,o2 + k,none⟩=some (.int .i64 (z:Int)) from by
        obtain ⟨_,_,ee,_,_,hcc⟩:=HL.out W f
        cases ee
        exact hcc k z hz)
      obtain ⟨b2,o2,ha2,d2⟩:=HC.out w6 HFr.out
      have ix1:=ixInts la Z.length lc k b2 o2 hkl ha2
      obtain ⟨a,ha⟩:∃ a,a=gL C x z:=⟨_,rfl⟩
      obtain ⟨hi',ez⟩:=List.getElem?_eq_some_iff.1 hz
      have htk:(Z.take (k + 1)).find? (gL C x)=if a=true then some z else none:=by
        rw [List.take_succ_eq_append_getElem hkl,ez,List.find?_append,HNo.out,Option.none_or,ha]
        cases hb:gL C x z <;> simp [hb]
      have hres:a=true→res=(z:Int):=fun h=>by
        rw [HRes.out,← List.take_append_drop (k + 1) Z,List.find?_append,htk,if_pos h]
        rfl
      have hgo:a=false→(Z.take (k + 1)).find? (gL C x)=none:=fun h=>by rw [htk,h];rfl
      have HRs:=Lib.hid hres;have HGo:=Lib.hid hgo
      have h1:=HGq.out z x hzl HX.out K1 w6 HO1.out HK1.out
      rw [show geV C z x=a from ha.symm] at h1
      have H1:=Lib.hid h1
      have HA2:=Lib.hid ha2
      clear hz ha htk hres hgo h1 ez ha2
      go_wp2_with fail
      refine H1.out.mono ?_
      rintro e w8 ⟨rfl,K2,hO2,hK2,hfr2⟩
      have HO2:=Lib.hid hO2;have HK2:=Lib.hid hK2;have HFr2:=Lib.hid (HFr.out.trans hfr2 (fun _ _ q=>q))
      clear hO2 hK2 hfr2 d2
      cases a with
      | true =>
        have hr:=HRs.out rfl
        obtain ⟨b3,o3,ha3,d3⟩:=HC.out w8 HFr2.out
        rw [HA2.out] at ha3
        cases ha3
        go_wp2_with fail
        go_ret
        exact ⟨by rw [hr] <;> rfl,K2,HO2.out,HK2.out,HFr2.out⟩
      | false =>
        have HNx:=Lib.hid (HGo.out rfl)
        go_wp2_with fail
        go_roundw
        case rel=>exact ⟨k + 1,K2,by go_num,by omega,HNx.out,HO2.out,HK2.out,HFr2.out⟩
        case measure=>simp [intOf];omega
    · have hk' : k = Z.length := by omega
      have hr:res=-1:=by
        have h:=HNo.out
        rw [hk',List.take_length] at h
        rw [HRes.out,h];rfl
      clear hk'
      go_wp2_with fail
      go_ret
      exact ⟨by rw [hr] <;> rfl,K1,HO1.out,HK1.out,HFr.out⟩
end Go.Proofs.YtiidnnpanickaaaGreatDoor
