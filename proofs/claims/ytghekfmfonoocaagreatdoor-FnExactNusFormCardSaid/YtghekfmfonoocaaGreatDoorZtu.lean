import Derived.Test.YtghekfmfonoocaaGreatDoorZtx
/- Lemmas. -/
namespace Go.Proofs.YtghekfmfonoocaaGreatDoor
set_option linter.unusedVariables false
set_option linter.unusedSimpArgs false
open Go.RowKit
set_option maxRecDepth 4000 in
set_option maxHeartbeats 8000000 in
theorem zk9 {R:Nat→Prop}(nv:Value)(Fi:List (List Int × List Int))(w:World)(h:NodeL R encI w nv Fi)(g:Bool)(hg:g=true↔zbf Fi)(ok:Bool)(hok:ok=(g && zam (canN (natF Fi)))) :
  Calls Tryz.prog 63 #[.agg #[nv]] w fun e w'=>∃v',e=.returned (.tuple #[.agg #[v'],.bool ok])/\NodesS w.heap.size w' v' (if ok=true then canN (natF Fi)else [])/\Fr NoM w w':=by
 have HOk:=Hh hok;clear hok;obtain⟨w1,hw1⟩:∃w1,w1=(w.alloc (.cells #[nv] 26)).alloc (.cells #[.slice none 0 0] 26):=⟨_,rfl⟩;have f1:Fr NoM w w1:=by rw[hw1];exact((Fr.refl NoM w).alloc _).alloc _
 have hs1:w1.heap.size=w.heap.size+2:=by rw[hw1];simp
 have e0:w1.heap[w.heap.size]?=some (.cells #[nv] 26 (0,0)):=by rw[hw1];exact((Fr.refl NoM _).alloc _).heap (heap_alloc_new w _) (fun q=>q)
 have e1:w1.heap[w.heap.size+1]?=some (.cells #[.slice none 0 0] 26 (0,0)):=by
  have h:=heap_alloc_new (w.alloc (.cells #[nv] 26)) (.cells #[.slice none 0 0] 26);rw[World.size_alloc]at h;rw[hw1];exact h
 have HK:=Hh (fun(W:World) (f:Fr NoM w1 W)=>show W.cell? ⟨w.heap.size,0,none⟩=some nv/\W.cell? ⟨w.heap.size+1,0,none⟩=some (.slice none 0 0)/\W.frozen? ⟨w.heap.size+1,0,none⟩=false from by
  have h0:=f.heap e0 (fun q=>q);have h1:=f.heap e1 (fun q=>q);exact⟨by rw[cell_of_row W _ 0 _ _ _ h0];rfl,by rw[cell_of_row W _ 0 _ _ _ h1];rfl,by simp[World.frozen?,h1]⟩)
 have HF1:=Hh f1;have HS1:=Hh hs1;have HG:=Hh hg;have HN:=Hh (h.low.fr0 f1);have HSig:=Hh (zfk nv Fi w1 (h.fr0 f1) g hg);obtain⟨na,nc,rfl,z⟩:=id h;clear z h f1 hs1 e0 e1 hg;obtain⟨k0,k1,z1⟩:=HK.out w1 (Fr.refl _ _);go_enter Tryz.func63,Tryz.ntmps63;go_wp2_with fail;rw[←hw1];clear hw1;(with_reducible refine HSig.out.mono ?_);rintro e w2 ⟨rfl,f2⟩;have HF2:=Hh f2;clear f2 k0 k1 z1;cases g with
 | false =>
  obtain⟨k0,k1,z1⟩:=HK.out w2 HF2.out;have hok:=HOk.out;rw[Bool.false_and]at hok;subst hok;go_wp2;refine bodyPost_ret (v:=.tuple #[.agg #[.slice none 0 0],.bool false]) (by simp[results,Tryz.results63,go_sem,k1]) rfl ?_
  exact⟨_,rfl,NodesS.nil _ _,(HF1.out.trans HF2.out (fun _ _ q=>q)).setCell _ _ (fun h=>by have h:w.heap.size+1<w.heap.size:=h;omega)⟩
 | true =>
  obtain⟨Fs,rfl⟩:=zf4 (HG.out.1 rfl);have hgd:=HG.out.1 rfl;obtain⟨k0,k1,z1⟩:=HK.out w2 HF2.out;go_wp2_with fail;refine(zff w2).mono ?_
  rintro e w3 ⟨rfl,hp3,hmaps,f3⟩;obtain⟨pb,hpb⟩:∃pb,pb=w2.heap.size+5:=⟨_,rfl⟩;obtain⟨ob,hob⟩:∃ob,ob=w2.heap.size+1:=⟨_,rfl⟩;obtain⟨sb,hsb⟩:∃sb,sb=w2.heap.size+2:=⟨_,rfl⟩;have hmap:=hmaps 2 (by omega);have hmapo:=hmaps 1 (by omega);rw[←hob]at hmapo hp3;rw[←hsb]at hmap hp3;rw[←hpb]at hp3 ⊢;obtain⟨ms,hms⟩:∃v,v=Value.map (some (w2.heap.size+3)):=⟨_,rfl⟩;obtain⟨mn,hmn⟩:∃v,v=Value.map (some (w2.heap.size+4)):=⟨_,rfl⟩;rw[←hms,←hmn]at hp3;clear hmaps hms hmn;have hsbl:sb<w3.heap.size:=(Array.getElem?_eq_some_iff.1 hmap).1;have hobl:ob<w3.heap.size:=(Array.getElem?_eq_some_iff.1 hmapo).1;have hos:ob≠sb:=by omega
  have HMo:=Hh (show MapF encP encB w3 ob (fun _=>none)from⟨#[],0,hmapo,by simp,by simp,by simp⟩);have hw12:w.heap.size+2≤w2.heap.size:=by have:=HF2.out.size;have:=HS1.out;omega
  have hf13:=HF2.out.trans f3 (fun _ _ q=>q);have HMp:=Hh (show MapF encN encN w3 sb (fun _=>none)from⟨#[],0,hmap,by simp,by simp,by simp⟩);have hp0:=hp3.low;have HMge:=Hh (show ∀q,(fun q=>(q=w2.heap.size∨q=pb)/\q<w3.heap.size) q→w2.heap.size≤q/\q≠sb/\q≠ob from fun q hq=>by
   rcases hq.1 with e|e <;> omega)
  have hr1:=zm7 pb (.slice na (i2 Fs).length nc) [] Fs [] (.map (some ob)) (.map (some sb)) ms mn w3 hp0 (fun q hq=>hq.2) (fun q hq=>hq.2) PoolOK.nil (HN.out.fr0 hf13).ofI (fun k hk hm=>by have:=(HMge.out k hm).1;have hk:k<w.heap.size:=hk;omega) hgd (by simp);obtain⟨M3,hM3⟩:∃M3:Nat→Prop,M3=fun q=>(q=w2.heap.size∨q=pb)/\q<w3.heap.size:=⟨_,rfl⟩
  obtain⟨I3,hI3⟩:∃I3:Nat→Prop,I3=fun q=>NoM q/\q<w3.heap.size:=⟨_,rfl⟩
  have HMge:=Hh (show ∀q,M3 q→w2.heap.size≤q/\q≠sb/\q≠ob from by rw[hM3];exact HMge.out);have HIno:=Hh (show ∀q,¬I3 q from by rw[hI3];exact fun q h=>h.1);rw[←hM3,←hI3]at hr1;have HRt1:=Hh hr1;have HIn:=Hh (fun(W:World) (f:Fr (fun q=>M3 q∨q=ob∨q=sb) w3 W)=>(hf13.trans f (fun q hq h=>by
   have h2:=HF2.out.size;rcases h with h|h
   ·have:=(HMge.out q h).1;omega
   ·omega):Fr NoM w1 W))
  have hFl:Fs.length≤120:=by have h:=hgd.1;unfold zam at h;rw[decide_eq_true_eq,zcv]at h;exact h.1
  obtain⟨FN,hFN⟩:∃FN,FN=canN Fs:=⟨_,rfl⟩;have hng:ok=zam FN:=by rw[HOk.out,zbc,hFN];rfl
  have HNg:=Hh hng;have HObl:=Hh hobl;have HOs:=Hh hos;have HFN:=Hh hFN;have HSb:=Hh hsbl;have HW12:=Hh hw12;have F23:=Hh f3;have HFl:=Hh hFl;clear k0 k1 z1;obtain⟨k0,k1,z1⟩:=HK.out w3 hf13;clear hp3 hmap hmapo hpb hsb hob hobl hos hsbl hw12 hf13 hp0 hr1 hM3 hI3 hFl hng hFN f3 hgd k1 z1;go_wp2_with fail;(with_reducible refine HRt1.out.mono ?_);rintro e wa ⟨r1,V1,B1,M1,I1,rfl,pa,oa,va,ra,ca,ua,ma,ia,fa⟩;have lv1:V1.length≤120:=by
   have h1:=zf1 oa ua;have h2:=HFl.out;rw[List.length_append,za2,za2]at h1;simp at h1;omega
  have HSum:=Hh (ycf pb ob sb ms mn V1 B1 r1 wa pa oa (HMo.out.fr fa (fun h=>(HMge.out _ h).2.2 rfl)) (HMp.out.fr fa (fun h=>(HMge.out _ h).2.1 rfl)) (fun q hq=>⟨(ma q hq).2,fun e=>by
   have hs:=HObl.out;rcases (ma q hq).1 with h|h
   ·exact(HMge.out q h).2.2 e
   ·omega,fun e=>by
   have hs:=HSb.out;rcases (ma q hq).1 with h|h
   ·exact(HMge.out q h).2.1 e
   ·omega⟩) (fun q hq=>⟨(ia q hq).2,fun e=>by
   have hs:=HObl.out;rcases (ia q hq).1 with h|h
   ·exact HIno.out q h
   ·omega,fun e=>by
   have hs:=HSb.out;rcases (ia q hq).1 with h|h
   ·exact HIno.out q h
   ·omega⟩) HOs.out ra (by omega))
  have FA:=Hh fa;have HMa:=Hh ma;have HCa:=Hh ca;have HLv:=Hh lv1;clear pa oa va ra ca ua ma ia fa lv1 k0;go_wp2_with fail;(with_reducible refine HSum.out.mono ?_);rintro e wc ⟨i,V3,B3,M4,I4,ffo,ffc,rfl,st,nx,hi,hci⟩;have kc:Fr (fun q=>M3 q∨q=ob∨q=sb) w3 wc:=(FA.out.mono (fun _ _ q=>.inl q)).trans nx.fr (fun q hq h=>h.elim (fun h=>by
   rcases (HMa.out q h).1 with h|h
   ·exact .inl h
   ·omega) .inr)
  rw[HCa.out]at hci;have hci:=hci.eq;have hfo:=zdh st.ok hi hci;have hln:=st.len;unfold canU at hln;rw[List.length_append,List.length_map,za2]at hln;have hlv:=HLv.out;have HPf:=Hh (zhh pb i V3 B3 (.map (some ob)) (.map (some sb)) ms mn wc st.pool st.ok hi (by omega));have HRes:=Hh (fun(okf:Bool) (FR:List PL) (hres:FormRes V3 B3 i okf FR)=>FormRes.is st.ok hi hres);have HFo:=Hh hfo;have KC:=Hh kc;clear st nx hi hci kc hfo hln hlv;go_wp2_with fail;(with_reducible refine HPf.out.mono ?_);rintro e wd ⟨nv,okf,FR,rfl,hres,hns,f8⟩;obtain⟨an,cn,rfl,zz⟩:=id hns.nodeL;clear zz;have kd:Fr NoM w1 wd:=HIn.out wd (KC.out.trans f8 (fun _ _ q=>q.elim));obtain⟨_,r13a,r13b⟩:=HK.out wd kd;obtain⟨h1,h2⟩:=HRes.out _ _ hres;rw[HFo.out]at h1 h2;rw[show zac (canC (zb0 Fs))=FN from HFN.out.symm]at h1 h2;rw[←HNg.out]at h1;have HNs:=Hh hns;have KD:=Hh kd;have HZf:=Hh (show w.heap.size+2≤wc.heap.size from by have:=KC.out.size;have:=F23.out.size;have:=HW12.out;omega);clear hns kd f8 hres;subst h1;cases okf with
  | true =>
   have eF:FR=FN:=by simpa using h2
   have HFR:=Hh eF;clear h2 eF;go_wp2_with fail;refine bodyPost_ret (v:=.tuple #[.agg #[.slice an FR.length cn],.bool true]) (by simp[results,Tryz.results63,go_sem,r13a]) rfl ?_
   refine⟨_,rfl,?_,(HF1.out.trans KD.out (fun _ _ q=>q)).setCell ⟨w.heap.size+1,0,none⟩ _ (fun h=>by have h:w.heap.size+1<w.heap.size:=h;omega)⟩;have hn:=(HNs.out.fr (Fr.set wd ⟨w.heap.size+1,0,none⟩ (.slice an FR.length cn)) (fun q hq _ e=>by have e:q=w.heap.size+1:=e;have:=HZf.out;omega)).base (D':=w.heap.size) (by have:=HZf.out;omega);rw[zbc,←HFN.out,←HFR.out];exact hn
  | false =>
   have eF:FR=[]:=by simpa using h2
   have HFR:=Hh eF;clear h2 eF;go_wp2_with fail;refine bodyPost_ret (v:=.tuple #[.agg #[.slice an FR.length cn],.bool false]) (by simp[results,Tryz.results63,go_sem,r13a]) rfl ?_
   refine⟨_,rfl,?_,(HF1.out.trans KD.out (fun _ _ q=>q)).setCell ⟨w.heap.size+1,0,none⟩ _ (fun h=>by have h:w.heap.size+1<w.heap.size:=h;omega)⟩;have hn:=(HNs.out.fr (Fr.set wd ⟨w.heap.size+1,0,none⟩ (.slice an FR.length cn)) (fun q hq _ e=>by have e:q=w.heap.size+1:=e;have:=HZf.out;omega)).base (D':=w.heap.size) (by have:=HZf.out;omega);rw[HFR.out]at hn;rw[HFR.out];exact hn
set_option maxRecDepth 4000 in
set_option maxHeartbeats 8000000 in
theorem znb {C:List Nat}{NL:List PL}(B:BookC NL C)(ob bb kb x y:Nat)(hN:NL.length<1000)(hx:x<NL.length)(hy:y<NL.length)(hZt:∀z∈(za6 NL y).2,z<NL.length)(K:List Nat)(w:World)(hO:OrdR w ob bb kb NL K)(hK:KOK C NL.length (2*NL.length) K) :
  Calls Tryz.prog 156 #[.pointer (some ⟨ob,0,none⟩),.int .i64 (x:Int),.int .i64 (y:Int),.bool true] w fun e w'=>e=.returned (.int .i64 (thrI ((za6 NL y).2.find? (gR C x))))/\∃K',OrdR w' ob bb kb NL K'∧KOK C NL.length (2*NL.length) K'∧Fr (fun q=>q=kb) w w':=by
 have HGq:=Hh (fun x y hx hy K w=>zkr B ob bb kb x y hN hx hy K w);obtain⟨bv,hbv,hNb⟩:=hO.nv;obtain⟨na,nc,rfl,_,_,hnn⟩:=hNb;obtain⟨b1,o1,l,r,hna,hb1,c1,c2,s1,s2,q1,q2⟩:=hnn _ _ (za7 hy);have ix:=zbe na NL.length nc y b1 o1 hy hna;have o0:=hO.o0;obtain⟨Z,hZ⟩:∃Z,Z=(za6 NL y).2:=⟨_,rfl⟩;rw[←hZ]at hZt s2 q2 ⊢;have HL:=Hh (fun(W:World) (f:Fr (fun q=>q=kb) w W)=>show Nats W r Z from s2.fr f q2);obtain⟨la,lc,rfl,hl1,hl2,z⟩:=id s1;clear z;obtain⟨ra,rc,rfl,hl3,hl4,z⟩:=id s2;clear z;obtain⟨res,hres⟩:∃res,res=thrI (Z.find? (gR C x)):=⟨_,rfl⟩;rw[←hres];have HLt:=Hh hZt;have HRes:=Hh hres;have HX:=Hh hx;have HO:=Hh hO;have HK:=Hh hK;clear hO hK hx hZt hres hnn s1 s2 q1 q2 hna hZ;go_enter Tryz.func156,Tryz.ntmps156;go_wp2_with fail;clear o0 hbv c1 c2 ix;go_loopw [10] (fun t W=>∃(k:Nat) (K1:List Nat),t=.int .i64 k/\k≤Z.length/\(Z.take k).find? (gR C x)=none/\OrdR W ob bb kb NL K1/\KOK C NL.length (2*NL.length) K1/\Fr (fun q=>q=kb) w W) (fun t _=>Z.length-(intOf t).toNat)
 case atStart=>exact⟨0,K,rfl,Nat.zero_le _,rfl,HO.out,HK.out,Fr.refl _ _⟩
 case round =>
  obtain⟨k,K1,rfl,hk,hno,hO1,hK1,hfr⟩:=hrel;obtain⟨w6,rfl⟩:∃w6,w6=wr:=⟨_,rfl⟩;have HO1:=Hh hO1;have HK1:=Hh hK1;have HFr:=Hh hfr;have HNo:=Hh hno;clear hO1 hK1 hfr hno;by_cases hkl:k<Z.length
  ·obtain⟨z,hz⟩:∃z,Z[k]?=some z:=⟨_,List.getElem?_eq_getElem hkl⟩
   have hzl:=HLt.out z (List.mem_of_getElem? hz);have HC:=Hh (fun(W:World) (f:Fr (fun q=>q=kb) w W)=>show ∃b2 o2,ra=some ⟨b2,o2,none⟩/\W.cell? ⟨b2,o2+k,none⟩=some (.int .i64 (z:Int))from by
    obtain⟨_,_,ee,_,_,hcc⟩:=HL.out W f;cases ee
    exact hcc k z hz)
   obtain⟨b2,o2,ha2,d2⟩:=HC.out w6 HFr.out;have ix1:=zaa ra Z.length rc k b2 o2 hkl ha2;obtain⟨a,ha⟩:∃a,a=gR C x z:=⟨_,rfl⟩;obtain⟨hi',ez⟩:=List.getElem?_eq_some_iff.1 hz
   have htk:(Z.take (k+1)).find? (gR C x)=if a=true then some z else none:=by
    rw[List.take_succ_eq_append_getElem hkl,ez,List.find?_append,HNo.out,Option.none_or,ha];cases hb:gR C x z <;> simp[hb]
   have hres:a=true→res=(z:Int):=fun h=>by
    rw[HRes.out,←List.take_append_drop (k+1) Z,List.find?_append,htk,if_pos h];rfl
   have hgo:a=false→(Z.take (k+1)).find? (gR C x)=none:=fun h=>by rw[htk,h];rfl
   have HRs:=Hh hres;have HGo:=Hh hgo;have h1:=HGq.out x z HX.out hzl K1 w6 HO1.out HK1.out;rw[show geV C x z=a from ha.symm]at h1;have H1:=Hh h1;have HA2:=Hh ha2;clear hz ha htk hres hgo h1 ez ha2;go_wp2_with fail;refine H1.out.mono ?_
   rintro e w8 ⟨rfl,K2,hO2,hK2,hfr2⟩;have HO2:=Hh hO2;have HK2:=Hh hK2;have HFr2:=Hh (HFr.out.trans hfr2 (fun _ _ q=>q));clear hO2 hK2 hfr2 d2;cases a with
   | true =>
    have hr:=HRs.out rfl;obtain⟨b3,o3,ha3,d3⟩:=HC.out w8 HFr2.out;rw[HA2.out]at ha3;cases ha3
    go_wp2_with fail;go_ret;exact⟨by rw[hr] <;> rfl,K2,HO2.out,HK2.out,HFr2.out⟩
   | false =>
    have HNx:=Hh (HGo.out rfl);go_wp2_with fail;go_roundw
    case rel=>exact⟨k+1,K2,by go_num,by omega,HNx.out,HO2.out,HK2.out,HFr2.out⟩
    case measure=>simp[intOf];omega
  ·have hk':k=Z.length:=by omega
   have hr:res=-1:=by
    have h:=HNo.out;rw[hk',List.take_length]at h;rw[HRes.out,h];rfl
   clear hk';go_wp2_with fail;go_ret;exact⟨by rw[hr] <;> rfl,K1,HO1.out,HK1.out,HFr.out⟩
set_option maxRecDepth 4000 in
set_option maxHeartbeats 8000000 in
theorem zna {C:List Nat}{NL:List PL}(B:BookC NL C)(ob bb kb x y:Nat)(hN:NL.length<1000)(hx:x<NL.length)(hy:y<NL.length)(hZt:∀z∈(za6 NL y).1,z<NL.length)(K:List Nat)(w:World)(hO:OrdR w ob bb kb NL K)(hK:KOK C NL.length (2*NL.length) K) :
  Calls Tryz.prog 156 #[.pointer (some ⟨ob,0,none⟩),.int .i64 (x:Int),.int .i64 (y:Int),.bool false] w fun e w'=>e=.returned (.int .i64 (thrI ((za6 NL y).1.find? (gL C x))))/\∃K',OrdR w' ob bb kb NL K'∧KOK C NL.length (2*NL.length) K'∧Fr (fun q=>q=kb) w w':=by
 have HGq:=Hh (fun x y hx hy K w=>zkr B ob bb kb x y hN hx hy K w);obtain⟨bv,hbv,hNb⟩:=hO.nv;obtain⟨na,nc,rfl,_,_,hnn⟩:=hNb;obtain⟨b1,o1,l,r,hna,hb1,c1,c2,s1,s2,q1,q2⟩:=hnn _ _ (za7 hy);have ix:=zbe na NL.length nc y b1 o1 hy hna;have o0:=hO.o0;obtain⟨Z,hZ⟩:∃Z,Z=(za6 NL y).1:=⟨_,rfl⟩;rw[←hZ]at hZt s1 q1 ⊢;have HL:=Hh (fun(W:World) (f:Fr (fun q=>q=kb) w W)=>show Nats W l Z from s1.fr f q1);obtain⟨la,lc,rfl,hl1,hl2,z⟩:=id s1;clear z;obtain⟨ra,rc,rfl,hl3,hl4,z⟩:=id s2;clear z;obtain⟨res,hres⟩:∃res,res=thrI (Z.find? (gL C x)):=⟨_,rfl⟩;rw[←hres];have HLt:=Hh hZt;have HRes:=Hh hres;have HX:=Hh hx;have HO:=Hh hO;have HK:=Hh hK;clear hO hK hx hZt hres hnn s1 s2 q1 q2 hna hZ;go_enter Tryz.func156,Tryz.ntmps156;go_wp2_with fail;clear o0 hbv c1 c2 ix;go_loopw [12] (fun t W=>∃(k:Nat) (K1:List Nat),t=.int .i64 k/\k≤Z.length/\(Z.take k).find? (gL C x)=none/\OrdR W ob bb kb NL K1/\KOK C NL.length (2*NL.length) K1/\Fr (fun q=>q=kb) w W) (fun t _=>Z.length-(intOf t).toNat)
 case atStart=>exact⟨0,K,rfl,Nat.zero_le _,rfl,HO.out,HK.out,Fr.refl _ _⟩
 case round =>
  obtain⟨k,K1,rfl,hk,hno,hO1,hK1,hfr⟩:=hrel;obtain⟨w6,rfl⟩:∃w6,w6=wr:=⟨_,rfl⟩;have HO1:=Hh hO1;have HK1:=Hh hK1;have HFr:=Hh hfr;have HNo:=Hh hno;clear hO1 hK1 hfr hno;by_cases hkl:k<Z.length
  ·obtain⟨z,hz⟩:∃z,Z[k]?=some z:=⟨_,List.getElem?_eq_getElem hkl⟩
   have hzl:=HLt.out z (List.mem_of_getElem? hz);have HC:=Hh (fun(W:World) (f:Fr (fun q=>q=kb) w W)=>show ∃b2 o2,la=some ⟨b2,o2,none⟩/\W.cell? ⟨b2,o2+k,none⟩=some (.int .i64 (z:Int))from by
    obtain⟨_,_,ee,_,_,hcc⟩:=HL.out W f;cases ee
    exact hcc k z hz)
   obtain⟨b2,o2,ha2,d2⟩:=HC.out w6 HFr.out;have ix1:=zaa la Z.length lc k b2 o2 hkl ha2;obtain⟨a,ha⟩:∃a,a=gL C x z:=⟨_,rfl⟩;obtain⟨hi',ez⟩:=List.getElem?_eq_some_iff.1 hz
   have htk:(Z.take (k+1)).find? (gL C x)=if a=true then some z else none:=by
    rw[List.take_succ_eq_append_getElem hkl,ez,List.find?_append,HNo.out,Option.none_or,ha];cases hb:gL C x z <;> simp[hb]
   have hres:a=true→res=(z:Int):=fun h=>by
    rw[HRes.out,←List.take_append_drop (k+1) Z,List.find?_append,htk,if_pos h];rfl
   have hgo:a=false→(Z.take (k+1)).find? (gL C x)=none:=fun h=>by rw[htk,h];rfl
   have HRs:=Hh hres;have HGo:=Hh hgo;have h1:=HGq.out z x hzl HX.out K1 w6 HO1.out HK1.out;rw[show geV C z x=a from ha.symm]at h1;have H1:=Hh h1;have HA2:=Hh ha2;clear hz ha htk hres hgo h1 ez ha2;go_wp2_with fail;refine H1.out.mono ?_
   rintro e w8 ⟨rfl,K2,hO2,hK2,hfr2⟩;have HO2:=Hh hO2;have HK2:=Hh hK2;have HFr2:=Hh (HFr.out.trans hfr2 (fun _ _ q=>q));clear hO2 hK2 hfr2 d2;cases a with
   | true =>
    have hr:=HRs.out rfl;obtain⟨b3,o3,ha3,d3⟩:=HC.out w8 HFr2.out;rw[HA2.out]at ha3;cases ha3
    go_wp2_with fail;go_ret;exact⟨by rw[hr] <;> rfl,K2,HO2.out,HK2.out,HFr2.out⟩
   | false =>
    have HNx:=Hh (HGo.out rfl);go_wp2_with fail;go_roundw
    case rel=>exact⟨k+1,K2,by go_num,by omega,HNx.out,HO2.out,HK2.out,HFr2.out⟩
    case measure=>simp[intOf];omega
  ·have hk':k=Z.length:=by omega
   have hr:res=-1:=by
    have h:=HNo.out;rw[hk',List.take_length]at h;rw[HRes.out,h];rfl
   clear hk';go_wp2_with fail;go_ret;exact⟨by rw[hr] <;> rfl,K1,HO1.out,HK1.out,HFr.out⟩
theorem zcc {L:List Nat}(i x:Nat):(x∈L.take i∨x∈L.drop i)↔x∈L:=by
 rw[←List.mem_append,List.take_append_drop]
theorem zdc {L:List Nat}(h:L.Pairwise (· < ·)):L.Nodup:=h.imp (fun h=>Nat.ne_of_lt h)
def zka (Ln:List Nat)(i:Nat):Nat→Bool:=fun x=>decide (x∈Ln.take i)
theorem zb1 {Ln:List Nat}{i x:Nat}:zka Ln i x=true↔x∈Ln.take i:=by
 unfold zka;rw[decide_eq_true_eq]
theorem zh6 {Ln:List Nat}{i x:Nat}(h:Ln[i]?=some x):Ln.take (i+1)=Ln.take i ++ [x]/\Ln.drop i=x::Ln.drop (i+1):=by
 obtain⟨hi,e⟩:=List.getElem?_eq_some_iff.1 h
 exact⟨by rw[List.take_succ_eq_append_getElem hi,e],by rw[List.drop_eq_getElem_cons hi,e]⟩
theorem zu8 {Ln:List Nat}{i x:Nat}(h:Ln[i]?=some x)(hn:Ln.Nodup):x ∉ Ln.take i:=by
 obtain⟨e1,e2⟩:=zh6 h;intro hx;rw[←List.take_append_drop i Ln,e2,List.nodup_append]at hn;exact hn.2.2 x hx x (by simp) rfl
section
variable {V V':List PL}{C:List Nat}{cf:Nat}{S S':Nat→Bool}{Q Q' Kp Kp':List Nat}{i k x:Nat}{Ln Ln':List Nat}
theorem QL.same (h:QL V C cf S Q Kp)(hS:∀x,S' x=true↔S x=true)(hq:∀x,(S' x=true∨x∈Q')↔(S x=true∨x∈Q))(hk:∀x,x∈Kp'↔x∈Kp)(hn:Kp'.Nodup):QL V C cf S' Q' Kp' :=
 ⟨fun i hi=>h.snd i ((hq i).1 hi),fun i hi=>⟨(hS i).2 (h.kp i ((hk i).1 hi)).1,(h.kp i ((hk i).1 hi)).2⟩,fun i hi=>(h.seen i ((hS i).1 hi)).imp (hk i).2 (fun⟨k,a,b,c⟩=>⟨k,a,b,fun l hl=>(hq l).2 (c l hl)⟩),fun l hl=>by
  obtain⟨i,hi,e⟩:=h.opt l hl;exact⟨i,(hq i).2 hi,e⟩,hn⟩
theorem QL.mono (B:BookC V (za0 V))(h:QL V (za0 V) cf S Q Kp)(hp:V <+: V'):QL V' (za0 V') cf S Q Kp:=by
 have hl:=hp.length_le;have hs:∀i,S i=true→i<V.length:=fun i hi=>(h.snd i (.inl hi)).1
 refine⟨fun i hi=>?_,fun i hi=>?_,fun i hi=>?_,fun l hl=>?_,h.nodup⟩
 ·obtain⟨a,b⟩:=h.snd i hi
  rw[zak hp a];exact⟨by omega,b⟩
 ·obtain⟨a,b⟩:=h.kp i hi
  have hil:=hs i a;rw[zcu hp hil];refine⟨a,fun r hr=>?_⟩;rw[zak hp (by have:=(B.opts i _ (za7 hil)).2 r hr;omega)];exact b r hr
 ·have hil:=hs i hi
  refine(h.seen i hi).imp_right ?_
  rintro⟨k,a,b,c⟩;have hk:k<V.length:=by have:=(B.opts i _ (za7 hil)).2 k a;omega
  refine⟨k,by rw[zcu hp hil];exact a,by rw[zak hp hk];exact b,?_⟩;rw[zcu hp hk];exact c
 ·obtain⟨i,hi,e⟩:=h.opt l hl
  exact⟨i,hi,by rw[zak hp (h.snd i hi).1];exact e⟩
structure LQL (V:List PL) (C:List Nat) (cf:Nat) (Ln:List Nat) (i:Nat) (Kp:List Nat):Prop where
 q:QL V C cf (zka Ln i) (Ln.drop i) Kp
 nd:Ln.Nodup
 up:Kp.Pairwise (· < ·)
theorem LQL.start (h:QL V C cf (fun _=>false) Ln [])(hn:Ln.Nodup):LQL V C cf Ln 0 [] :=
 ⟨h.same (fun x=>by rw[zb1];simp) (fun x=>by rw[zb1];simp) (fun _=>Iff.rfl) (by simp),hn,List.Pairwise.nil⟩
theorem LQL.lt (h:LQL V C cf Ln i Kp):(∀x∈Ln,x<V.length)/\∀x∈Kp,x<V.length :=
 ⟨fun x hx=>(h.q.snd x (by rw[zb1,zcc];exact hx)).1,fun x hx=>(h.q.snd x (.inl (h.q.kp x hx).1)).1⟩
theorem LQL.keep (h:LQL V C cf Ln i Kp)(hx:Ln[i]?=some x)(hr:∀r∈(za6 V x).2,geC cf (C.getD r 0)=false):LQL V C cf Ln (i+1) (putN Kp x):=by
 obtain⟨e1,e2⟩:=zh6 hx;have h1:QL V C cf (zka Ln i) (Ln.drop (i+1) ++ [x]) Kp:=h.q.same (fun _=>Iff.rfl) (fun y=>by rw[e2];simp only[List.mem_append,List.mem_cons,List.not_mem_nil,or_false];exact or_congr_right or_comm) (fun _=>Iff.rfl) h.q.nodup;have h2:=h1.keep (fun e=>zu8 hx h.nd (zb1.1 e)) hr;refine⟨h2.same (fun y=>?_) (fun y=>?_) (fun y=>?_) (zdc (zic x h.up)),h.nd,zic x h.up⟩
 ·rw[zax,zb1,zb1,e1];simp
 ·rw[zax,zb1,zb1,e1];simp
 ·rw[zgf];simp
theorem LQL.push (B:BookC V C)(h:LQL V C cf Ln i Kp)(hx:Ln[i]?=some x)(hk:k∈(za6 V x).2)(hg:geC cf (C.getD k 0)=true)(hp:Ln <+: Ln')(hn:Ln'.Nodup)(hm:∀y,y∈Ln'↔y∈Ln∨y∈(za6 V k).1):LQL V C cf Ln' (i+1) Kp:=by
 obtain⟨e1,e2⟩:=zh6 hx;have h1:QL V C cf (zka Ln i) (Ln.drop (i+1) ++ [x]) Kp:=h.q.same (fun _=>Iff.rfl) (fun y=>by rw[e2];simp only[List.mem_append,List.mem_cons,List.not_mem_nil,or_false];exact or_congr_right or_comm) (fun _=>Iff.rfl) h.q.nodup;have h2:=h1.push B hk hg;have hil:=(List.getElem?_eq_some_iff.1 hx).1;have et:Ln'.take (i+1)=Ln.take (i+1):=by
  obtain⟨t,rfl⟩:=hp;exact List.take_append_of_le_length (by omega)
 have key:∀y,addS (zka Ln i) x y=true↔y∈Ln.take (i+1):=fun y=>by
  rw[zax,zb1,e1];simp
 refine⟨h2.same (fun y=>?_) (fun y=>?_) (fun _=>Iff.rfl) h.q.nodup,hn,h.up⟩
 ·rw[key,zb1,et]
 ·rw[zb1,zcc,hm,key,List.mem_append,←or_assoc,zcc]
theorem LQL.fin (h:LQL V C cf Ln Ln.length Kp):∃S,QL V C cf S [] Kp:=⟨zka Ln Ln.length,by
 have h1:=h.q;rw[List.drop_length]at h1;exact h1⟩
theorem QL.node {BV:List Nat}(h:PoolOK V BV)(hx:x<V.length)(hc:∀l∈(za6 V x).1,CanC ((za0 V).getD l 0)):QL V (za0 V) ((za0 V).getD x 0) (fun _=>false) (za6 V x).1 []:=by
 have ho:=(zbh h.book hx).1;refine⟨fun i hi=>?_,by simp,fun i hi=>Bool.noConfusion hi,fun l hl=>?_,by simp⟩
 ·have hi:=hi.resolve_left (by simp)
  exact⟨by have:=(h.opts x _ (za7 hx)).1 i hi;omega,hc i hi,zbg ((ho _).2 ⟨i,hi,rfl⟩)⟩
 ·obtain⟨y,hy,e⟩:=(ho l).1 hl
  exact⟨y,.inr hy,by rw[e];exact zch _⟩
theorem QR.same (h:QR V C cf S Q Kp)(hS:∀x,S' x=true↔S x=true)(hq:∀x,(S' x=true∨x∈Q')↔(S x=true∨x∈Q))(hk:∀x,x∈Kp'↔x∈Kp)(hn:Kp'.Nodup):QR V C cf S' Q' Kp' :=
 ⟨fun i hi=>h.snd i ((hq i).1 hi),fun i hi=>⟨(hS i).2 (h.kp i ((hk i).1 hi)).1,(h.kp i ((hk i).1 hi)).2⟩,fun i hi=>(h.seen i ((hS i).1 hi)).imp (hk i).2 (fun⟨k,a,b,c⟩=>⟨k,a,b,fun l hl=>(hq l).2 (c l hl)⟩),fun l hl=>by
  obtain⟨i,hi,e⟩:=h.opt l hl;exact⟨i,(hq i).2 hi,e⟩,hn⟩
theorem QR.mono (B:BookC V (za0 V))(h:QR V (za0 V) cf S Q Kp)(hp:V <+: V'):QR V' (za0 V') cf S Q Kp:=by
 have hl:=hp.length_le;have hs:∀i,S i=true→i<V.length:=fun i hi=>(h.snd i (.inl hi)).1
 refine⟨fun i hi=>?_,fun i hi=>?_,fun i hi=>?_,fun l hl=>?_,h.nodup⟩
 ·obtain⟨a,b⟩:=h.snd i hi
  rw[zak hp a];exact⟨by omega,b⟩
 ·obtain⟨a,b⟩:=h.kp i hi
  have hil:=hs i a;rw[zcu hp hil];refine⟨a,fun r hr=>?_⟩;rw[zak hp (by have:=(B.opts i _ (za7 hil)).1 r hr;omega)];exact b r hr
 ·have hil:=hs i hi
  refine(h.seen i hi).imp_right ?_
  rintro⟨k,a,b,c⟩;have hk:k<V.length:=by have:=(B.opts i _ (za7 hil)).1 k a;omega
  refine⟨k,by rw[zcu hp hil];exact a,by rw[zak hp hk];exact b,?_⟩;rw[zcu hp hk];exact c
 ·obtain⟨i,hi,e⟩:=h.opt l hl
  exact⟨i,hi,by rw[zak hp (h.snd i hi).1];exact e⟩
structure LQR (V:List PL) (C:List Nat) (cf:Nat) (Ln:List Nat) (i:Nat) (Kp:List Nat):Prop where
 q:QR V C cf (zka Ln i) (Ln.drop i) Kp
 nd:Ln.Nodup
 up:Kp.Pairwise (· < ·)
theorem LQR.start (h:QR V C cf (fun _=>false) Ln [])(hn:Ln.Nodup):LQR V C cf Ln 0 [] :=
 ⟨h.same (fun x=>by rw[zb1];simp) (fun x=>by rw[zb1];simp) (fun _=>Iff.rfl) (by simp),hn,List.Pairwise.nil⟩
theorem LQR.lt (h:LQR V C cf Ln i Kp):(∀x∈Ln,x<V.length)/\∀x∈Kp,x<V.length :=
 ⟨fun x hx=>(h.q.snd x (by rw[zb1,zcc];exact hx)).1,fun x hx=>(h.q.snd x (.inl (h.q.kp x hx).1)).1⟩
theorem LQR.keep (h:LQR V C cf Ln i Kp)(hx:Ln[i]?=some x)(hr:∀r∈(za6 V x).1,geC (C.getD r 0) cf=false):LQR V C cf Ln (i+1) (putN Kp x):=by
 obtain⟨e1,e2⟩:=zh6 hx;have h1:QR V C cf (zka Ln i) (Ln.drop (i+1) ++ [x]) Kp:=h.q.same (fun _=>Iff.rfl) (fun y=>by rw[e2];simp only[List.mem_append,List.mem_cons,List.not_mem_nil,or_false];exact or_congr_right or_comm) (fun _=>Iff.rfl) h.q.nodup;have h2:=h1.keep (fun e=>zu8 hx h.nd (zb1.1 e)) hr;refine⟨h2.same (fun y=>?_) (fun y=>?_) (fun y=>?_) (zdc (zic x h.up)),h.nd,zic x h.up⟩
 ·rw[zax,zb1,zb1,e1];simp
 ·rw[zax,zb1,zb1,e1];simp
 ·rw[zgf];simp
theorem LQR.push (B:BookC V C)(h:LQR V C cf Ln i Kp)(hx:Ln[i]?=some x)(hk:k∈(za6 V x).1)(hg:geC (C.getD k 0) cf=true)(hp:Ln <+: Ln')(hn:Ln'.Nodup)(hm:∀y,y∈Ln'↔y∈Ln∨y∈(za6 V k).2):LQR V C cf Ln' (i+1) Kp:=by
 obtain⟨e1,e2⟩:=zh6 hx;have h1:QR V C cf (zka Ln i) (Ln.drop (i+1) ++ [x]) Kp:=h.q.same (fun _=>Iff.rfl) (fun y=>by rw[e2];simp only[List.mem_append,List.mem_cons,List.not_mem_nil,or_false];exact or_congr_right or_comm) (fun _=>Iff.rfl) h.q.nodup;have h2:=h1.push B hk hg;have hil:=(List.getElem?_eq_some_iff.1 hx).1;have et:Ln'.take (i+1)=Ln.take (i+1):=by
  obtain⟨t,rfl⟩:=hp;exact List.take_append_of_le_length (by omega)
 have key:∀y,addS (zka Ln i) x y=true↔y∈Ln.take (i+1):=fun y=>by
  rw[zax,zb1,e1];simp
 refine⟨h2.same (fun y=>?_) (fun y=>?_) (fun _=>Iff.rfl) h.q.nodup,hn,h.up⟩
 ·rw[key,zb1,et]
 ·rw[zb1,zcc,hm,key,List.mem_append,←or_assoc,zcc]
theorem LQR.fin (h:LQR V C cf Ln Ln.length Kp):∃S,QR V C cf S [] Kp:=⟨zka Ln Ln.length,by
 have h1:=h.q;rw[List.drop_length]at h1;exact h1⟩
theorem QR.node {BV:List Nat}(h:PoolOK V BV)(hx:x<V.length)(hc:∀l∈(za6 V x).2,CanC ((za0 V).getD l 0)):QR V (za0 V) ((za0 V).getD x 0) (fun _=>false) (za6 V x).2 []:=by
 have ho:=(zbh h.book hx).2;refine⟨fun i hi=>?_,by simp,fun i hi=>Bool.noConfusion hi,fun l hl=>?_,by simp⟩
 ·have hi:=hi.resolve_left (by simp)
  exact⟨by have:=(h.opts x _ (za7 hx)).2 i hi;omega,hc i hi,zb6 ((ho _).2 ⟨i,hi,rfl⟩)⟩
 ·obtain⟨y,hy,e⟩:=(ho l).1 hl
  exact⟨y,.inr hy,by rw[e];exact zch _⟩
end
theorem yce {L R:List Nat}(cs ds:List Nat)(h1:cs.length=L.length)(h2:ds.length=R.length)(hL:∀(j c l:Nat),cs[j]?=some c→L[j]?=some l→IsCan c l)(hR:∀(j c l:Nat),ds[j]?=some c→R[j]?=some l→IsCan c l) :
  geC (mkC cs ds) (mkC L R)=true/\geC (mkC L R) (mkC cs ds)=true:=by
 have fL:∀c∈cs,∃l∈L,IsCan c l:=fun c hc=>by
  obtain⟨j,hj,e⟩:=List.getElem_of_mem hc;have hj':j<L.length:=by omega
  exact⟨L[j],List.getElem_mem hj',hL j c _ (by rw[List.getElem?_eq_getElem hj,e]) (List.getElem?_eq_getElem hj')⟩
 have fR:∀c∈ds,∃l∈R,IsCan c l:=fun c hc=>by
  obtain⟨j,hj,e⟩:=List.getElem_of_mem hc;have hj':j<R.length:=by omega
  exact⟨R[j],List.getElem_mem hj',hR j c _ (by rw[List.getElem?_eq_getElem hj,e]) (List.getElem?_eq_getElem hj')⟩
 have gL:∀l∈L,∃c∈cs,IsCan c l:=fun l hl=>by
  obtain⟨j,hj,e⟩:=List.getElem_of_mem hl;have hj':j<cs.length:=by omega
  exact⟨cs[j],List.getElem_mem hj',hL j _ l (List.getElem?_eq_getElem hj') (by rw[List.getElem?_eq_getElem hj,e])⟩
 have gR:∀l∈R,∃c∈ds,IsCan c l:=fun l hl=>by
  obtain⟨j,hj,e⟩:=List.getElem_of_mem hl;have hj':j<ds.length:=by omega
  exact⟨ds[j],List.getElem_mem hj',hR j _ l (List.getElem?_eq_getElem hj') (by rw[List.getElem?_eq_getElem hj,e])⟩
 refine zpi (SL:=cs) (SR:=ds) (fun c hc=>?_) (fun c hc=>?_) (fun c hc=>.inl ⟨c,hc,zch c⟩) (fun c hc=>.inl ⟨c,hc,zch c⟩) (fun l hl=>?_) (fun l hl=>?_)
 ·obtain⟨l,hl,e⟩:=fL c hc
  exact zau e.2.2 (zbg ((zab _ _ _).2 hl))
 ·obtain⟨l,hl,e⟩:=fR c hc
  exact zav e.2.1 (zb6 ((zad _ _ _).2 hl))
 ·obtain⟨c,hc,e⟩:=gL l ((zab _ _ _).1 hl)
  exact⟨c,hc,e.2.1⟩
 ·obtain⟨c,hc,e⟩:=gR l ((zad _ _ _).1 hl)
  exact⟨c,hc,e.2.2⟩
structure OpSt (C:List Nat) (NL:List PL) (ob bb kb:Nat) (w W:World) (lv ov:Value) (Ln Kp K:List Nat):Prop where
 base:∃K0,OrdR w ob bb kb NL K0
 ord:OrdR W ob bb kb NL K
 ok:KOK C NL.length (2*NL.length) K
 fr:Fr (fun q=>q=kb) w W
 rl:W.ownsRow w.heap.size 3 1 lv Ln.length (Ln.map encN)
 ro:Nats W ov Kp
 so:∀q,ov.ownBlock=some q→lv.ownBlock≠some q/\w.heap.size≤q/\q<W.heap.size
section
variable {C:List Nat}{NL:List PL}{ob bb kb x:Nat}{w W W' Wa:World}{lv ov v':Value}{Ln Kp K K':List Nat}
theorem OpSt.kbl (h:OpSt C NL ob bb kb w W lv ov Ln Kp K):kb<w.heap.size:=by
 obtain⟨K0,h0⟩:=h.base;exact(Array.getElem?_eq_some_iff.1 h0.row).1
theorem OpSt.call (h:OpSt C NL ob bb kb w W lv ov Ln Kp K)(ho:OrdR W' ob bb kb NL K')(hk:KOK C NL.length (2*NL.length) K')(hf:Fr (fun q=>q=kb) W W'):OpSt C NL ob bb kb w W' lv ov Ln Kp K':=by
 have hkb:=h.kbl;exact⟨h.base,ho,hk,h.fr.trans hf (fun _ _ q=>q),za3 h.rl hf (fun q hq e=>by have:=(h.rl.lt q hq).1;omega),h.ro.fr hf (fun _ q hq e=>by have:=(h.so q hq).2.1;omega),fun q hq=>⟨(h.so q hq).1,(h.so q hq).2.1,Nat.lt_of_lt_of_le (h.so q hq).2.2 hf.size⟩⟩
theorem OpSt.fr0 (h:OpSt C NL ob bb kb w W lv ov Ln Kp K)(hf:Fr NoM W W'):OpSt C NL ob bb kb w W' lv ov Ln Kp K:=h.call (h.ord.fr0 hf) h.ok hf.any
theorem OpSt.put (h:OpSt C NL ob bb kb w W lv ov Ln Kp K)(hf:Fr NoM W W')(hn:Nats W' v' (putN Kp x))(hb:∀b,v'.ownBlock=some b→ov.ownBlock=some b∨W.heap.size≤b):OpSt C NL ob bb kb w W' lv v' Ln (putN Kp x) K:=by
 have h':=h.fr0 hf;refine⟨h'.base,h'.ord,h'.ok,h'.fr,h'.rl,hn,fun q hq=>?_⟩;rcases hb q hq with e|e
 ·exact h'.so q e
 ·have hne:putN Kp x≠[]:=fun z=>by
   have:=(zgf Kp x x).2 (.inr rfl);rw[z]at this;cases this
  obtain⟨b,e1,e2⟩:=hn.block hne;rw[hq]at e1;cases e1
  exact⟨fun z=>by have:=(h.rl.lt q z).2;omega,by have:=h.fr.size;omega,e2⟩
theorem OpSt.app (h:OpSt C NL ob bb kb w W lv ov Ln Kp K)(ha:Fr NoM W Wa)(ho:W'.ownsRow w.heap.size 3 1 v' (Ln.length+1) (Ln.map encN ++ [x].map encN))(hf:Fr (Own1 lv) Wa W')(hq:v'.ownBlock=lv.ownBlock∨∃b,v'.ownBlock=some b/\Wa.heap.size≤b) :
  OpSt C NL ob bb kb w W' v' ov (Ln ++ [x]) Kp K:=by
 have h:=h.fr0 ha;have hkb:=h.kbl;obtain⟨K0,h0⟩:=h.base;have hfr:Fr (fun q=>q=kb) w W':=h.fr.trans hf (fun q hq e=>by have:=(h.rl.lt q e).1;omega);refine⟨h.base,h0.fr hfr (h.ord.row.fr hf (fun e=>by have:=(h.rl.lt kb e).1;omega)) h.ord.len,h.ok,hfr,by rw[List.length_append,List.map_append];exact ho,h.ro.fr hf (fun _ q hq e=>(h.so q hq).1 e),fun q e=>?_⟩;obtain⟨a,b,c⟩:=h.so q e;refine⟨fun z=>?_,b,Nat.lt_of_lt_of_le c hf.size⟩;rcases hq with h1|⟨b',h1,h2⟩
 ·rw[h1]at z;exact a z
 ·rw[h1]at z;cases z;omega
end
def QB:Bool→List PL→List Nat→Nat→(Nat→Bool)→List Nat→List Nat→Prop
 | true=>QL
 | false=>QR
def zux (lf:Bool)(C:List Nat)(NL:List PL)(ob bb kb cf:Nat)(w:World)(e:Ending)(w':World):Prop :=
 ∃(v:Value) (Kp K':List Nat),e=.returned v/\Nats w' v Kp/\(∀q,v.ownBlock=some q→w.heap.size≤q/\q<w'.heap.size)/\Kp.Pairwise (· < ·)/\(∀i∈Kp,i<NL.length)/\(∃S,QB lf NL C cf S [] Kp)/\OrdR w' ob bb kb NL K'∧KOK C NL.length (2*NL.length) K'∧Fr (fun q=>q=kb) w w'
theorem zyz {Ln Ln2 M:List Nat}{j y:Nat}(h:∀z,z∈Ln2↔z∈Ln∨z∈M.take j)(hy:M[j]?=some y)(hi:y∈Ln2):∀z,z∈Ln2↔z∈Ln∨z∈M.take (j+1):=fun z=>by
 rw[(zh6 hy).1,List.mem_append,List.mem_singleton,←or_assoc,←h z];exact⟨.inl,fun e=>e.elim id (fun e=>e ▸ hi)⟩
theorem zu3 {Ln Ln2 M:List Nat}{j y:Nat}(h:∀z,z∈Ln2↔z∈Ln∨z∈M.take j)(hy:M[j]?=some y):∀z,z∈Ln2 ++ [y]↔z∈Ln∨z∈M.take (j+1):=fun z=>by
 rw[(zh6 hy).1,List.mem_append,List.mem_append,List.mem_singleton,←or_assoc,←h z]
theorem zba {L:List Nat}{N:Nat}(h:L.Nodup)(hl:∀x∈L,x<N):L.length≤N:=by
 have:=h.length_le_of_subset (fun x hx=>List.mem_range.2 (hl x hx));rwa [List.length_range]at this
set_option maxRecDepth 8000 in
set_option maxHeartbeats 8000000 in
theorem zsi {C:List Nat}{NL:List PL}(B:BookC NL C)(ob bb kb x:Nat)(hN:NL.length<1000)(hx:x<NL.length)(lv:Value)(L K:List Nat)(w:World)(hO:OrdR w ob bb kb NL K)(hK:KOK C NL.length (2*NL.length) K)(hL:Nats w lv L)(hq:QL NL C (C.getD x 0) (fun _=>false) L [])(hn:L.Nodup) :
  Calls Tryz.prog 127 #[.pointer (some ⟨ob,0,none⟩),.int .i64 (x:Int),lv,.bool true] w fun e w'=>zux true C NL ob bb kb (C.getD x 0) w e w':=by
 have hkb:kb<w.heap.size:=(Array.getElem?_eq_some_iff.1 hO.row).1;have hLN:L.length≤NL.length:=zba hn (fun y hy=>(hq.snd y (.inr hy)).1);have HLQ:=Hh (LQL.start hq hn);have HLN:=Hh hLN;obtain⟨bv,hbv,hNb⟩:=hO.nv;obtain⟨na,nc,rfl,_,_,hnn⟩:=hNb;have HNd:=Hh (fun(k:Nat) (hk:k<NL.length) (W:World) (f:Fr (fun q=>q=kb) w W)=>show ∃b1 o1 l,na=some ⟨b1,o1,none⟩/\W.cell? ⟨ob,0,none⟩=some (.pointer (some ⟨bb,0,none⟩))/\W.cell? ⟨bb,0,none⟩=some (.slice na NL.length nc)/\W.cell? ⟨b1,o1+k*2,none⟩=some l/\Nats w l (za6 NL k).1/\((za6 NL k).1≠[]→∀q,l.ownBlock=some q→q≠kb)from by
  obtain⟨b1,o1,l,r,hna,hb1,c1,c2,s1,s2,q1,q2⟩:=hnn _ _ (za7 hk);exact⟨b1,o1,l,hna,f.cell hO.o0 hO.n1,f.cell hbv hO.n2,f.cell c1 hb1,s1,q1⟩)
 have HThr:=Hh (fun(y:Nat) (hy:y<NL.length) (K:List Nat) (W:World) (hO:OrdR W ob bb kb NL K) (hK:KOK C NL.length (2*NL.length) K)=>znb B ob bb kb x y hN hx hy (fun z hz=>by have:=(B.opts y _ (za7 hy)).2 z hz;omega) K W hO hK);obtain⟨la,lc,rfl,zz⟩:=id hL;clear zz;have HB:=Hh B;have HN:=Hh hN;have HO:=Hh hO;have HK:=Hh hK;have HL:=Hh hL;have HKb:=Hh hkb;clear hO hK hL hq hn hLN hnn hbv B hN hx hkb;go_enter Tryz.func127,Tryz.ntmps127;go_wp2_with (at_builtin;refine zag (enc:=encN) _ rfl (.tmp 15) (.tmp 16) 82 rfl w.heap.size 3 (.int .i64 0) 8 Tryz.underlying82 za9 rfl (.slice (some ⟨w.heap.size,0,none⟩) 0 0) 0 [] rfl (World.ownsRow_made w #[] 0 (Nat.le_refl _) (by decide) (by simp)) (.slice la L.length lc) rfl L (HL.out.fr0 ((Fr.refl NoM w).alloc _)) (fun _=>rfl) (by have:=HLN.out;have:=HN.out;omega) (by decide) (by rw[World.size_alloc];omega) ?_);intro v1 w1 h1 f1 q1;have hfw:Fr NoM w w1:=((Fr.refl NoM w).alloc _).trans f1 (fun q hq e=>by have e:w.heap.size=q:=Option.some.inj e;omega);obtain⟨w2,hw2⟩:∃w2,w2=w1.alloc (.cells #[] 3):=⟨_,rfl⟩;have hf2:Fr NoM w1 w2:=by rw[hw2];exact(Fr.refl NoM w1).alloc _
 have r2:=NRow.made w1;rw[←hw2]at r2;have hkb:=HKb.out;have hst:OpSt C NL ob bb kb w w2 v1 (.slice (some ⟨w1.heap.size,0,none⟩) 0 0) L [] K :=
  ⟨⟨K,HO.out⟩,HO.out.fr0 (hfw.trans hf2 (fun _ _ q=>q)),HK.out,(hfw.trans hf2 (fun _ _ q=>q)).any,za3 h1 hf2 (fun _ _ q=>q),r2.nats,fun q hq=>by
   have e:w1.heap.size=q:=Option.some.inj hq;refine⟨fun z=>by have:=(h1.lt q z).2;omega,by have:=hfw.size;omega,by rw[←e,hw2];simp⟩⟩
 have HSt:=Hh hst;clear hst h1 f1 q1 hfw hf2 r2 hkb;obtain⟨o1,ho1⟩:∃v,v=Value.slice (some ⟨w1.heap.size,0,none⟩) 0 0:=⟨_,rfl⟩;rw[←ho1]at HSt;go_wp2_with fail;rw[←hw2,←ho1];clear hw2 ho1;go_loopw [9,10,11] (fun v9 v10 t W=>∃(i:Nat) (va vo:Value) (Ln Kp K1:List Nat),va=v9/\vo=v10/\t=.int .i64 i/\i≤Ln.length/\OpSt C NL ob bb kb w W va vo Ln Kp K1/\LQL NL C (C.getD x 0) Ln i Kp) (fun _ _ t _=>NL.length-(intOf t).toNat)
 case atStart=>exact⟨0,_,_,L,[],K,rfl,rfl,rfl,Nat.zero_le _,HSt.out,HLQ.out⟩
 case round =>
  obtain⟨i,va,vo,Ln,Kp,K1,rfl,rfl,rfl,hi,hs,hq⟩:=hrel;obtain⟨wa,rfl⟩:∃w7,w7=wr:=⟨_,rfl⟩;have hLn:Ln.length≤NL.length:=zba hq.nd hq.lt.1;have HS:=Hh hs;have HQ:=Hh hq;have HLn:=Hh hLn;obtain⟨ga,gc,rfl,zz⟩:=SliceOf.of_owns hs.rl rfl;clear zz;by_cases hil:i<Ln.length
  ·obtain⟨y,hy⟩:∃y,Ln[i]?=some y:=⟨_,List.getElem?_eq_getElem hil⟩
   have hyl:=hq.lt.1 y (List.mem_of_getElem? hy);obtain⟨_,_,ee,_,_,hcc⟩:=SliceOf.of_owns (enc:=encN) hs.rl rfl;cases ee
   obtain⟨b3,o3,ha3,c3⟩:=hcc i y hy;have HC3:=Hh (fun(W:World) (v:Value) (K2:List Nat) (h:OpSt C NL ob bb kb w W (.slice ga Ln.length gc) v Ln Kp K2)=>show W.cell? ⟨b3,o3+i,none⟩=some (.int .i64 (y:Int))from by
    obtain⟨_,_,ee,_,_,hcc⟩:=SliceOf.of_owns (enc:=encN) h.rl rfl;cases ee
    obtain⟨_,_,e,c⟩:=hcc i y hy;rw[ha3]at e;cases e
    exact c)
   unfold encN at c3;have ix3:=zaa ga Ln.length gc i b3 o3 hil ha3;have hthr:=HThr.out y hyl K1 wa hs.ord hs.ok;obtain⟨res,hres⟩:∃res,res=(za6 NL y).2.find? (gR C x):=⟨_,rfl⟩;rw[←hres]at hthr;have HTh:=Hh hthr;have HRes:=Hh hres;have HY:=Hh hy;have HYl:=Hh hyl;clear hthr hres hy hyl hcc ha3 hs hq hLn;go_wp2_with fail;(with_reducible refine HTh.out.mono ?_);rintro e w8 ⟨rfl,K8,hO8,hK8,f8⟩;have hs8:=HS.out.call hO8 hK8 f8;have HS8:=Hh hs8;have c3:=HC3.out w8 _ _ hs8;clear hO8 hK8 f8 HTh;cases res with
   | none =>
    have hneg:(thrI none)=-1:=rfl;rw[hneg];have hnk:=HQ.out.keep HY.out (by
     have h:=HRes.out;intro r hr;have h1:=(List.find?_eq_none.1 h.symm) r hr;have h2:gR C x r=geC (C.getD x 0) (C.getD r 0):=rfl;rw[h2]at h1;simpa using h1)
    have hkl:Kp.length≤NL.length:=zba HQ.out.q.nodup HQ.out.lt.2;have HNk:=Hh hnk;have HKl:=Hh hkl;clear hnk hkl hs8;go_wp2_with fail;(with_reducible refine(ze5 _ Kp y w8 HS8.out.ro (by have:=HKl.out;have:=HN.out;omega)).mono ?_);rintro e w9 ⟨v9,rfl,n9,f9,b9⟩;have HS9:=Hh (HS8.out.put f9 n9 b9);clear n9 f9 b9 c3;go_wp2_with fail;go_roundw
    case rel=>exact⟨i+1,_,v9,Ln,putN Kp y,K8,rfl,rfl,by go_num,by omega,HS9.out,HNk.out⟩
    case measure=>have:=HLn.out;simp[intOf];omega
   | some k =>
    have hneg:(thrI (some k))=(k:Int):=rfl;rw[hneg];have hmem:=List.mem_of_find?_eq_some HRes.out.symm
    have hgt:=List.find?_some HRes.out.symm
    have hgt:geC (C.getD x 0) (C.getD k 0)=true:=hgt;have hkl:k<NL.length:=by have:=(HB.out.opts y _ (za7 HYl.out)).2 k hmem;have:=HYl.out;omega
    obtain⟨M,hM⟩:∃M,M=(za6 NL k).1:=⟨_,rfl⟩;have hpush:=fun(Ln':List Nat) (hp:Ln <+: Ln') (hn:Ln'.Nodup) (hm:∀z,z∈Ln'↔z∈Ln∨z∈M)=>HQ.out.push HB.out HY.out hmem hgt hp hn (by rw[←hM];exact hm)
    have hMl:∀z∈M,z<NL.length:=fun z hz=>by rw[hM]at hz;have:=(HB.out.opts k _ (za7 hkl)).1 z hz;omega
    have hMn:M.Nodup:=by rw[hM];exact zdc (HB.out.up k _ (za7 hkl)).1
    have hMm:M.length≤NL.length:=zba hMn hMl;obtain⟨b1,o1,ml,hna,j0,j1,j2,jn,jb⟩:=HNd.out k hkl w8 hs8.fr;rw[←hM]at jn jb;have ixk:=zbe na NL.length nc k b1 o1 hkl hna;have hnn:¬((k:Int)<0):=by omega
    obtain⟨ma,mc,rfl,zz⟩:=id jn;clear zz;have HMr:=Hh (fun(W:World) (f:Fr (fun q=>q=kb) w W)=>show Nats W (.slice ma M.length mc) M from jn.fr f jb);have HPu:=Hh hpush;have HMl:=Hh hMl;have HMm:=Hh hMm;have HIl:=Hh hil;clear hmem hgt hM hpush hMl hMn jn jb hs8 hna;have hz9:M.length≤9223372036854775807:=by have:=HN.out;omega
    clear hMm;go_wp2_with fail;clear j0 j1 j2 ixk ix3 c3 hnn hkl;go_loopw [9,14] (fun v9 t W=>∃(j:Nat) (va2:Value) (Ln2:List Nat),va2=v9/\t=.int .i64 j/\j≤M.length/\OpSt C NL ob bb kb w W va2 vo Ln2 Kp K8/\Ln <+: Ln2/\Ln2.Nodup/\∀z,z∈Ln2↔z∈Ln∨z∈M.take j) (fun _ t _=>M.length-(intOf t).toNat)
    case atStart=>exact⟨0,_,Ln,rfl,rfl,Nat.zero_le _,HS8.out,List.prefix_refl _,HQ.out.nd,fun z=>by simp⟩
    case round =>
     obtain⟨j,va2,Ln2,rfl,rfl,hj,hs2,hp2,hn2,hm2⟩:=hrel;obtain⟨w10,rfl⟩:∃w7,w7=wr:=⟨_,rfl⟩;have HS2:=Hh hs2;have HP2:=Hh hp2;have HN2:=Hh hn2;have HM2:=Hh hm2;by_cases hjl:j<M.length
     ·obtain⟨z,hz⟩:∃z,M[j]?=some z:=⟨_,List.getElem?_eq_getElem hjl⟩
      obtain⟨_,_,ee,_,_,hcc⟩:=HMr.out w10 hs2.fr;cases ee
      obtain⟨b4,o4,ha4,c4⟩:=hcc j z hz;unfold encN at c4;have ix4:=zaa ma M.length mc j b4 o4 hjl ha4;have hl2:Ln2.length≤NL.length:=zba hn2 (fun y hy=>((hm2 y).1 hy).elim (fun e=>HQ.out.lt.1 y e) (fun e=>HMl.out y (List.mem_of_mem_take e)));have hhas:=zmp va2 Ln2 z w10 (SliceOf.of_owns hs2.rl rfl);have HL2:=Hh hl2;have HZ:=Hh hz;by_cases hm:z∈Ln2
      ·rw[decide_eq_true hm]at hhas
       have HHas:=Hh hhas;have HM:=Hh hm;clear hhas hm hz hcc ha4 hl2 hs2 hp2 hn2 hm2;go_wp2_with fail;(with_reducible refine HHas.out.mono ?_);rintro e w11 ⟨rfl,rfl⟩;go_wp2_with fail;go_roundw
       case rel=>exact⟨j+1,_,Ln2,rfl,by go_num,by omega,HS2.out,HP2.out,HN2.out,zyz HM2.out HZ.out HM.out⟩
       case measure=>simp[intOf];omega
      ·rw[decide_eq_false hm]at hhas
       have HHas:=Hh hhas;have HM:=Hh hm;clear hhas hm hz hcc ha4 hl2 hs2 hp2 hn2 hm2;go_wp2_with fail;(with_reducible refine HHas.out.mono ?_);rintro e w11 ⟨rfl,rfl⟩;go_wp2_with (at_builtin;refine zag (enc:=encN) _ rfl (.tmp 78) (.tmp 83) 82 rfl w.heap.size 3 (.int .i64 0) 8 Tryz.underlying82 za9 rfl va2 Ln2.length (Ln2.map encN) rfl (HS2.out.fr0 ((Fr.refl NoM w11).alloc _)).rl (.slice (some ⟨w11.heap.size,0,none⟩) 1 1) rfl [z] (SliceOf.one encN w11 z 3) (fun _=>rfl) (by have h1:=HL2.out;have h2:=HN.out;simp only[List.length_singleton];omega) (by decide) (by have:=HS2.out.fr.size;rw[World.size_alloc];omega) ?_);intro v12 w12 h12 f12 q12;have HS12:=Hh (HS2.out.app (x:=z) ((Fr.refl NoM w11).alloc _) h12 f12 (by rw[World.size_alloc];exact q12));clear h12 f12 q12;go_wp2;go_roundw
       case rel=>exact⟨j+1,v12,Ln2 ++ [z],rfl,by go_num,by omega,HS12.out,HP2.out.trans (List.prefix_append _ _),List.nodup_append.2 ⟨HN2.out,by simp,fun a ha b hb e=>HM.out (by rw[List.mem_singleton.1 hb]at e;exact e ▸ ha)⟩,zu3 HM2.out HZ.out⟩
       case measure=>simp[intOf];omega
     ·obtain rfl:j=M.length:=by omega
      rw[List.take_length]at hm2;have hq2:=HPu.out Ln2 hp2 hn2 hm2;have hle:=hp2.length_le;have HQ2:=Hh hq2;clear hq2 hs2 hp2 hn2 hm2 hj hjl;go_wp2_with fail;go_roundw
      case rel=>exact⟨i+1,_,vo,Ln2,Kp,K8,rfl,rfl,by go_num,by have:=HIl.out;omega,HS2.out,HQ2.out⟩
      case measure=>have:=HLn.out;have:=HIl.out;simp[intOf];omega
  ·obtain rfl:i=Ln.length:=by omega
   clear hs hq hi hil hLn;go_wp2_with fail;go_ret;exact⟨vo,Kp,K1,rfl,HS.out.ro,fun q hq=>(HS.out.so q hq).2,HQ.out.up,HQ.out.lt.2,HQ.out.fin,HS.out.ord,HS.out.ok,HS.out.fr⟩
set_option maxRecDepth 8000 in
set_option maxHeartbeats 8000000 in
theorem zsh {C:List Nat}{NL:List PL}(B:BookC NL C)(ob bb kb x:Nat)(hN:NL.length<1000)(hx:x<NL.length)(lv:Value)(L K:List Nat)(w:World)(hO:OrdR w ob bb kb NL K)(hK:KOK C NL.length (2*NL.length) K)(hL:Nats w lv L)(hq:QR NL C (C.getD x 0) (fun _=>false) L [])(hn:L.Nodup) :
  Calls Tryz.prog 127 #[.pointer (some ⟨ob,0,none⟩),.int .i64 (x:Int),lv,.bool false] w fun e w'=>zux false C NL ob bb kb (C.getD x 0) w e w':=by
 have hkb:kb<w.heap.size:=(Array.getElem?_eq_some_iff.1 hO.row).1;have hLN:L.length≤NL.length:=zba hn (fun y hy=>(hq.snd y (.inr hy)).1);have HLQ:=Hh (LQR.start hq hn);have HLN:=Hh hLN;obtain⟨bv,hbv,hNb⟩:=hO.nv;obtain⟨na,nc,rfl,_,_,hnn⟩:=hNb;have HNd:=Hh (fun(k:Nat) (hk:k<NL.length) (W:World) (f:Fr (fun q=>q=kb) w W)=>show ∃b1 o1 l,na=some ⟨b1,o1,none⟩/\W.cell? ⟨ob,0,none⟩=some (.pointer (some ⟨bb,0,none⟩))/\W.cell? ⟨bb,0,none⟩=some (.slice na NL.length nc)/\W.cell? ⟨b1,o1+k*2+1,none⟩=some l/\Nats w l (za6 NL k).2/\((za6 NL k).2≠[]→∀q,l.ownBlock=some q→q≠kb)/\∃l0,W.cell? ⟨b1,o1+k*2,none⟩=some l0 from by
  obtain⟨b1,o1,l,r,hna,hb1,c1,c2,s1,s2,q1,q2⟩:=hnn _ _ (za7 hk);exact⟨b1,o1,r,hna,f.cell hO.o0 hO.n1,f.cell hbv hO.n2,f.cell c2 hb1,s2,q2,l,f.cell c1 hb1⟩)
 have HThr:=Hh (fun(y:Nat) (hy:y<NL.length) (K:List Nat) (W:World) (hO:OrdR W ob bb kb NL K) (hK:KOK C NL.length (2*NL.length) K)=>zna B ob bb kb x y hN hx hy (fun z hz=>by have:=(B.opts y _ (za7 hy)).1 z hz;omega) K W hO hK);obtain⟨la,lc,rfl,zz⟩:=id hL;clear zz;have HB:=Hh B;have HN:=Hh hN;have HO:=Hh hO;have HK:=Hh hK;have HL:=Hh hL;have HKb:=Hh hkb;clear hO hK hL hq hn hLN hnn hbv B hN hx hkb;go_enter Tryz.func127,Tryz.ntmps127;go_wp2_with (at_builtin;refine zag (enc:=encN) _ rfl (.tmp 15) (.tmp 16) 82 rfl w.heap.size 3 (.int .i64 0) 8 Tryz.underlying82 za9 rfl (.slice (some ⟨w.heap.size,0,none⟩) 0 0) 0 [] rfl (World.ownsRow_made w #[] 0 (Nat.le_refl _) (by decide) (by simp)) (.slice la L.length lc) rfl L (HL.out.fr0 ((Fr.refl NoM w).alloc _)) (fun _=>rfl) (by have:=HLN.out;have:=HN.out;omega) (by decide) (by rw[World.size_alloc];omega) ?_);intro v1 w1 h1 f1 q1;have hfw:Fr NoM w w1:=((Fr.refl NoM w).alloc _).trans f1 (fun q hq e=>by have e:w.heap.size=q:=Option.some.inj e;omega);obtain⟨w2,hw2⟩:∃w2,w2=w1.alloc (.cells #[] 3):=⟨_,rfl⟩;have hf2:Fr NoM w1 w2:=by rw[hw2];exact(Fr.refl NoM w1).alloc _
 have r2:=NRow.made w1;rw[←hw2]at r2;have hkb:=HKb.out;have hst:OpSt C NL ob bb kb w w2 v1 (.slice (some ⟨w1.heap.size,0,none⟩) 0 0) L [] K :=
  ⟨⟨K,HO.out⟩,HO.out.fr0 (hfw.trans hf2 (fun _ _ q=>q)),HK.out,(hfw.trans hf2 (fun _ _ q=>q)).any,za3 h1 hf2 (fun _ _ q=>q),r2.nats,fun q hq=>by
   have e:w1.heap.size=q:=Option.some.inj hq;refine⟨fun z=>by have:=(h1.lt q z).2;omega,by have:=hfw.size;omega,by rw[←e,hw2];simp⟩⟩
 have HSt:=Hh hst;clear hst h1 f1 q1 hfw hf2 r2 hkb;obtain⟨o1,ho1⟩:∃v,v=Value.slice (some ⟨w1.heap.size,0,none⟩) 0 0:=⟨_,rfl⟩;rw[←ho1]at HSt;go_wp2_with fail;rw[←hw2,←ho1];clear hw2 ho1;go_loopw [9,10,11] (fun v9 v10 t W=>∃(i:Nat) (va vo:Value) (Ln Kp K1:List Nat),va=v9/\vo=v10/\t=.int .i64 i/\i≤Ln.length/\OpSt C NL ob bb kb w W va vo Ln Kp K1/\LQR NL C (C.getD x 0) Ln i Kp) (fun _ _ t _=>NL.length-(intOf t).toNat)
 case atStart=>exact⟨0,_,_,L,[],K,rfl,rfl,rfl,Nat.zero_le _,HSt.out,HLQ.out⟩
 case round =>
  obtain⟨i,va,vo,Ln,Kp,K1,rfl,rfl,rfl,hi,hs,hq⟩:=hrel;obtain⟨wa,rfl⟩:∃w7,w7=wr:=⟨_,rfl⟩;have hLn:Ln.length≤NL.length:=zba hq.nd hq.lt.1;have HS:=Hh hs;have HQ:=Hh hq;have HLn:=Hh hLn;obtain⟨ga,gc,rfl,zz⟩:=SliceOf.of_owns hs.rl rfl;clear zz;by_cases hil:i<Ln.length
  ·obtain⟨y,hy⟩:∃y,Ln[i]?=some y:=⟨_,List.getElem?_eq_getElem hil⟩
   have hyl:=hq.lt.1 y (List.mem_of_getElem? hy);obtain⟨_,_,ee,_,_,hcc⟩:=SliceOf.of_owns (enc:=encN) hs.rl rfl;cases ee
   obtain⟨b3,o3,ha3,c3⟩:=hcc i y hy;have HC3:=Hh (fun(W:World) (v:Value) (K2:List Nat) (h:OpSt C NL ob bb kb w W (.slice ga Ln.length gc) v Ln Kp K2)=>show W.cell? ⟨b3,o3+i,none⟩=some (.int .i64 (y:Int))from by
    obtain⟨_,_,ee,_,_,hcc⟩:=SliceOf.of_owns (enc:=encN) h.rl rfl;cases ee
    obtain⟨_,_,e,c⟩:=hcc i y hy;rw[ha3]at e;cases e
    exact c)
   unfold encN at c3;have ix3:=zaa ga Ln.length gc i b3 o3 hil ha3;have hthr:=HThr.out y hyl K1 wa hs.ord hs.ok;obtain⟨res,hres⟩:∃res,res=(za6 NL y).1.find? (gL C x):=⟨_,rfl⟩;rw[←hres]at hthr;have HTh:=Hh hthr;have HRes:=Hh hres;have HY:=Hh hy;have HYl:=Hh hyl;clear hthr hres hy hyl hcc ha3 hs hq hLn;go_wp2_with fail;(with_reducible refine HTh.out.mono ?_);rintro e w8 ⟨rfl,K8,hO8,hK8,f8⟩;have hs8:=HS.out.call hO8 hK8 f8;have HS8:=Hh hs8;have c3:=HC3.out w8 _ _ hs8;clear hO8 hK8 f8 HTh;cases res with
   | none =>
    have hneg:(thrI none)=-1:=rfl;rw[hneg];have hnk:=HQ.out.keep HY.out (by
     have h:=HRes.out;intro r hr;have h1:=(List.find?_eq_none.1 h.symm) r hr;have h2:gL C x r=geC (C.getD r 0) (C.getD x 0):=rfl;rw[h2]at h1;simpa using h1)
    have hkl:Kp.length≤NL.length:=zba HQ.out.q.nodup HQ.out.lt.2;have HNk:=Hh hnk;have HKl:=Hh hkl;clear hnk hkl hs8;go_wp2_with fail;(with_reducible refine(ze5 _ Kp y w8 HS8.out.ro (by have:=HKl.out;have:=HN.out;omega)).mono ?_);rintro e w9 ⟨v9,rfl,n9,f9,b9⟩;have HS9:=Hh (HS8.out.put f9 n9 b9);clear n9 f9 b9 c3;go_wp2_with fail;go_roundw
    case rel=>exact⟨i+1,_,v9,Ln,putN Kp y,K8,rfl,rfl,by go_num,by omega,HS9.out,HNk.out⟩
    case measure=>have:=HLn.out;simp[intOf];omega
   | some k =>
    have hneg:(thrI (some k))=(k:Int):=rfl;rw[hneg];have hmem:=List.mem_of_find?_eq_some HRes.out.symm
    have hgt:=List.find?_some HRes.out.symm
    have hgt:geC (C.getD k 0) (C.getD x 0)=true:=hgt;have hkl:k<NL.length:=by have:=(HB.out.opts y _ (za7 HYl.out)).1 k hmem;have:=HYl.out;omega
    obtain⟨M,hM⟩:∃M,M=(za6 NL k).2:=⟨_,rfl⟩;have hpush:=fun(Ln':List Nat) (hp:Ln <+: Ln') (hn:Ln'.Nodup) (hm:∀z,z∈Ln'↔z∈Ln∨z∈M)=>HQ.out.push HB.out HY.out hmem hgt hp hn (by rw[←hM];exact hm)
    have hMl:∀z∈M,z<NL.length:=fun z hz=>by rw[hM]at hz;have:=(HB.out.opts k _ (za7 hkl)).2 z hz;omega
    have hMn:M.Nodup:=by rw[hM];exact zdc (HB.out.up k _ (za7 hkl)).2
    have hMm:M.length≤NL.length:=zba hMn hMl;obtain⟨b1,o1,ml,hna,j0,j1,j2,jn,jb,l0,j3⟩:=HNd.out k hkl w8 hs8.fr;rw[←hM]at jn jb;have ixk:=zbe na NL.length nc k b1 o1 hkl hna;have hnn:¬((k:Int)<0):=by omega
    obtain⟨ma,mc,rfl,zz⟩:=id jn;clear zz;have HMr:=Hh (fun(W:World) (f:Fr (fun q=>q=kb) w W)=>show Nats W (.slice ma M.length mc) M from jn.fr f jb);have HPu:=Hh hpush;have HMl:=Hh hMl;have HMm:=Hh hMm;have HIl:=Hh hil;clear hmem hgt hM hpush hMl hMn jn jb hs8 hna;have hz9:M.length≤9223372036854775807:=by have:=HN.out;omega
    clear hMm;go_wp2_with fail;clear j0 j1 j2 j3 ixk ix3 c3 hnn hkl;go_loopw [9,14] (fun v9 t W=>∃(j:Nat) (va2:Value) (Ln2:List Nat),va2=v9/\t=.int .i64 j/\j≤M.length/\OpSt C NL ob bb kb w W va2 vo Ln2 Kp K8/\Ln <+: Ln2/\Ln2.Nodup/\∀z,z∈Ln2↔z∈Ln∨z∈M.take j) (fun _ t _=>M.length-(intOf t).toNat)
    case atStart=>exact⟨0,_,Ln,rfl,rfl,Nat.zero_le _,HS8.out,List.prefix_refl _,HQ.out.nd,fun z=>by simp⟩
    case round =>
     obtain⟨j,va2,Ln2,rfl,rfl,hj,hs2,hp2,hn2,hm2⟩:=hrel;obtain⟨w10,rfl⟩:∃w7,w7=wr:=⟨_,rfl⟩;have HS2:=Hh hs2;have HP2:=Hh hp2;have HN2:=Hh hn2;have HM2:=Hh hm2;by_cases hjl:j<M.length
     ·obtain⟨z,hz⟩:∃z,M[j]?=some z:=⟨_,List.getElem?_eq_getElem hjl⟩
      obtain⟨_,_,ee,_,_,hcc⟩:=HMr.out w10 hs2.fr;cases ee
      obtain⟨b4,o4,ha4,c4⟩:=hcc j z hz;unfold encN at c4;have ix4:=zaa ma M.length mc j b4 o4 hjl ha4;have hl2:Ln2.length≤NL.length:=zba hn2 (fun y hy=>((hm2 y).1 hy).elim (fun e=>HQ.out.lt.1 y e) (fun e=>HMl.out y (List.mem_of_mem_take e)));have hhas:=zmp va2 Ln2 z w10 (SliceOf.of_owns hs2.rl rfl);have HL2:=Hh hl2;have HZ:=Hh hz;by_cases hm:z∈Ln2
      ·rw[decide_eq_true hm]at hhas
       have HHas:=Hh hhas;have HM:=Hh hm;clear hhas hm hz hcc ha4 hl2 hs2 hp2 hn2 hm2;go_wp2_with fail;(with_reducible refine HHas.out.mono ?_);rintro e w11 ⟨rfl,rfl⟩;go_wp2_with fail;go_roundw
       case rel=>exact⟨j+1,_,Ln2,rfl,by go_num,by omega,HS2.out,HP2.out,HN2.out,zyz HM2.out HZ.out HM.out⟩
       case measure=>simp[intOf];omega
      ·rw[decide_eq_false hm]at hhas
       have HHas:=Hh hhas;have HM:=Hh hm;clear hhas hm hz hcc ha4 hl2 hs2 hp2 hn2 hm2;go_wp2_with fail;(with_reducible refine HHas.out.mono ?_);rintro e w11 ⟨rfl,rfl⟩;go_wp2_with (at_builtin;refine zag (enc:=encN) _ rfl (.tmp 78) (.tmp 83) 82 rfl w.heap.size 3 (.int .i64 0) 8 Tryz.underlying82 za9 rfl va2 Ln2.length (Ln2.map encN) rfl (HS2.out.fr0 ((Fr.refl NoM w11).alloc _)).rl (.slice (some ⟨w11.heap.size,0,none⟩) 1 1) rfl [z] (SliceOf.one encN w11 z 3) (fun _=>rfl) (by have h1:=HL2.out;have h2:=HN.out;simp only[List.length_singleton];omega) (by decide) (by have:=HS2.out.fr.size;rw[World.size_alloc];omega) ?_);intro v12 w12 h12 f12 q12;have HS12:=Hh (HS2.out.app (x:=z) ((Fr.refl NoM w11).alloc _) h12 f12 (by rw[World.size_alloc];exact q12));clear h12 f12 q12;go_wp2;go_roundw
       case rel=>exact⟨j+1,v12,Ln2 ++ [z],rfl,by go_num,by omega,HS12.out,HP2.out.trans (List.prefix_append _ _),List.nodup_append.2 ⟨HN2.out,by simp,fun a ha b hb e=>HM.out (by rw[List.mem_singleton.1 hb]at e;exact e ▸ ha)⟩,zu3 HM2.out HZ.out⟩
       case measure=>simp[intOf];omega
     ·obtain rfl:j=M.length:=by omega
      rw[List.take_length]at hm2;have hq2:=HPu.out Ln2 hp2 hn2 hm2;have hle:=hp2.length_le;have HQ2:=Hh hq2;clear hq2 hs2 hp2 hn2 hm2 hj hjl;go_wp2_with fail;go_roundw
      case rel=>exact⟨i+1,_,vo,Ln2,Kp,K8,rfl,rfl,by go_num,by have:=HIl.out;omega,HS2.out,HQ2.out⟩
      case measure=>have:=HLn.out;have:=HIl.out;simp[intOf];omega
  ·obtain rfl:i=Ln.length:=by omega
   clear hs hq hi hil hLn;go_wp2_with fail;go_ret;exact⟨vo,Kp,K1,rfl,HS.out.ro,fun q hq=>(HS.out.so q hq).2,HQ.out.up,HQ.out.lt.2,HQ.out.fin,HS.out.ord,HS.out.ok,HS.out.fr⟩
theorem BookS.nv {S:Nat→Prop}{w:World}{bb:Nat}{V:List PL}{BV:List Nat}(h:BookS S w bb V BV):∃v,w.cell? ⟨bb,0,none⟩=some v/\NodeL AnyB encN w v V:=by
 obtain⟨nv,bv,NV,hBA,_⟩:=h;exact⟨nv,by rw[cell_of_row _ _ 0 _ _ _ hBA.blk];rfl,hBA.nodeL⟩
theorem OrdR.node {w:World}{ob bb kb r:Nat}{NL:List PL}{K:List Nat}(h:OrdR w ob bb kb NL K)(hr:r<NL.length):∃(na:Option Addr) (nc b1 o1:Nat) (l r':Value),na=some ⟨b1,o1,none⟩/\(∀W,Fr (fun q=>q=kb) w W→W.cell? ⟨bb,0,none⟩=some (.slice na NL.length nc)/\W.cell? ⟨b1,o1+r*2,none⟩=some l/\W.cell? ⟨b1,o1+r*2+1,none⟩=some r') ∧
  (∀W,Fr (fun q=>q=kb) w W→Nats W l (za6 NL r).1/\Nats W r' (za6 NL r).2)/\((za6 NL r).1≠[]→∀q,l.ownBlock=some q→q≠kb)/\((za6 NL r).2≠[]→∀q,r'.ownBlock=some q→q≠kb):=by
 obtain⟨bv,hbv,hNb⟩:=h.nv;obtain⟨na,nc,rfl,_,_,hnn⟩:=hNb;obtain⟨b1,o1,l,r',hna,hb1,c1,c2,s1,s2,q1,q2⟩:=hnn _ _ (za7 hr);exact⟨na,nc,b1,o1,l,r',hna,fun W f=>⟨f.cell hbv h.n2,f.cell c1 hb1,f.cell c2 hb1⟩,fun W f=>⟨s1.fr f q1,s2.fr f q2⟩,q1,q2⟩
theorem yax {V:List PL}{BV:List Nat}{L R:List Nat}(hL:L.Pairwise (· < ·))(hR:R.Pairwise (· < ·)):za6 (za4 V BV L R).1 (za4 V BV L R).2.2=(L,R):=by
 have e1:zaf L=L:=zgt (zdd L) hL (zb2 L);have e2:zaf R=R:=zgt (zdd R) hR (zb2 R);unfold za4 za6;rw[e1,e2];split
 ·rename_i h
  rw[List.getD_eq_getElem?_getD,List.getElem?_eq_getElem (List.idxOf_lt_length_of_mem h),List.getElem_idxOf];rfl
 ·simp
def ycr (S:Nat→Prop)(bb:Nat)(V:List PL)(c:Nat)(w:World)(e:Ending)(w':World):Prop :=
 ∃(i:Nat) (V':List PL) (BV':List Nat) (S':Nat→Prop),e=.returned (.int .i64 (i:Int))/\BookS S' w' bb V' BV'∧PoolOK V' BV'∧(∀q,S' q→(S q∨w.heap.size≤q)/\q<w'.heap.size)/\Fr S w w'∧V <+: V'∧V'.length≤V.length+3/\i<V'.length/\IsCan ((za0 V').getD i 0) c
set_option maxRecDepth 8000 in
set_option maxHeartbeats 16000000 in
theorem zvk {S:Nat→Prop}(bb:Nat)(lv rv:Value)(V:List PL)(BV L R cs ds:List Nat)(w:World)(hB:BookS S w bb V BV)(hOK:PoolOK V BV)(hSl:∀q,S q→q<w.heap.size)(hL:Nats w lv L)(hR:Nats w rv R)(cL:RowC V L cs)(cR:RowC V R ds)(kL:∀c∈cs,CanC c)(kR:∀c∈ds,CanC c)
  (hn:V.length<900) (ll:L.length<1000000) (lr:R.length<1000000) :
  Calls Tryz.prog 78 #[.pointer (some ⟨bb,0,none⟩),lv,rv] w fun e w'=>ycr S bb V (mkC cs ds) w e w':=by
 have hput:=zfu bb lv rv V BV L R w hB hL hR (fun j x hx=>cL.1 x (List.mem_of_getElem? hx)) (fun j x hx=>cR.1 x (List.mem_of_getElem? hx)) (by omega) (by omega) (by omega) (fun x hx=>by have:=(zdi hOK).lt V.length (Nat.le_refl _) x hx;omega);rw[zcd hOK]at hput;obtain⟨ok1,pre1,lt1,cd1⟩:=zer hOK cL cR;have len1:=(zd6 V BV L R).2.1;have hbm:=hB.m;obtain⟨V1,hV1⟩:∃V1,V1=(za4 V BV L R).1:=⟨_,rfl⟩;obtain⟨B1,hB1⟩:∃B1,B1=(za4 V BV L R).2.1:=⟨_,rfl⟩;obtain⟨r1,hr1⟩:∃r1,r1=(za4 V BV L R).2.2:=⟨_,rfl⟩;rw[←hV1,←hB1,←hr1]at hput;rw[←hV1,←hB1]at ok1;rw[←hV1]at pre1 len1;rw[←hV1,←hr1]at lt1 cd1;have HPut:=Hh hput;have Ok1:=Hh ok1;have Pre1:=Hh pre1;have Lt1:=Hh lt1;have Cd1:=Hh cd1;have Len1:=Hh (show V1.length≤901/\V1.length≤V.length+1 from⟨by omega,len1⟩);have HVn:=Hh hn;have HBm:=Hh hbm;have HSl:=Hh hSl;have KL:=Hh kL;have KR:=Hh kR;clear hput ok1 pre1 lt1 cd1 len1 hbm hSl hB hOK hL hR cL cR kL kR hn ll lr hV1 hB1 hr1;go_enter Tryz.func78,Tryz.ntmps78;go_wp2_with fail;(with_reducible refine HPut.out.mono ?_);rintro e w1 ⟨rfl,p1,pf1⟩;obtain⟨v1,hv1,hn1⟩:=p1.nv;have HO1:=Hh (zu9 bb v1 V1 w1 hv1 hn1 (by have:=Len1.out.1;omega));have P1:=Hh p1.cut;have F1:=Hh (pf1.mono (fun q _ h=>HBm.out q h):Fr S w w1);clear hv1 hn1 p1 pf1 HPut;go_wp2_with fail;(with_reducible refine HO1.out.mono ?_);rintro e w2 ⟨ob,kb,rfl,hob,hkb,hO,f2⟩;have hkb2:kb<w2.heap.size:=(Array.getElem?_eq_some_iff.1 hO.row).1;obtain⟨na,nc,b1,o1,xl,xr,hna,hcell,hrow,_,_⟩:=hO.node Lt1.out;have ix:=zbe na V1.length nc r1 b1 o1 Lt1.out hna;have o0:=hO.o0;have hoc:=zbh Ok1.out.book Lt1.out;rw[Cd1.out]at hoc;have hcl:∀l∈(za6 V1 r1).1,CanC ((za0 V1).getD l 0):=fun l hl=>KL.out _ ((zab _ _ _).1 ((hoc.1 _).2 ⟨l,hl,rfl⟩))
 have hcr:∀l∈(za6 V1 r1).2,CanC ((za0 V1).getD l 0):=fun l hl=>KR.out _ ((zad _ _ _).1 ((hoc.2 _).2 ⟨l,hl,rfl⟩))
 have hup:=Ok1.out.up _ _ (za7 Lt1.out);have h2:=hrow w2 (Fr.refl _ _);obtain⟨la,lc,rfl,zz⟩:=id h2.1;clear zz;obtain⟨ra,rc,rfl,zz⟩:=id h2.2;clear zz;have HOL:=Hh (fun(W:World) (f:Fr NoM w2 W)=>zsi Ok1.out.book ob bb kb r1 (by have:=Len1.out.1;omega) Lt1.out _ _ _ W (hO.fr0 f) (KOK.start _ _ _ _) (hrow W f.any).1 (QL.node Ok1.out Lt1.out hcl) (zdc hup.1));have HOR:=Hh (fun(W:World) (K:List Nat) (f:Fr (fun q=>q=kb) w2 W) (hO:OrdR W ob bb kb V1 K) (hK:KOK (za0 V1) V1.length (2*V1.length) K)=>zsh Ok1.out.book ob bb kb r1 (by have:=Len1.out.1;omega) Lt1.out _ _ _ W hO hK (hrow W f).2 (QR.node Ok1.out Lt1.out hcr) (zdc hup.2));have HCell:=Hh hcell;have HKb:=Hh hkb;have HKb2:=Hh hkb2;have F2:=Hh f2;have HB2:=Hh (fun(W:World) (f:Fr (fun q=>q=kb) w2 W)=>(P1.out.fr0 f2).fr f (fun q hq e=>by have:=hq.2;omega));have HP2:=Hh (fun(W:World) (f:Fr (fun q=>q=kb) w2 W) (v3 v4:Value) (A D:List Nat) (nA:Nats W v3 A) (nD:Nats W v4 D) (tA:∀x∈A,x<V1.length) (tD:∀x∈D,x<V1.length) (uA:A.Pairwise (· < ·)) (uD:D.Pairwise (· < ·))=>(by
  have hl:=Len1.out.1;have h:=zfu bb v3 v4 V1 B1 A D W (HB2.out W f) nA nD (fun j x hx=>tA x (List.mem_of_getElem? hx)) (fun j x hx=>tD x (List.mem_of_getElem? hx)) (by have:=zba (zdc uA) tA;omega) (by have:=zba (zdc uD) tD;omega) (by omega) (fun x hx=>by have:=(zdi Ok1.out).lt V1.length (Nat.le_refl _) x hx;omega);rw[zcd Ok1.out]at h;exact h:Calls Tryz.prog 94 #[.pointer (some ⟨bb,0,none⟩),v3,v4] W fun e w'=>e=.returned (.int .i64 ((za4 V1 B1 A D).2.2:Nat))/\BookS (fun k=>((S k∨w.heap.size≤k)/\k<w1.heap.size)∨W.heap.size≤k) w' bb (za4 V1 B1 A D).1 (za4 V1 B1 A D).2.1/\Fr (zcr W bb) W w'))
 have hx:=hcell w2 (Fr.refl _ _);clear hO hob hkb hkb2 hcell hrow hoc hcl hcr hup h2 f2 HO1 hna;go_upto_region 3 with fail;go_cut [7]from 16 to 39 (fun x W=>∃(r2:Nat) (V2:List PL) (B2:List Nat) (S2:Nat→Prop) (A2 D2:List Nat),x=.int .i64 (r2:Int)/\BookS S2 W bb V2 B2/\PoolOK V2 B2/\(∀q,S2 q→(S q∨w.heap.size≤q)/\q<W.heap.size)/\Fr S w W/\V <+: V2/\V2.length≤V.length+2/\r2<V2.length/\za6 V2 r2=(A2,D2)/\RedL (mkC cs ds) (za1 (za0 V2) (zai A2 (domB (gL (za0 V2)) A2)))/\RedR (mkC cs ds) (za1 (za0 V2) (zai D2 (domB (gR (za0 V2)) D2))))
 case first =>
  have F0:Fr NoM w2 w2.drew:=(Fr.refl NoM w2).drew;have G0:Fr (fun q=>q=kb) w2 w2.drew:=F0.any;obtain⟨j0,j1,j2⟩:=HCell.out _ G0;go_region_law (first
   | (go_simp;first
    | (go_at_call 127;(with_reducible refine(HOL.out _ (by assumption)).mono ?_);rintro e w8 ⟨v8,A2,K8,rfl,n8,s8,up8,lt8,q8,oo8,k8,ff8⟩;have G8:Fr (fun q=>q=kb) w2 w8:=G0.trans ff8 (fun _ _ q=>q);obtain⟨j3,j4,j5⟩:=HCell.out _ G8)
    | (go_at_call 127;(with_reducible refine(HOR.out w8 K8 G8 oo8 k8).mono ?_);rintro e w9 ⟨v9,D2,K9,rfl,n9,s9,up9,lt9,q9,oo9,k9,ff9⟩;have G9:Fr (fun q=>q=kb) w2 w9:=G8.trans ff9 (fun _ _ q=>q))
    | (go_at_call 94;have N8:Nats w9 v8 A2:=n8.fr ff9 (fun _ q hq e=>by { have h1:=(s8 q hq).1;have h2:=HKb2.out;rw[World.size_drew]at h1;omega });(with_reducible refine(HP2.out w9 G9 v8 v9 A2 D2 N8 n9 lt8 lt9 up8 up9).mono ?_);rintro e w12 ⟨rfl,p12,pf12⟩)
    | fail)
   | fail)
  all_goals
   obtain⟨ok3,pre3,lt3,cd3⟩:=zer Ok1.out (L:=A2) (R:=D2) ⟨lt8,rfl⟩ ⟨lt9,rfl⟩;have ln3:=(zd6 V1 B1 A2 D2).2.1;have nd3:=yax (V:=V1) (BV:=B1) up8 up9;obtain⟨S8,q8⟩:=q8;obtain⟨S9,q9⟩:=q9;have rd1:=(QL.mono Ok1.out.book q8 pre3).done ok3.book;have rd2:=(QR.mono Ok1.out.book q9 pre3).done ok3.book;rw[Cd1.out]at rd1 rd2;have hm:=(HB2.out w9 G9).m;have hsz1:=F1.out.size;have hsz2:=F2.out.size;have hsz9:=G9.size;have hkb:=HKb.out;have fr12:Fr S w w12:=((F1.out.trans F2.out (fun _ _ q=>q.elim)).trans G9 (fun q hq e=>by omega)).trans pf12 (fun q hq e=>((hm q e).1).elim id (fun z=>by omega));have HE:=Hh (show ∃(r2:Nat) (V2:List PL) (B2:List Nat) (S2:Nat→Prop) (A4 D4:List Nat),((za4 V1 B1 A2 D2).2.2:Int)=(r2:Int)/\BookS S2 w12 bb V2 B2/\PoolOK V2 B2/\(∀q,S2 q→(S q∨w.heap.size≤q)/\q<w12.heap.size)/\Fr S w w12/\V <+: V2/\V2.length≤V.length+2/\r2<V2.length/\za6 V2 r2=(A4,D4)/\RedL (mkC cs ds) (za1 (za0 V2) (zai A4 (domB (gL (za0 V2)) A4)))/\RedR (mkC cs ds) (za1 (za0 V2) (zai D4 (domB (gR (za0 V2)) D4)))from
    ⟨_,_,_,_,A2,D2,rfl,p12.cut,ok3,fun q hq=>⟨hq.1.elim (fun z=>z.1) (fun z=>.inr (by omega)),hq.2⟩,fr12,Pre1.out.trans pre3,by have:=Len1.out.2;omega,lt3,nd3,rd1,rd2⟩)
   clear hm hsz1 hsz2 hsz9 hkb fr12 p12 pf12 n8 s8 oo8 k8 ff8 n9 s9 oo9 k9 ff9 N8 ok3 pre3 lt3 cd3 ln3 nd3 q8 q9 rd1 rd2;go_wp2_with fail;go_meet
   case rel =>
    obtain⟨r2,V2,B2,S2,A4,D4,e1,hrest⟩:=HE.out;exact⟨r2,V2,B2,S2,A4,D4,by rw[e1],hrest⟩
 case rest =>
  obtain⟨r2,V2,B2,S2,A2,D2,rfl,p5,ok2,sb2,fr2,pre2,len2,lt2,nd2,rd1,rd2⟩:=hcut;obtain⟨w5,rfl⟩:∃w7,w7=wc:=⟨_,rfl⟩;obtain⟨v5,hv5,hn5⟩:=p5.nv;have HO5:=Hh (zu9 bb v5 V2 w5 hv5 hn5 (by have:=HVn.out;omega));have P5:=Hh p5;have Ok2:=Hh ok2;have Sb2:=Hh sb2;have Fr2:=Hh fr2;have Pre2:=Hh pre2;have Len2:=Hh len2;have Lt2:=Hh lt2;have Nd2:=Hh nd2;have Rd1:=Hh rd1;have Rd2:=Hh rd2;have HV2:=Hh (show V2.length<1000 from by have:=HVn.out;omega);clear hv5 hn5 p5 ok2 sb2 fr2 pre2 len2 lt2 nd2 rd1 rd2 HOL HOR HP2 hx o0 ix;go_wp2_with fail;(with_reducible refine HO5.out.mono ?_);rintro e w6 ⟨oc,kc,rfl,hoc,hkc,hO,f6⟩;have hkc6:kc<w6.heap.size:=(Array.getElem?_eq_some_iff.1 hO.row).1;obtain⟨na2,nc2,b2,o2,xl,xr,hna2,hcell2,hrow2,hq1,hq2⟩:=hO.node Lt2.out;rw[Nd2.out]at hrow2 hq1 hq2;dsimp only at hrow2 hq1 hq2
  have ix2:=zbe na2 V2.length nc2 r2 b2 o2 Lt2.out hna2;have h2:=hrow2 w6 (Fr.refl _ _);obtain⟨la2,lc2,rfl,zz⟩:=id h2.1;clear zz;obtain⟨ra2,rc2,rfl,zz⟩:=id h2.2;clear zz;have hup:=Ok2.out.up _ _ (za7 Lt2.out);have hop:=Ok2.out.opts _ _ (za7 Lt2.out);rw[Nd2.out]at hup hop;dsimp only at hup hop
  have hA:∀x∈A2,x<V2.length:=fun x hx=>by have:=hop.1 x hx;have:=Lt2.out;omega
  have hD:∀x∈D2,x<V2.length:=fun x hx=>by have:=hop.2 x hx;have:=Lt2.out;omega
  have hAl:=zba (zdc hup.1) hA;have hDl:=zba (zdc hup.2) hD;obtain⟨y0,y1,y2⟩:=hcell2 w6 (Fr.refl _ _);obtain⟨w7,hw7⟩:∃w7,w7=w6.alloc (.cells #[.slice la2 A2.length lc2,.slice ra2 D2.length rc2] 85):=⟨_,rfl⟩;have f7:Fr NoM w6 w7:=by rw[hw7];exact(Fr.refl NoM w6).alloc _
  have e7:w7.heap[w6.heap.size]?=some (.cells #[.slice la2 A2.length lc2,.slice ra2 D2.length rc2] 85 (0,0)):=by rw[hw7];exact heap_alloc_new w6 _
  have HX:=Hh (fun(W:World) (f:Fr (fun q=>q=kc) w7 W)=>(by
   have h:=f.heap e7 (fun e=>by omega);exact⟨by rw[cell_of_row _ _ 0 _ _ _ h];rfl,by rw[cell_of_row _ _ 1 _ _ _ h];rfl⟩:W.cell? ⟨w6.heap.size,0,none⟩=some (.slice la2 A2.length lc2)/\W.cell? ⟨w6.heap.size,1,none⟩=some (.slice ra2 D2.length rc2)))
  have HRw:=Hh (fun(W:World) (f:Fr (fun q=>q=kc) w7 W)=>hrow2 W (f7.any.trans f (fun _ _ q=>q)));have HB7:=Hh (fun(W:World) (f:Fr (fun q=>q=kc) w7 W)=>((P5.out.fr0 f6).fr0 f7).fr f (fun q hq e=>by have:=(Sb2.out q hq).2;omega));have HO7:=Hh (fun(W:World) (f:Fr NoM w7 W)=>(hO.fr0 f7).fr0 f);have HDL:=Hh (fun(W:World) (f:Fr NoM w7 W)=>zvn Ok2.out.book oc bb kc HV2.out (.slice la2 A2.length lc2) A2 (List.replicate (V2.length*V2.length) 0) W ((hO.fr0 f7).fr0 f) (KOK.start _ _ _ _) (hrow2 W (f7.any.trans f.any (fun _ _ q=>q))).1 hq1 hA (by have:=HV2.out;omega));have HDR:=Hh (fun(W:World) (K:List Nat) (hO:OrdR W oc bb kc V2 K) (hK:KOK (za0 V2) V2.length (2*V2.length) K) (f:Fr (fun q=>q=kc) w7 W)=>zvm Ok2.out.book oc bb kc HV2.out (.slice ra2 D2.length rc2) D2 K W hO hK (hrow2 W (f7.any.trans f (fun _ _ q=>q))).2 hq2 hD (by have:=HV2.out;omega));obtain⟨A3,hA3⟩:∃A3,A3=zai A2 (domB (gL (za0 V2)) A2):=⟨_,rfl⟩;obtain⟨D3,hD3⟩:∃D3,D3=zai D2 (domB (gR (za0 V2)) D2):=⟨_,rfl⟩;have tA:∀x∈A3,x<V2.length:=fun x hx=>by rw[hA3]at hx;exact hA x (zby hx)
  have tD:∀x∈D3,x<V2.length:=fun x hx=>by rw[hD3]at hx;exact hD x (zby hx)
  have hA3l:A3.length<1000:=by have h1:=zci A2 (domB (gL (za0 V2)) A2);rw[←hA3]at h1;have:=HV2.out;omega
  have hD3l:D3.length<1000:=by have h1:=zci D2 (domB (gR (za0 V2)) D2);rw[←hD3]at h1;have:=HV2.out;omega
  obtain⟨ok3,pre3,lt3,cd3⟩:=zer Ok2.out (L:=A3) (R:=D3) ⟨tA,rfl⟩ ⟨tD,rfl⟩;have ln3:=(zd6 V2 B2 A3 D3).2.1;have hcan:=zy3 Rd1.out Rd2.out;rw[←hA3,←hD3,←cd3]at hcan;have hP3:=(fun(W:World) (f:Fr (fun q=>q=kc) w7 W) (v3 v4:Value) (nA:Nats W v3 A3) (nD:Nats W v4 D3)=>(by
   have hl:=HV2.out;have h:=zfu bb v3 v4 V2 B2 A3 D3 W (HB7.out W f) nA nD (fun j x hx=>tA x (List.mem_of_getElem? hx)) (fun j x hx=>tD x (List.mem_of_getElem? hx)) (by omega) (by omega) (by omega) (fun x hx=>by have:=(zdi Ok2.out).lt V2.length (Nat.le_refl _) x hx;omega);rw[zcd Ok2.out]at h;exact h:Calls Tryz.prog 94 #[.pointer (some ⟨bb,0,none⟩),v3,v4] W fun e w'=>e=.returned (.int .i64 ((za4 V2 B2 A3 D3).2.2:Nat))/\BookS (fun k=>S2 k∨W.heap.size≤k) w' bb (za4 V2 B2 A3 D3).1 (za4 V2 B2 A3 D3).2.1/\Fr (zcr W bb) W w'))
  obtain⟨V3,hV3⟩:∃V3,V3=(za4 V2 B2 A3 D3).1:=⟨_,rfl⟩;obtain⟨B3,hB3⟩:∃B3,B3=(za4 V2 B2 A3 D3).2.1:=⟨_,rfl⟩;obtain⟨r3,hr3⟩:∃r3,r3=(za4 V2 B2 A3 D3).2.2:=⟨_,rfl⟩;rw[←hV3,←hB3,←hr3]at hP3;rw[←hV3,←hB3]at ok3;rw[←hV3,←hr3]at lt3 hcan;rw[←hV3]at pre3 ln3;have HP3:=Hh hP3;have HA3:=Hh hA3;have HD3:=Hh hD3;have HF:=Hh (And.intro ok3 (And.intro (Pre2.out.trans pre3) (And.intro (show V3.length≤V.length+3 from by have:=Len2.out;omega) (And.intro lt3 hcan))));clear hP3 tA tD ok3 pre3 lt3 cd3 ln3 hcan hV3 hB3 hr3 hA3 hD3 hA3l hD3l;have HA:=Hh hA;have HD:=Hh hD;have HAl:=Hh hAl;have HDl:=Hh hDl;have HKc:=Hh hkc;have HKc6:=Hh hkc6;have F6:=Hh f6;have F7:=Hh f7;clear hO hoc hkc hkc6 hcell2 hrow2 hq1 hq2 h2 hup hop hA hD hAl hDl e7 f6 f7 hna2 HO5;go_upto_region 6 with fail;rw[←hw7];clear hw7 y0 y1 y2 ix2;go_cut [6]from 49 to 64 (fun x W=>x=.int .i64 (r3:Int)/\∃(S3:Nat→Prop),BookS S3 W bb V3 B3/\(∀q,S3 q→(S q∨w.heap.size≤q)/\q<W.heap.size)/\Fr S w W)
  case first =>
   have F0:Fr NoM w7 w7.drew:=(Fr.refl NoM w7).drew;have G0:Fr (fun q=>q=kc) w7 w7.drew:=F0.any;obtain⟨j0,j1⟩:=HX.out _ G0;go_region_law (first
    | (go_simp;first
     | (go_at_call 129;(with_reducible refine(HDL.out _ (by assumption)).mono ?_);rintro e w8 ⟨v8,K8,rfl,n8,s8,oo8,k8,ff8⟩;have G8:Fr (fun q=>q=kc) w7 w8:=G0.trans ff8 (fun _ _ q=>q);obtain⟨j3,j4⟩:=HX.out _ G8)
     | (go_at_call 128;(with_reducible refine(zhq (.slice la2 A2.length lc2) v8 A2 (domB (gL (za0 V2)) A2) w8 (HRw.out w8 G8).1 n8 (by have:=HAl.out;have:=HV2.out;omega)).mono ?_);rintro e w9 ⟨v9,rfl,o9,ff9⟩;rw[←HA3.out]at o9;have G9:Fr (fun q=>q=kc) w7 w9:=G8.trans ff9 (fun _ _ q=>q.elim);obtain⟨j5,j6⟩:=HX.out _ G9;have oo9:=oo8.fr0 ff9)
     | (go_at_call 129;(with_reducible refine(HDR.out w9 K8 oo9 k8 G9).mono ?_);rintro e w10 ⟨v10,K10,rfl,n10,s10,oo10,k10,ff10⟩;have G10:Fr (fun q=>q=kc) w7 w10:=G9.trans ff10 (fun _ _ q=>q);obtain⟨j7,j8⟩:=HX.out _ G10)
     | (go_at_call 128;(with_reducible refine(zhq (.slice ra2 D2.length rc2) v10 D2 (domB (gR (za0 V2)) D2) w10 (HRw.out w10 G10).2 n10 (by have:=HDl.out;have:=HV2.out;omega)).mono ?_);rintro e w11 ⟨v11,rfl,o11,ff11⟩;rw[←HD3.out]at o11;have G11:Fr (fun q=>q=kc) w7 w11:=G10.trans ff11 (fun _ _ q=>q.elim))
     | (go_at_call 94;have N9:Nats w9 v9 A3:=SliceOf.of_owns o9 rfl;have N11:Nats w11 v11 D3:=SliceOf.of_owns o11 rfl;have N9':Nats w11 v9 A3:=(N9.fr ff10 (fun _ q hq e=>by { have h1:=(o9.lt q hq).1;have h2:=HKc6.out;have h3:=F7.out.size;have h4:=G8.size;omega })).fr0 ff11;(with_reducible refine(HP3.out w11 G11 v9 v11 N9' N11).mono ?_);rintro e w12 ⟨rfl,p12,pf12⟩)
     | fail)
    | fail)
   all_goals
    have hm:=(HB7.out w11 G11).m;have hsz5:=Fr2.out.size;have hsz6:=F6.out.size;have hsz7:=F7.out.size;have hsz11:=G11.size;have hkc:=HKc.out;have fr12:Fr S w w12:=(((Fr2.out.trans F6.out (fun _ _ q=>q.elim)).trans F7.out (fun _ _ q=>q.elim)).trans G11 (fun q hq e=>by omega)).trans pf12 (fun q hq e=>(Sb2.out q (hm q e)).1.elim id (fun z=>by omega));have HE:=Hh (show ∃(S3:Nat→Prop),BookS S3 w12 bb V3 B3/\(∀q,S3 q→(S q∨w.heap.size≤q)/\q<w12.heap.size)/\Fr S w w12 from
     ⟨_,p12.cut,fun q hq=>⟨hq.1.elim (fun z=>(Sb2.out q z).1) (fun z=>.inr (by omega)),hq.2⟩,fr12⟩)
    clear hm hsz5 hsz6 hsz7 hsz11 hkc fr12 p12 pf12 n8 s8 oo8 k8 ff8 o9 ff9 oo9 n10 s10 oo10 k10 ff10 o11 ff11 N9 N11 N9';go_wp2_with fail;go_meet
    case rel=>exact⟨rfl,HE.out⟩
  case rest =>
   obtain⟨rfl,S3,h1,h2,h3⟩:=hcut;have HE:=Hh (And.intro h1 (And.intro h2 h3));clear h1 h2 h3;go_wp2_with fail;go_ret;exact⟨r3,V3,B3,S3,rfl,HE.out.1,HF.out.1,HE.out.2.1,HE.out.2.2,HF.out.2.1,HF.out.2.2.1,HF.out.2.2.2.1,HF.out.2.2.2.2⟩
theorem yd5 {CF A L:List Nat}{i:Nat}(hL:∀x∈L,x<i)(hi:i≤CF.length):za1 ((CF.map canC).take i) L=(za1 CF L).map canC:=by
 unfold za1;rw[List.map_map];refine List.map_congr_left fun x hx=>?_
 have hl:=hL x hx;simp[List.getD_eq_getElem?_getD,List.getElem?_take,hl,List.getElem?_map,List.getElem?_eq_getElem (show x<CF.length by omega)]
theorem yed {CF L R:List Nat}{c a i:Nat}(hc:∀j,j<i→IsCan (canC (CF.getD j 0)) (CF.getD j 0))(hL:∀x∈L,x<i)(hR:∀x∈R,x<i)(ha:a=mkC (za1 CF L) (za1 CF R))(h:IsCan c (mkC ((za1 CF L).map canC) ((za1 CF R).map canC))):IsCan c a:=by
 have key:∀(L:List Nat),(∀x∈L,x<i)→∀(j c l:Nat),((za1 CF L).map canC)[j]?=some c→(za1 CF L)[j]?=some l→IsCan c l:=fun L hL j c l h1 h2=>by
  rw[List.getElem?_map,h2]at h1;obtain rfl:canC l=c:=Option.some.inj h1;obtain⟨x,hx,rfl⟩:=za8.1 (List.mem_of_getElem? h2);exact hc x (hL x hx)
 obtain⟨h1,h2⟩:=yce (L:=za1 CF L) (R:=za1 CF R) ((za1 CF L).map canC) ((za1 CF R).map canC) (by simp) (by simp) (key L hL) (key R hR);rw[ha];exact h.step h1 h2
theorem zus {CF L:List Nat}{i:Nat}(hc:∀j,j<i→IsCan (canC (CF.getD j 0)) (CF.getD j 0))(hL:∀x∈L,x<i):∀c∈(za1 CF L).map canC,CanC c:=fun c h=>by
 obtain⟨a,ha,rfl⟩:=List.mem_map.1 h;obtain⟨x,hx,rfl⟩:=za8.1 ha;exact(hc x (hL x hx)).1
theorem BkSt.grow {w1 W W':World}{bb:Nat}{V V':List PL}{BV BV':List Nat}{S S':Nat→Prop}{v1 v2 v3:Value}{A1 c1 A2 c2 A3 c3:List Nat}(h:BkSt w1 W bb V BV S v1 A1 c1 v2 A2 c2 v3 A3 c3)(hb:BookS S' W' bb V' BV')(ok:PoolOK V' BV')(hS:∀q,S' q→(S q∨W.heap.size≤q)/\q<W'.heap.size)(hf:Fr S W W')(hp:V <+: V') :
  BkSt w1 W' bb V' BV' S' v1 A1 c1 v2 A2 c2 v3 A3 c3:=by
 have hsz:=h.fr.size;exact⟨hb,ok,fun q hq=>⟨(hS q hq).1.elim (fun e=>(h.sub q e).1) (fun e=>by omega),(hS q hq).2⟩,za3 h.o1 hf (fun b e z=>h.n1 b e z),za3 h.o2 hf (fun b e z=>h.n2 b e z),za3 h.o3 hf (fun b e z=>h.n3 b e z),
  fun b e z=>(hS b z).1.elim (h.n1 b e) (fun k=>by have:=(h.o1.lt b e).2;omega),fun b e z=>(hS b z).1.elim (h.n2 b e) (fun k=>by have:=(h.o2.lt b e).2;omega),fun b e z=>(hS b z).1.elim (h.n3 b e) (fun k=>by have:=(h.o3.lt b e).2;omega),
  h.s12,h.s13,h.s23,h.r1.mono hp,h.r2.mono hp,h.r3.mono hp,h.fr.trans hf (fun q hq z=>by have:=(h.sub q z).1;omega)⟩
set_option maxRecDepth 8000 in
set_option maxHeartbeats 16000000 in
theorem zmm {R:Nat→Prop}(v1:Value)(Fs:List PL)(w:World)(h1:NodeL R encN w v1 Fs)(oF:OptsOK Fs)(lF:∀y∈Fs,y.1.length≤24/\y.2.length≤24)(pF:0<Fs.length)(hFl:Fs.length≤120) :
  Calls Tryz.prog 34 #[.agg #[v1]] w fun e w'=>∃v',e=.returned (.agg #[v'])/\NodeL (fun b=>w.heap.size≤b) encN w' v' (zac (canC (zb0 Fs)))/\Fr NoM w w':=by
 obtain⟨w3,hw3⟩:∃w3,w3=(w.alloc (.cells #[v1] 26)).alloc (.cells #[.slice none 0 0] 26):=⟨_,rfl⟩;have f3:Fr NoM w w3:=by rw[hw3];exact((Fr.refl NoM w).alloc _).alloc _
 have hs3:w3.heap.size=w.heap.size+2:=by rw[hw3];simp
 have e0:w3.heap[w.heap.size]?=some (.cells #[v1] 26 (0,0)):=by rw[hw3];exact((Fr.refl NoM _).alloc _).heap (heap_alloc_new w _) (fun q=>q)
 have e2:w3.heap[w.heap.size+1]?=some (.cells #[.slice none 0 0] 26 (0,0)):=by
  have h:=heap_alloc_new (w.alloc (.cells #[v1] 26)) (.cells #[.slice none 0 0] 26);rw[World.size_alloc]at h;rw[hw3];exact h
 obtain⟨bb,hbb⟩:∃bb,bb=w.heap.size+1+1:=⟨_,rfl⟩;obtain⟨q0,hq0⟩:∃q0,q0=Value.slice (some ⟨w.heap.size+1+1+1,0,none⟩) 0 0:=⟨_,rfl⟩;obtain⟨w4,hw4⟩:∃w4,w4=w3.alloc (.cells #[.slice none 0 0,.slice none 0 0] 109):=⟨_,rfl⟩;have f4:Fr NoM w3 w4:=by rw[hw4];exact(Fr.refl NoM w3).alloc _
 have hs4:w4.heap.size=w.heap.size+3:=by rw[hw4];simp[hs3]
 have e4:w4.heap[bb]?=some (.cells #[.slice none 0 0,.slice none 0 0] 109 (0,0)):=by rw[hw4,hbb,show w.heap.size+1+1=w3.heap.size from by omega];exact heap_alloc_new w3 _
 obtain⟨w5,hw5⟩:∃w5,w5=w4.alloc (.cells #[] 3):=⟨_,rfl⟩;have f5:Fr NoM w4 w5:=by rw[hw5];exact(Fr.refl NoM w4).alloc _
 have hs5:w5.heap.size=w.heap.size+4:=by rw[hw5];simp[hs4]
 have m5:w5.ownsRow (w.heap.size+3) 3 1 (.slice (some ⟨w.heap.size+3,0,none⟩) 0 0) 0 []:=by
  have h:(w4.alloc (.cells #[] 3)).ownsRow w4.heap.size 3 1 (.slice (some ⟨w4.heap.size,0,none⟩) 0 0) 0 []:=World.ownsRow_made w4 #[] 0 (Nat.le_refl _) (by decide) (by simp);rw[hs4,←hw5]at h;exact h
 obtain⟨nF,hnF⟩:∃nF,nF=Fs.length:=⟨_,rfl⟩;obtain⟨Tb,hTb⟩:∃Tb,Tb=(za0 Fs).map canC:=⟨_,rfl⟩;have hst:BkSt w3 w5 bb [] [] (fun q=>q=bb) q0 [] (Tb.take 0) (.slice none 0 0) [] [] (.slice none 0 0) [] [] :=
  ⟨(BookS.made e4).fr0 f5,PoolOK.nil,fun q hq=>⟨by rw[hq];omega,by rw[hq];omega⟩,(by rw[hq0];exact zb3 m5 (by omega)),World.ownsRow_nil _ _ _ _,World.ownsRow_nil _ _ _ _,fun b e hq=>by
   rw[hq0]at e;have e:w.heap.size+3=b:=Option.some.inj e;omega,(fun b hb=>by cases hb),(fun b hb=>by cases hb),(fun b _ hb=>by cases hb),(fun b _ hb=>by cases hb),(fun b hb=>by cases hb),RowC.nil _,RowC.nil _,RowC.nil _,f4.trans f5 (fun _ _ q=>q)⟩
 have H1:=Hh (h1.fr0 f3);obtain⟨na1,nc1,rfl,z⟩:=id h1;clear z;have HK:=Hh (fun(W:World) (f:Fr NoM w3 W)=>show W.cell? ⟨w.heap.size,0,none⟩=some (.slice na1 Fs.length nc1)/\W.cell? ⟨w.heap.size+1,0,none⟩=some (.slice none 0 0)/\W.frozen? ⟨w.heap.size+1,0,none⟩=false from by
  have k0:=f.heap e0 (fun q=>q);have k2:=f.heap e2 (fun q=>q);exact⟨by rw[cell_of_row W _ 0 _ _ _ k0];rfl,by rw[cell_of_row W _ 0 _ _ _ k2];rfl,by simp[World.frozen?,k2]⟩)
 rw[←hnF]at HK;have HSt:=Hh hst;have HF3:=Hh f3;have HS3:=Hh hs3;have OF:=Hh oF;have LF:=Hh lF;have PF:=Hh pF;have HnF:=Hh hnF;have HTb:=Hh hTb;have HNb:=Hh (show nF≤120 from by omega);rw[←hnF]at hw3 ⊢;clear h1 oF lF pF hFl hst hs3 e0 e2 e4 f3 f4 f5 m5 hnF hTb;obtain⟨k0,k2,k3⟩:=HK.out w5 HSt.out.fr;go_enter Tryz.func34,Tryz.ntmps34;go_upto_region 3 with fail;rw[←hw3,←hw4,←hw5,←hq0,←hbb];clear hw3 hw4 hw5 hbb hq0 hs4 hs5;go_wp2_with fail;clear k0 k2 k3;go_loopw [4,5] (fun v7 t W=>∃(i:Nat) (va:Value) (V:List PL) (BV:List Nat) (S:Nat→Prop) (A:List Nat),va=v7/\t=.int .i64 i/\i≤nF/\BkSt w3 W bb V BV S va A (Tb.take i) (.slice none 0 0) [] [] (.slice none 0 0) [] []/\V.length≤3*i/\∀j,j<i→IsCan (canC ((za0 Fs).getD j 0)) ((za0 Fs).getD j 0)) (fun _ t _=>nF-(intOf t).toNat)
 case atStart=>exact⟨0,_,[],[],_,[],rfl,rfl,Nat.zero_le _,HSt.out,Nat.zero_le _,fun j h=>by omega⟩
 case round =>
  obtain⟨i,va,V,BV,S,A,rfl,rfl,hi,hs,hV,hcj⟩:=hrel;obtain⟨w7,rfl⟩:∃w7,w7=wr:=⟨_,rfl⟩;have HS:=Hh hs;have HV:=Hh hV;have HCj:=Hh hcj;clear hcj;obtain⟨k0,k2,k3⟩:=HK.out w7 hs.fr;by_cases hlt:i<nF
  ·have hiF:i<Fs.length:=by have:=HnF.out;omega
   obtain⟨X,hX⟩:∃X,Fs[i]?=some X:=⟨_,List.getElem?_eq_getElem hiF⟩;obtain⟨_,_,ee,_,_,hnn⟩:=id H1.out;obtain⟨rfl,hz,rfl⟩:=Value.slice.inj ee;clear ee hz;obtain⟨b1,o1,xl,xr,ha1,hR1,d1,d2,n1,n2,m1,m2⟩:=hnn i X hX;have ixn1:=zbe na1 nF nc1 i b1 o1 hlt ha1;have HC:=Hh (fun(W:World) (f:Fr NoM w3 W)=>(⟨(HK.out W f).1,f.cell d1 (fun q=>q),f.cell d2 (fun q=>q)⟩:W.cell? ⟨w.heap.size,0,none⟩=some (.slice na1 nF nc1)/\W.cell? ⟨b1,o1+i*2,none⟩=some xl/\W.cell? ⟨b1,o1+i*2+1,none⟩=some xr));have HN1:=Hh (fun(W:World) (f:Fr NoM w7 W)=>(n1.fr0 hs.fr).fr0 f);have HN2:=Hh (fun(W:World) (f:Fr NoM w7 W)=>(n2.fr0 hs.fr).fr0 f);have HV7:=Hh (fun(W:World) (f:Fr NoM w7 W)=>(hs.nats1.fr0 f:Nats W va A));obtain⟨xla,xlc,rfl,z⟩:=id n1;clear z;obtain⟨xra,xrc,rfl,z⟩:=id n2;clear z;obtain⟨p1,p2⟩:=OF.out i X hX;obtain⟨l1,l2⟩:=LF.out X (List.mem_of_getElem? hX);have hnb:=HNb.out;have hTl:Tb.length=Fs.length:=by rw[HTb.out,List.length_map,za2]
   have hAl:A.length=i:=by
    have h:=hs.r1.len;rw[List.length_take]at h;omega
   have rL:=hs.r1.at (L:=X.1) (fun x hx=>by rw[hAl];exact p1 x hx);have rR:=hs.r1.at (L:=X.2) (fun x hx=>by rw[hAl];exact p2 x hx);rw[HTb.out,yd5 (A:=A) p1 (by rw[za2];omega)]at rL;rw[HTb.out,yd5 (A:=A) p2 (by rw[za2];omega)]at rR;obtain⟨cs,hcs⟩:∃cs,cs=(za1 (za0 Fs) X.1).map canC:=⟨_,rfl⟩;obtain⟨ds,hds⟩:∃ds,ds=(za1 (za0 Fs) X.2).map canC:=⟨_,rfl⟩;have kL:=zus HCj.out p1;have kR:=zus HCj.out p2;have hmk:=fun(c:Nat) (h:IsCan c (mkC ((za1 (za0 Fs) X.1).map canC) ((za1 (za0 Fs) X.2).map canC)))=>yed HCj.out p1 p2 (zbz Fs OF.out i X hX) h
   rw[←hcs]at rL kL hmk;rw[←hds]at rR kR hmk;have HRL:=Hh rL;have HRR:=Hh rR;have HMk:=Hh hmk;have HKL:=Hh kL;have HKR:=Hh kR;have HTn:=Hh (show Tb[i]?=some (canC ((za0 Fs).getD i 0))from by
    rw[HTb.out,List.getElem?_map,List.getD_eq_getElem?_getD,List.getElem?_eq_getElem (show i<(za0 Fs).length by rw[za2];exact hiF)];rfl)
   have HX1:=Hh (show ∀(j x:Nat),X.1[j]?=some x→x<A.length from fun j x hx=>by rw[hAl];exact p1 x (List.mem_of_getElem? hx));have HX2:=Hh (show ∀(j x:Nat),X.2[j]?=some x→x<A.length from fun j x hx=>by rw[hAl];exact p2 x (List.mem_of_getElem? hx));have HY1:=Hh (show X.1.length<1000000000000 by omega);have HY2:=Hh (show X.2.length<1000000000000 by omega);have HP3:=Hh (show(za1 A X.1).length<1000000 by simp[za1];omega);have HP4:=Hh (show(za1 A X.2).length<1000000 by simp[za1];omega);have HP5:=Hh (show V.length<900 by omega);have HA:=Hh hAl;have HW:=Hh (fun(W:World) (f:Fr NoM w7 W)=>(hs.fr.trans f (fun _ _ q=>q):Fr NoM w3 W));have hc:=HC.out w7 hs.fr;have F0:Fr NoM w7 w7.drew:=(Fr.refl NoM w7).drew;have G0:Fr NoM w3 w7.drew:=HW.out _ F0;clear hX hnn ha1 hR1 d1 d2 n1 n2 m1 m2 p1 p2 l1 l2 hTl hAl rL rR hmk kL kR hcs hds hs hV hiF k2 k3;go_wp2_with fail;go_region_held3 (fun(W:World)=>W.cell? ⟨w.heap.size,0,none⟩=some (.slice na1 nF nc1)/\W.cell? ⟨b1,o1+i*2,none⟩=some (.slice xla X.1.length xlc)/\W.cell? ⟨b1,o1+i*2+1,none⟩=some (.slice xra X.2.length xrc))
    (first|exact HC.out _ (by assumption)|exact HC.out _ (Fr.alloc (by assumption) _))
    (first
     | (go_at_call 79;with_reducible refine(zei _ (.slice xra X.2.length xrc) A X.2 _ (HV7.out _ (by assumption)) (HN2.out _ (by assumption)) HX2.out HY2.out).mono ?_;rintro e wa ⟨va1,rfl,t1,fa⟩;have z2:Nats wa va1 (za1 A X.2):=zcn t1;clear t1;have ga:Fr NoM w7 wa:=Fr.trans (by assumption) fa (fun _ _ q=>q);have ka:Fr NoM w3 wa:=HW.out _ ga;try (have z1:=SliceOf.fr0 (L:=za1 A X.1) (by assumption) fa))
     | (go_at_call 79;with_reducible refine(zei _ (.slice xla X.1.length xlc) A X.1 _ (HV7.out _ (by assumption)) (HN1.out _ (by assumption)) HX1.out HY1.out).mono ?_;rintro e wb ⟨vb1,rfl,t2,fb⟩;have z1:Nats wb vb1 (za1 A X.1):=zcn t2;clear t2;have gb:Fr NoM w7 wb:=Fr.trans (by assumption) fb (fun _ _ q=>q);have kb:Fr NoM w3 wb:=HW.out _ gb;try (have z2:=SliceOf.fr0 (L:=za1 A X.2) (by assumption) fb))
     | (go_at_call 78;(with_reducible refine(zvk bb _ _ V BV (za1 A X.1) (za1 A X.2) cs ds _ (HS.out.fr0 (by assumption)).book HS.out.ok (fun q hq=>((HS.out.fr0 (by assumption)).sub q hq).2) (by assumption) (by assumption) HRL.out HRR.out HKL.out HKR.out HP5.out HP3.out HP4.out).mono ?_);rintro e wc ⟨ri,V2,B2,S2,rfl,p1,p2,p3,p4,p5,p6,p7,p8⟩;have st:=(HS.out.fr0 (by assumption)).grow p1 p2 p3 p4 p5;have hcd:=HMk.out _ p8;have HST:=Hh st;have HR:=Hh p7;have HCD:=Hh hcd;have HLN:=Hh p6;have kc:Fr NoM w3 wc:=st.fr;clear st p1 p2 p3 p4 p5 p6 p7 p8 hcd)
     | (refine zbk (enc:=encN) rfl (.tmp 16) (.tmp 35) 82 rfl w3.heap.size 3 (.int .i64 0) 8 Tryz.underlying82 za9 rfl va A.length (A.map encN) rfl (za3 HST.out.o1 ((Fr.refl NoM wc).alloc _) (fun _ _ q=>q)) (.slice (some ⟨wc.heap.size,0,none⟩) 1 1) rfl [ri] (SliceOf.one encN wc _ 3) (fun _=>rfl) (by have:=HA.out;have:=HNb.out;simp only[List.length_singleton];omega) (by decide) (by have:=kc.size;rw[World.size_alloc];omega) ?_;intro v4 wd h4 f4 q4;have hap:=HST.out.app ((Fr.refl NoM wc).alloc _) h4 f4 (by first|exact q4|(rw[World.size_alloc];exact q4)) HR.out HCD.out.eq;rw[zf8 HTn.out]at hap;have HAp:=Hh hap;have kd:Fr NoM w3 wd:=hap.fr;clear hap h4 f4 q4)
     | fail)
   all_goals
    go_wp2;go_roundw
    case rel=>exact⟨i+1,v4,_,_,_,_,rfl,by go_num,by omega,HAp.out,by have h1:=HLN.out;have h2:=HV.out;omega,fun j hj=>by
     by_cases e:j=i
     ·rw[e,←HCD.out.eq];exact HCD.out
     ·exact HCj.out j (by omega)⟩
    case measure=>simp[intOf];omega
  ·obtain rfl:i=nF:=by omega
   have hn2:=HnF.out;have hpf:0<i:=by have:=PF.out;omega
   have hTl:Tb.length=i:=by rw[HTb.out,List.length_map,za2];omega
   have hnb:=HNb.out;have hAl:A.length=i:=by
    have h:=hs.r1.len;rw[List.length_take]at h;omega
   obtain⟨x,hx,hxl,hxc⟩:=hs.r1.get (p:=i-1) (c:=canC ((za0 Fs).getD (i-1) 0)) (by omega) (by
    rw[HTb.out,List.getElem?_map,List.getD_eq_getElem?_getD,List.getElem?_eq_getElem (show i-1<(za0 Fs).length by rw[za2];omega)];rfl)
   obtain⟨p,hp⟩:∃p,i=p+1:=⟨i-1,by omega⟩;rw[show i-1=p from by omega]at hx;obtain⟨aa,ac,rfl,_,_,hac⟩:=hs.nats1;obtain⟨b4,o4,ha4,c4⟩:=hac p x hx;unfold encN at c4;have ix4:=zaa aa A.length ac p b4 o4 (by omega) ha4;have hcast:((A.length:Int)-1)=(p:Int):=by omega
   have hpb:p<1600:=by omega
   have hAb:A.length<1000000:=by omega
   have hlen:=hs.ok.lens (n:=100000000) (by omega);have HFo:=Hh (zi2 bb x V BV w7 hs.book (zdi hs.ok) hxl (by omega) hlen);have hfo:=zdh hs.ok hxl hxc;have HFe:=Hh (show zd3 V BV x=zac (canC (zb0 Fs))from by
    rw[hfo];unfold zb0;rw[hn2])
   clear hx hxl hxc hac ha4 hlen hfo hAl hp hpf hi hlt hn2 hTl hs hV k2 k3;go_wp2_with fail;refine HFo.out.mono ?_
   rintro e w11 ⟨v',rfl,hn',f11⟩;rw[HFe.out]at hn';obtain⟨k0',k2',k3'⟩:=HK.out w11 (HS.out.fr.trans f11 (fun _ _ q=>q));have HFn:=Hh hn';have F11:=Hh (HS.out.fr.trans f11 (fun _ _ q=>q));have HSz:=Hh (show w.heap.size+2≤w7.heap.size from by have:=HS.out.fr.size;have:=HS3.out;omega);obtain⟨va',vc',rfl,zz⟩:=id hn';clear zz hn' f11 k0' k0 c4 ix4;go_wp2;refine bodyPost_ret (v:=.agg #[.slice va' (zac (canC (zb0 Fs))).length vc']) (by simp[results,Tryz.results34,go_sem,k2']) rfl ?_
   refine⟨_,rfl,?_,(HF3.out.trans F11.out (fun _ _ q=>q)).setCell _ _ (fun h=>by have h:w.heap.size+1<w.heap.size:=h;omega)⟩;exact(HFn.out.fr (Fr.set w11 ⟨w.heap.size+1,0,none⟩ _) (fun q hq e=>by have e:q=w.heap.size+1:=e;have:=HSz.out;omega)).mono (fun q hq=>by have:=HSz.out;omega)
end Go.Proofs.YtghekfmfonoocaaGreatDoor
