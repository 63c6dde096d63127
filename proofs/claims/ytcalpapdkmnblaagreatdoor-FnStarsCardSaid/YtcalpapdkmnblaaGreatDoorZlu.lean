import Derived.Test.YtcalpapdkmnblaaGreatDoorZl10
import Derived.Test.YtcalpapdkmnblaaGreatDoorZl14
/- Lemmas. -/
namespace Go.Proofs.YtcalpapdkmnblaaGreatDoor
set_option linter.unusedVariables false
set_option linter.unusedSimpArgs false
open Go.RowKit
def zrq (pb ob sb:Nat) (ms mn:Value) (W:World) (M:Nat→Prop) (c:Nat) (e:Ending) (w':World):Prop :=
  ∃ (i : Nat) (V : List PL) (BV : List Nat) (M' I' : Nat → Prop) (fo : Nat × Nat → Option Bool), e = .returned (.int .i64 (i : Int)) ∧ PoolS M' I' w' pb V BV (.map (some ob)) (.map (some sb)) ms mn ∧ PoolOK V BV ∧ MapF encP encB w' ob fo ∧ OrdF (za0 V) fo ∧
    (∀ q,M' q→(q < w'.heap.size∧q≠ob∧q≠sb)∧(M q∨W.heap.size≤q))∧(∀ q,I' q→(q < w'.heap.size∧q≠ob∧q≠sb)∧W.heap.size≤q)∧V.length≤240∧i < V.length∧(za0 V).getD i 0=canC c∧Fr (fun q=>M q∨q=ob∨q=sb) W w'
set_option maxRecDepth 4000 in
set_option maxHeartbeats 8000000 in
theorem znv {R M3 I3:Nat→Prop}(pb ob sb:Nat)(ms mn nv:Value)(Fs:List PL)(w3:World)(hP:PoolS M3 I3 w3 pb [] [] (.map (some ob)) (.map (some sb)) ms mn)(hM:∀q,M3 q→q<w3.heap.size/\q≠sb/\q≠ob)(hI:∀q,¬I3 q)
  (hmo:MapF encP encB w3 ob (fun _=>none)) (hmap:MapF encN encN w3 sb (fun _=>none)) (hos:ob≠sb) (hN:NodeL R encN w3 nv Fs) (hR:∀k,R k→¬M3 k) (hg:zc3 (i2 Fs)) :
  Calls Tryz.prog 96 #[.pointer (some ⟨pb,0,none⟩),.agg #[nv]] w3 fun e w'=>zrq pb ob sb ms mn w3 M3 (zak Fs) e w':=by
 obtain⟨w4,hw4⟩:∃w4,w4=w3.alloc (.cells #[nv] 26):=⟨_,rfl⟩;have f4:Fr NoM w3 w4:=by rw[hw4];exact(Fr.refl NoM w3).alloc _
 have e4:w4.heap[w3.heap.size]?=some (.cells #[nv] 26 (0,0)):=by rw[hw4];exact heap_alloc_new w3 _
 have k0:w4.cell? ⟨w3.heap.size,0,none⟩=some nv:=by rw[cell_of_row w4 _ 0 _ _ _ e4];rfl
 have HRt:=Hh (zic pb nv [] Fs [] (.map (some ob)) (.map (some sb)) ms mn w4 (hP.fr0 f4) (fun q hq=>by have:=(hM q hq).1;have:=f4.size;omega) (fun q hq=>absurd hq (hI q)) PoolOK.nil (hN.fr0 f4) hR hg (by simp));have hFl:Fs.length≤120:=by have h:=hg.1;unfold zb6 at h;rw[decide_eq_true_eq,zc2]at h;exact h.1
 have HM:=Hh hM;have HI:=Hh hI;have HMo:=Hh (hmo.fr f4 (fun q=>q));have HMp:=Hh (hmap.fr f4 (fun q=>q));have HOs:=Hh hos;have HFl:=Hh hFl;have F4:=Hh f4;obtain⟨na,nc,rfl,zz⟩:=id hN;clear zz hP hM hI hmo hmap hos hN hR hg f4 e4 hFl;go_enter Tryz.func96,Tryz.ntmps96;go_wp2_with fail;rw[←hw4];clear hw4;(with_reducible refine HRt.out.mono ?_);rintro e wa ⟨r1,V1,B1,M1,I1,rfl,pa,oa,va,ra,ca,ua,ma,ia,fa⟩;have lv1:V1.length≤120:=by
  have h1:=zex oa ua;have h2:=HFl.out;rw[List.length_append,za1,za1]at h1;simp at h1;omega
 have hobl:=HMo.out.lt;have hsbl:=HMp.out.lt;have HSum:=Hh (zx9 pb ob sb ms mn V1 B1 r1 wa pa oa (HMo.out.fr fa (fun h=>(HM.out _ h).2.2 rfl)) (HMp.out.fr fa (fun h=>(HM.out _ h).2.1 rfl)) (fun q hq=>⟨(ma q hq).2,fun e=>by
  rcases (ma q hq).1 with h|h
  ·exact(HM.out q h).2.2 e
  ·omega,fun e=>by
  rcases (ma q hq).1 with h|h
  ·exact(HM.out q h).2.1 e
  ·omega⟩) (fun q hq=>⟨(ia q hq).2,fun e=>by
  rcases (ia q hq).1 with h|h
  ·exact HI.out q h
  ·omega,fun e=>by
  rcases (ia q hq).1 with h|h
  ·exact HI.out q h
  ·omega⟩) HOs.out ra (by omega))
 have FA:=Hh fa;have HMa:=Hh ma;have HIa:=Hh ia;have HCa:=Hh ca;have Hlv:=Hh lv1;clear pa oa va ra ca ua ma ia fa lv1 k0 hobl hsbl;go_wp2_with fail;(with_reducible refine HSum.out.mono ?_);rintro e wc ⟨i,V3,B3,M4,I4,ffo,ffc,rfl,st,nx,hi,hci⟩;have kc:Fr (fun q=>M3 q∨q=ob∨q=sb) w3 wc:=F4.out.any.trans ((FA.out.mono (fun _ _ q=>.inl q)).trans nx.fr (fun q hq h=>h.elim (fun h=>by
  rcases (HMa.out q h).1 with h|h
  ·exact .inl h
  ·omega) .inr)) (fun _ _ q=>q)
 rw[HCa.out]at hci;have hci:=hci.eq;have hq3:w3.heap.size≤wa.heap.size:=Nat.le_trans F4.out.size FA.out.size;have hsl:V3.length≤240:=by
  have h:=st.len;unfold canU at h;rw[List.length_append,List.length_map,za1]at h;have:=Hlv.out;omega
 have HE:=Hh (show zrq pb ob sb ms mn w3 M3 (zak Fs) (.returned (.int .i64 (i:Int))) wc from⟨i,V3,B3,M4,I4,ffo,rfl,st.pool,st.ok,st.ord,st.ordOK,fun q hq=>⟨st.mlt q hq,(nx.mM q hq).elim (fun h=>(HMa.out q h).1.elim .inl (fun z=>.inr (by have:=F4.out.size;omega))) (fun z=>.inr (by omega))⟩,fun q hq=>⟨st.ilt q hq,(nx.mI q hq).elim (fun h=>(HIa.out q h).1.elim (fun z=>(HI.out q z).elim) (fun z=>by have:=F4.out.size;omega)) (fun z=>by omega)⟩,hsl,hi,hci,kc⟩);clear st nx hi hci kc hq3 hsl;go_wp2;go_ret;exact HE.out
set_option maxRecDepth 4000 in
set_option maxHeartbeats 8000000 in
theorem zk2 {C:List Nat}{NL:List PL}(B:BookC NL C)(ob bb kb x y:Nat)(hN:NL.length<1000)(hx:x<NL.length)(hy:y<NL.length)(hZt:∀z∈(za5 NL y).2,z<NL.length)(K:List Nat)(w:World)(hO:OrdR w ob bb kb NL K)(hK:KOK C NL.length (2*NL.length) K) :
  Calls Tryz.prog 242 #[.pointer (some ⟨ob,0,none⟩),.int .i64 (x:Int),.int .i64 (y:Int),.bool true] w fun e w'=>e=.returned (.int .i64 (thrI ((za5 NL y).2.find? (gR C x))))/\∃K',OrdR w' ob bb kb NL K'∧KOK C NL.length (2*NL.length) K'∧Fr (fun q=>q=kb) w w':=by
 have HGq:=Hh (fun x y hx hy K w=>zhy B ob bb kb x y hN hx hy K w);obtain⟨bv,hbv,hNb⟩:=hO.nv;obtain⟨na,nc,rfl,_,_,hnn⟩:=hNb;obtain⟨b1,o1,l,r,hna,hb1,c1,c2,s1,s2,q1,q2⟩:=hnn _ _ (za6 hy);have ix:=zbc na NL.length nc y b1 o1 hy hna;have o0:=hO.o0;obtain⟨Z,hZ⟩:∃Z,Z=(za5 NL y).2:=⟨_,rfl⟩;rw[←hZ]at hZt s2 q2 ⊢;have HL:=Hh (fun(W:World) (f:Fr (fun q=>q=kb) w W)=>show Nats W r Z from s2.fr f q2);obtain⟨la,lc,rfl,hl1,hl2,z⟩:=id s1;clear z;obtain⟨ra,rc,rfl,hl3,hl4,z⟩:=id s2;clear z;obtain⟨res,hres⟩:∃res,res=thrI (Z.find? (gR C x)):=⟨_,rfl⟩;rw[←hres];have HLt:=Hh hZt;have HRes:=Hh hres;have HX:=Hh hx;have HO:=Hh hO;have HK:=Hh hK;clear hO hK hx hZt hres hnn s1 s2 q1 q2 hna hZ;go_enter Tryz.func242,Tryz.ntmps242;go_wp2_with fail;clear o0 hbv c1 c2 ix;go_loopw [10] (fun t W=>∃(k:Nat) (K1:List Nat),t=.int .i64 k/\k≤Z.length/\(Z.take k).find? (gR C x)=none/\OrdR W ob bb kb NL K1/\KOK C NL.length (2*NL.length) K1/\Fr (fun q=>q=kb) w W) (fun t _=>Z.length-(intOf t).toNat)
 case atStart=>exact⟨0,K,rfl,Nat.zero_le _,rfl,HO.out,HK.out,Fr.refl _ _⟩
 case round =>
  obtain⟨k,K1,rfl,hk,hno,hO1,hK1,hfr⟩:=hrel;obtain⟨w6,rfl⟩:∃w6,w6=wr:=⟨_,rfl⟩;have HO1:=Hh hO1;have HK1:=Hh hK1;have HFr:=Hh hfr;have HNo:=Hh hno;clear hO1 hK1 hfr hno;by_cases hkl:k<Z.length
  ·obtain⟨z,hz⟩:∃z,Z[k]?=some z:=⟨_,List.getElem?_eq_getElem hkl⟩
   have hzl:=HLt.out z (List.mem_of_getElem? hz);have HC:=Hh (fun(W:World) (f:Fr (fun q=>q=kb) w W)=>show ∃b2 o2,ra=some ⟨b2,o2,none⟩/\W.cell? ⟨b2,o2+k,none⟩=some (.int .i64 (z:Int))from by
    obtain⟨_,_,ee,_,_,hcc⟩:=HL.out W f;cases ee
    exact hcc k z hz)
   obtain⟨b2,o2,ha2,d2⟩:=HC.out w6 HFr.out;have ix1:=za9 ra Z.length rc k b2 o2 hkl ha2;obtain⟨a,ha⟩:∃a,a=gR C x z:=⟨_,rfl⟩;obtain⟨hi',ez⟩:=List.getElem?_eq_some_iff.1 hz
   have htk:(Z.take (k+1)).find? (gR C x)=if a=true then some z else none:=by
    rw[List.take_succ_eq_append_getElem hkl,ez,List.find?_append,HNo.out,Option.none_or,ha];cases hb:gR C x z <;> simp[hb]
   have hres:a=true→res=(z:Int):=fun h=>by
    rw[HRes.out,←List.take_append_drop (k+1) Z,List.find?_append,htk,if_pos h];rfl
   have hgo:a=false→(Z.take (k+1)).find? (gR C x)=none:=fun h=>by rw[htk,h];rfl
   have HRs:=Hh hres;have HGo:=Hh hgo;have h1:=HGq.out x z HX.out hzl K1 w6 HO1.out HK1.out;rw[show geV C x z=a from ha.symm]at h1;have H1:=Hh h1;have HA2:=Hh ha2;clear hz ha htk hres hgo h1 ez ha2;go_wp2_with fail;refine H1.out.mono ?_
   rintro e w8 ⟨rfl,K2,hO2,hK2,hfr2⟩;have HO2:=Hh hO2;have HK2:=Hh hK2;have HFr2:=Hh (HFr.out.trans hfr2 (fun _ _ q=>q));clear hO2 hK2 hfr2 d2;cases a with
   | true =>
    have hr:=HRs.out rfl;obtain⟨b3,o3,ha3,d3⟩:=HC.out w8 HFr2.out;rw[HA2.out]at ha3;cases ha3
    go_wp2_with fail;go_ret;exact⟨by rw[hr] <;> rfl,K2,HO2.out,HK2.out,HFr2.out⟩
   | false =>
    have HNx:=Hh (HGo.out rfl);go_wp2_with fail;go_roundw
    case rel=>exact⟨k+1,K2,by go_num,by omega,HNx.out,HO2.out,HK2.out,HFr2.out⟩
    case measure=>simp[intOf];omega
  ·have hk':k=Z.length:=by omega
   have hr:res=-1:=by
    have h:=HNo.out;rw[hk',List.take_length]at h;rw[HRes.out,h];rfl
   clear hk';go_wp2_with fail;go_ret;exact⟨by rw[hr] <;> rfl,K1,HO1.out,HK1.out,HFr.out⟩
set_option maxRecDepth 4000 in
set_option maxHeartbeats 8000000 in
theorem zk1 {C:List Nat}{NL:List PL}(B:BookC NL C)(ob bb kb x y:Nat)(hN:NL.length<1000)(hx:x<NL.length)(hy:y<NL.length)(hZt:∀z∈(za5 NL y).1,z<NL.length)(K:List Nat)(w:World)(hO:OrdR w ob bb kb NL K)(hK:KOK C NL.length (2*NL.length) K) :
  Calls Tryz.prog 242 #[.pointer (some ⟨ob,0,none⟩),.int .i64 (x:Int),.int .i64 (y:Int),.bool false] w fun e w'=>e=.returned (.int .i64 (thrI ((za5 NL y).1.find? (gL C x))))/\∃K',OrdR w' ob bb kb NL K'∧KOK C NL.length (2*NL.length) K'∧Fr (fun q=>q=kb) w w':=by
 have HGq:=Hh (fun x y hx hy K w=>zhy B ob bb kb x y hN hx hy K w);obtain⟨bv,hbv,hNb⟩:=hO.nv;obtain⟨na,nc,rfl,_,_,hnn⟩:=hNb;obtain⟨b1,o1,l,r,hna,hb1,c1,c2,s1,s2,q1,q2⟩:=hnn _ _ (za6 hy);have ix:=zbc na NL.length nc y b1 o1 hy hna;have o0:=hO.o0;obtain⟨Z,hZ⟩:∃Z,Z=(za5 NL y).1:=⟨_,rfl⟩;rw[←hZ]at hZt s1 q1 ⊢;have HL:=Hh (fun(W:World) (f:Fr (fun q=>q=kb) w W)=>show Nats W l Z from s1.fr f q1);obtain⟨la,lc,rfl,hl1,hl2,z⟩:=id s1;clear z;obtain⟨ra,rc,rfl,hl3,hl4,z⟩:=id s2;clear z;obtain⟨res,hres⟩:∃res,res=thrI (Z.find? (gL C x)):=⟨_,rfl⟩;rw[←hres];have HLt:=Hh hZt;have HRes:=Hh hres;have HX:=Hh hx;have HO:=Hh hO;have HK:=Hh hK;clear hO hK hx hZt hres hnn s1 s2 q1 q2 hna hZ;go_enter Tryz.func242,Tryz.ntmps242;go_wp2_with fail;clear o0 hbv c1 c2 ix;go_loopw [12] (fun t W=>∃(k:Nat) (K1:List Nat),t=.int .i64 k/\k≤Z.length/\(Z.take k).find? (gL C x)=none/\OrdR W ob bb kb NL K1/\KOK C NL.length (2*NL.length) K1/\Fr (fun q=>q=kb) w W) (fun t _=>Z.length-(intOf t).toNat)
 case atStart=>exact⟨0,K,rfl,Nat.zero_le _,rfl,HO.out,HK.out,Fr.refl _ _⟩
 case round =>
  obtain⟨k,K1,rfl,hk,hno,hO1,hK1,hfr⟩:=hrel;obtain⟨w6,rfl⟩:∃w6,w6=wr:=⟨_,rfl⟩;have HO1:=Hh hO1;have HK1:=Hh hK1;have HFr:=Hh hfr;have HNo:=Hh hno;clear hO1 hK1 hfr hno;by_cases hkl:k<Z.length
  ·obtain⟨z,hz⟩:∃z,Z[k]?=some z:=⟨_,List.getElem?_eq_getElem hkl⟩
   have hzl:=HLt.out z (List.mem_of_getElem? hz);have HC:=Hh (fun(W:World) (f:Fr (fun q=>q=kb) w W)=>show ∃b2 o2,la=some ⟨b2,o2,none⟩/\W.cell? ⟨b2,o2+k,none⟩=some (.int .i64 (z:Int))from by
    obtain⟨_,_,ee,_,_,hcc⟩:=HL.out W f;cases ee
    exact hcc k z hz)
   obtain⟨b2,o2,ha2,d2⟩:=HC.out w6 HFr.out;have ix1:=za9 la Z.length lc k b2 o2 hkl ha2;obtain⟨a,ha⟩:∃a,a=gL C x z:=⟨_,rfl⟩;obtain⟨hi',ez⟩:=List.getElem?_eq_some_iff.1 hz
   have htk:(Z.take (k+1)).find? (gL C x)=if a=true then some z else none:=by
    rw[List.take_succ_eq_append_getElem hkl,ez,List.find?_append,HNo.out,Option.none_or,ha];cases hb:gL C x z <;> simp[hb]
   have hres:a=true→res=(z:Int):=fun h=>by
    rw[HRes.out,←List.take_append_drop (k+1) Z,List.find?_append,htk,if_pos h];rfl
   have hgo:a=false→(Z.take (k+1)).find? (gL C x)=none:=fun h=>by rw[htk,h];rfl
   have HRs:=Hh hres;have HGo:=Hh hgo;have h1:=HGq.out z x hzl HX.out K1 w6 HO1.out HK1.out;rw[show geV C z x=a from ha.symm]at h1;have H1:=Hh h1;have HA2:=Hh ha2;clear hz ha htk hres hgo h1 ez ha2;go_wp2_with fail;refine H1.out.mono ?_
   rintro e w8 ⟨rfl,K2,hO2,hK2,hfr2⟩;have HO2:=Hh hO2;have HK2:=Hh hK2;have HFr2:=Hh (HFr.out.trans hfr2 (fun _ _ q=>q));clear hO2 hK2 hfr2 d2;cases a with
   | true =>
    have hr:=HRs.out rfl;obtain⟨b3,o3,ha3,d3⟩:=HC.out w8 HFr2.out;rw[HA2.out]at ha3;cases ha3
    go_wp2_with fail;go_ret;exact⟨by rw[hr] <;> rfl,K2,HO2.out,HK2.out,HFr2.out⟩
   | false =>
    have HNx:=Hh (HGo.out rfl);go_wp2_with fail;go_roundw
    case rel=>exact⟨k+1,K2,by go_num,by omega,HNx.out,HO2.out,HK2.out,HFr2.out⟩
    case measure=>simp[intOf];omega
  ·have hk':k=Z.length:=by omega
   have hr:res=-1:=by
    have h:=HNo.out;rw[hk',List.take_length]at h;rw[HRes.out,h];rfl
   clear hk';go_wp2_with fail;go_ret;exact⟨by rw[hr] <;> rfl,K1,HO1.out,HK1.out,HFr.out⟩
theorem zc8 {L:List Nat}(i x:Nat):(x∈L.take i∨x∈L.drop i)↔x∈L:=by
 rw[←List.mem_append,List.take_append_drop]
theorem zcu {L:List Nat}(h:L.Pairwise (· < ·)):L.Nodup:=h.imp (fun h=>Nat.ne_of_lt h)
def zhp (Ln:List Nat)(i:Nat):Nat→Bool:=fun x=>decide (x∈Ln.take i)
theorem zaq {Ln:List Nat}{i x:Nat}:zhp Ln i x=true↔x∈Ln.take i:=by
 unfold zhp;rw[decide_eq_true_eq]
theorem zg2 {Ln:List Nat}{i x:Nat}(h:Ln[i]?=some x):Ln.take (i+1)=Ln.take i ++ [x]/\Ln.drop i=x::Ln.drop (i+1):=by
 obtain⟨hi,e⟩:=List.getElem?_eq_some_iff.1 h
 exact⟨by rw[List.take_succ_eq_append_getElem hi,e],by rw[List.drop_eq_getElem_cons hi,e]⟩
theorem zpy {Ln:List Nat}{i x:Nat}(h:Ln[i]?=some x)(hn:Ln.Nodup):x ∉ Ln.take i:=by
 obtain⟨e1,e2⟩:=zg2 h;intro hx;rw[←List.take_append_drop i Ln,e2,List.nodup_append]at hn;exact hn.2.2 x hx x (by simp) rfl
section
variable {V V':List PL}{C:List Nat}{cf:Nat}{S S':Nat→Bool}{Q Q' Kp Kp':List Nat}{i k x:Nat}{Ln Ln':List Nat}
theorem QL.same (h:QL V C cf S Q Kp)(hS:∀x,S' x=true↔S x=true)(hq:∀x,(S' x=true∨x∈Q')↔(S x=true∨x∈Q))(hk:∀x,x∈Kp'↔x∈Kp)(hn:Kp'.Nodup):QL V C cf S' Q' Kp' :=
 ⟨fun i hi=>h.snd i ((hq i).1 hi),fun i hi=>⟨(hS i).2 (h.kp i ((hk i).1 hi)).1,(h.kp i ((hk i).1 hi)).2⟩,fun i hi=>(h.seen i ((hS i).1 hi)).imp (hk i).2 (fun⟨k,a,b,c⟩=>⟨k,a,b,fun l hl=>(hq l).2 (c l hl)⟩),fun l hl=>by
  obtain⟨i,hi,e⟩:=h.opt l hl;exact⟨i,(hq i).2 hi,e⟩,hn⟩
theorem QL.mono (B:BookC V (za0 V))(h:QL V (za0 V) cf S Q Kp)(hp:V <+: V'):QL V' (za0 V') cf S Q Kp:=by
 have hl:=hp.length_le;have hs:∀i,S i=true→i<V.length:=fun i hi=>(h.snd i (.inl hi)).1
 refine⟨fun i hi=>?_,fun i hi=>?_,fun i hi=>?_,fun l hl=>?_,h.nodup⟩
 ·obtain⟨a,b⟩:=h.snd i hi
  rw[zah hp a];exact⟨by omega,b⟩
 ·obtain⟨a,b⟩:=h.kp i hi
  have hil:=hs i a;rw[zd1 hp hil];refine⟨a,fun r hr=>?_⟩;rw[zah hp (by have:=(B.opts i _ (za6 hil)).2 r hr;omega)];exact b r hr
 ·have hil:=hs i hi
  refine(h.seen i hi).imp_right ?_
  rintro⟨k,a,b,c⟩;have hk:k<V.length:=by have:=(B.opts i _ (za6 hil)).2 k a;omega
  refine⟨k,by rw[zd1 hp hil];exact a,by rw[zah hp hk];exact b,?_⟩;rw[zd1 hp hk];exact c
 ·obtain⟨i,hi,e⟩:=h.opt l hl
  exact⟨i,hi,by rw[zah hp (h.snd i hi).1];exact e⟩
structure LQL (V:List PL) (C:List Nat) (cf:Nat) (Ln:List Nat) (i:Nat) (Kp:List Nat):Prop where
 q:QL V C cf (zhp Ln i) (Ln.drop i) Kp
 nd:Ln.Nodup
 up:Kp.Pairwise (· < ·)
theorem LQL.start (h:QL V C cf (fun _=>false) Ln [])(hn:Ln.Nodup):LQL V C cf Ln 0 [] :=
 ⟨h.same (fun x=>by rw[zaq];simp) (fun x=>by rw[zaq];simp) (fun _=>Iff.rfl) (by simp),hn,List.Pairwise.nil⟩
theorem LQL.lt (h:LQL V C cf Ln i Kp):(∀x∈Ln,x<V.length)/\∀x∈Kp,x<V.length :=
 ⟨fun x hx=>(h.q.snd x (by rw[zaq,zc8];exact hx)).1,fun x hx=>(h.q.snd x (.inl (h.q.kp x hx).1)).1⟩
theorem LQL.keep (h:LQL V C cf Ln i Kp)(hx:Ln[i]?=some x)(hr:∀r∈(za5 V x).2,geC cf (C.getD r 0)=false):LQL V C cf Ln (i+1) (putN Kp x):=by
 obtain⟨e1,e2⟩:=zg2 hx;have h1:QL V C cf (zhp Ln i) (Ln.drop (i+1) ++ [x]) Kp:=h.q.same (fun _=>Iff.rfl) (fun y=>by rw[e2];simp only[List.mem_append,List.mem_cons,List.not_mem_nil,or_false];exact or_congr_right or_comm) (fun _=>Iff.rfl) h.q.nodup;have h2:=h1.keep (fun e=>zpy hx h.nd (zaq.1 e)) hr;refine⟨h2.same (fun y=>?_) (fun y=>?_) (fun y=>?_) (zcu (zgx x h.up)),h.nd,zgx x h.up⟩
 ·rw[zan,zaq,zaq,e1];simp
 ·rw[zan,zaq,zaq,e1];simp
 ·rw[zfd];simp
theorem LQL.push (B:BookC V C)(h:LQL V C cf Ln i Kp)(hx:Ln[i]?=some x)(hk:k∈(za5 V x).2)(hg:geC cf (C.getD k 0)=true)(hp:Ln <+: Ln')(hn:Ln'.Nodup)(hm:∀y,y∈Ln'↔y∈Ln∨y∈(za5 V k).1):LQL V C cf Ln' (i+1) Kp:=by
 obtain⟨e1,e2⟩:=zg2 hx;have h1:QL V C cf (zhp Ln i) (Ln.drop (i+1) ++ [x]) Kp:=h.q.same (fun _=>Iff.rfl) (fun y=>by rw[e2];simp only[List.mem_append,List.mem_cons,List.not_mem_nil,or_false];exact or_congr_right or_comm) (fun _=>Iff.rfl) h.q.nodup;have h2:=h1.push B hk hg;have hil:=(List.getElem?_eq_some_iff.1 hx).1;have et:Ln'.take (i+1)=Ln.take (i+1):=by
  obtain⟨t,rfl⟩:=hp;exact List.take_append_of_le_length (by omega)
 have key:∀y,addS (zhp Ln i) x y=true↔y∈Ln.take (i+1):=fun y=>by
  rw[zan,zaq,e1];simp
 refine⟨h2.same (fun y=>?_) (fun y=>?_) (fun _=>Iff.rfl) h.q.nodup,hn,h.up⟩
 ·rw[key,zaq,et]
 ·rw[zaq,zc8,hm,key,List.mem_append,←or_assoc,zc8]
theorem LQL.fin (h:LQL V C cf Ln Ln.length Kp):∃S,QL V C cf S [] Kp:=⟨zhp Ln Ln.length,by
 have h1:=h.q;rw[List.drop_length]at h1;exact h1⟩
theorem QL.node {BV:List Nat}(h:PoolOK V BV)(hx:x<V.length)(hc:∀l∈(za5 V x).1,CanC ((za0 V).getD l 0)):QL V (za0 V) ((za0 V).getD x 0) (fun _=>false) (za5 V x).1 []:=by
 have ho:=(zbb h.book hx).1;refine⟨fun i hi=>?_,by simp,fun i hi=>Bool.noConfusion hi,fun l hl=>?_,by simp⟩
 ·have hi:=hi.resolve_left (by simp)
  exact⟨by have:=(h.opts x _ (za6 hx)).1 i hi;omega,hc i hi,zcy ((ho _).2 ⟨i,hi,rfl⟩)⟩
 ·obtain⟨y,hy,e⟩:=(ho l).1 hl
  exact⟨y,.inr hy,by rw[e];exact zcr _⟩
theorem QR.same (h:QR V C cf S Q Kp)(hS:∀x,S' x=true↔S x=true)(hq:∀x,(S' x=true∨x∈Q')↔(S x=true∨x∈Q))(hk:∀x,x∈Kp'↔x∈Kp)(hn:Kp'.Nodup):QR V C cf S' Q' Kp' :=
 ⟨fun i hi=>h.snd i ((hq i).1 hi),fun i hi=>⟨(hS i).2 (h.kp i ((hk i).1 hi)).1,(h.kp i ((hk i).1 hi)).2⟩,fun i hi=>(h.seen i ((hS i).1 hi)).imp (hk i).2 (fun⟨k,a,b,c⟩=>⟨k,a,b,fun l hl=>(hq l).2 (c l hl)⟩),fun l hl=>by
  obtain⟨i,hi,e⟩:=h.opt l hl;exact⟨i,(hq i).2 hi,e⟩,hn⟩
theorem QR.mono (B:BookC V (za0 V))(h:QR V (za0 V) cf S Q Kp)(hp:V <+: V'):QR V' (za0 V') cf S Q Kp:=by
 have hl:=hp.length_le;have hs:∀i,S i=true→i<V.length:=fun i hi=>(h.snd i (.inl hi)).1
 refine⟨fun i hi=>?_,fun i hi=>?_,fun i hi=>?_,fun l hl=>?_,h.nodup⟩
 ·obtain⟨a,b⟩:=h.snd i hi
  rw[zah hp a];exact⟨by omega,b⟩
 ·obtain⟨a,b⟩:=h.kp i hi
  have hil:=hs i a;rw[zd1 hp hil];refine⟨a,fun r hr=>?_⟩;rw[zah hp (by have:=(B.opts i _ (za6 hil)).1 r hr;omega)];exact b r hr
 ·have hil:=hs i hi
  refine(h.seen i hi).imp_right ?_
  rintro⟨k,a,b,c⟩;have hk:k<V.length:=by have:=(B.opts i _ (za6 hil)).1 k a;omega
  refine⟨k,by rw[zd1 hp hil];exact a,by rw[zah hp hk];exact b,?_⟩;rw[zd1 hp hk];exact c
 ·obtain⟨i,hi,e⟩:=h.opt l hl
  exact⟨i,hi,by rw[zah hp (h.snd i hi).1];exact e⟩
structure LQR (V:List PL) (C:List Nat) (cf:Nat) (Ln:List Nat) (i:Nat) (Kp:List Nat):Prop where
 q:QR V C cf (zhp Ln i) (Ln.drop i) Kp
 nd:Ln.Nodup
 up:Kp.Pairwise (· < ·)
theorem LQR.start (h:QR V C cf (fun _=>false) Ln [])(hn:Ln.Nodup):LQR V C cf Ln 0 [] :=
 ⟨h.same (fun x=>by rw[zaq];simp) (fun x=>by rw[zaq];simp) (fun _=>Iff.rfl) (by simp),hn,List.Pairwise.nil⟩
theorem LQR.lt (h:LQR V C cf Ln i Kp):(∀x∈Ln,x<V.length)/\∀x∈Kp,x<V.length :=
 ⟨fun x hx=>(h.q.snd x (by rw[zaq,zc8];exact hx)).1,fun x hx=>(h.q.snd x (.inl (h.q.kp x hx).1)).1⟩
theorem LQR.keep (h:LQR V C cf Ln i Kp)(hx:Ln[i]?=some x)(hr:∀r∈(za5 V x).1,geC (C.getD r 0) cf=false):LQR V C cf Ln (i+1) (putN Kp x):=by
 obtain⟨e1,e2⟩:=zg2 hx;have h1:QR V C cf (zhp Ln i) (Ln.drop (i+1) ++ [x]) Kp:=h.q.same (fun _=>Iff.rfl) (fun y=>by rw[e2];simp only[List.mem_append,List.mem_cons,List.not_mem_nil,or_false];exact or_congr_right or_comm) (fun _=>Iff.rfl) h.q.nodup;have h2:=h1.keep (fun e=>zpy hx h.nd (zaq.1 e)) hr;refine⟨h2.same (fun y=>?_) (fun y=>?_) (fun y=>?_) (zcu (zgx x h.up)),h.nd,zgx x h.up⟩
 ·rw[zan,zaq,zaq,e1];simp
 ·rw[zan,zaq,zaq,e1];simp
 ·rw[zfd];simp
theorem LQR.push (B:BookC V C)(h:LQR V C cf Ln i Kp)(hx:Ln[i]?=some x)(hk:k∈(za5 V x).1)(hg:geC (C.getD k 0) cf=true)(hp:Ln <+: Ln')(hn:Ln'.Nodup)(hm:∀y,y∈Ln'↔y∈Ln∨y∈(za5 V k).2):LQR V C cf Ln' (i+1) Kp:=by
 obtain⟨e1,e2⟩:=zg2 hx;have h1:QR V C cf (zhp Ln i) (Ln.drop (i+1) ++ [x]) Kp:=h.q.same (fun _=>Iff.rfl) (fun y=>by rw[e2];simp only[List.mem_append,List.mem_cons,List.not_mem_nil,or_false];exact or_congr_right or_comm) (fun _=>Iff.rfl) h.q.nodup;have h2:=h1.push B hk hg;have hil:=(List.getElem?_eq_some_iff.1 hx).1;have et:Ln'.take (i+1)=Ln.take (i+1):=by
  obtain⟨t,rfl⟩:=hp;exact List.take_append_of_le_length (by omega)
 have key:∀y,addS (zhp Ln i) x y=true↔y∈Ln.take (i+1):=fun y=>by
  rw[zan,zaq,e1];simp
 refine⟨h2.same (fun y=>?_) (fun y=>?_) (fun _=>Iff.rfl) h.q.nodup,hn,h.up⟩
 ·rw[key,zaq,et]
 ·rw[zaq,zc8,hm,key,List.mem_append,←or_assoc,zc8]
theorem LQR.fin (h:LQR V C cf Ln Ln.length Kp):∃S,QR V C cf S [] Kp:=⟨zhp Ln Ln.length,by
 have h1:=h.q;rw[List.drop_length]at h1;exact h1⟩
theorem QR.node {BV:List Nat}(h:PoolOK V BV)(hx:x<V.length)(hc:∀l∈(za5 V x).2,CanC ((za0 V).getD l 0)):QR V (za0 V) ((za0 V).getD x 0) (fun _=>false) (za5 V x).2 []:=by
 have ho:=(zbb h.book hx).2;refine⟨fun i hi=>?_,by simp,fun i hi=>Bool.noConfusion hi,fun l hl=>?_,by simp⟩
 ·have hi:=hi.resolve_left (by simp)
  exact⟨by have:=(h.opts x _ (za6 hx)).2 i hi;omega,hc i hi,zca ((ho _).2 ⟨i,hi,rfl⟩)⟩
 ·obtain⟨y,hy,e⟩:=(ho l).1 hl
  exact⟨y,.inr hy,by rw[e];exact zcr _⟩
end
theorem zx8 {L R:List Nat}(cs ds:List Nat)(h1:cs.length=L.length)(h2:ds.length=R.length)(hL:∀(j c l:Nat),cs[j]?=some c→L[j]?=some l→IsCan c l)(hR:∀(j c l:Nat),ds[j]?=some c→R[j]?=some l→IsCan c l) :
  geC (mkC cs ds) (mkC L R)=true/\geC (mkC L R) (mkC cs ds)=true:=by
 have fL:∀c∈cs,∃l∈L,IsCan c l:=fun c hc=>by
  obtain⟨j,hj,e⟩:=List.getElem_of_mem hc;have hj':j<L.length:=by omega
  exact⟨L[j],List.getElem_mem hj',hL j c _ (by rw[List.getElem?_eq_getElem hj,e]) (List.getElem?_eq_getElem hj')⟩
 have fR:∀c∈ds,∃l∈R,IsCan c l:=fun c hc=>by
  obtain⟨j,hj,e⟩:=List.getElem_of_mem hc;have hj':j<R.length:=by omega
  exact⟨R[j],List.getElem_mem hj',hR j c _ (by rw[List.getElem?_eq_getElem hj,e]) (List.getElem?_eq_getElem hj')⟩
 have gL:∀l∈L,∃c∈cs,IsCan c l:=fun l hl=>by
  obtain⟨j,hj,e⟩:=List.getElem_of_mem hl;have hj':j<cs.length:=by omega
  exact⟨cs[j],List.getElem_mem hj',hL j _ l (List.getElem?_eq_getElem hj') (by rw[List.getElem?_eq_getElem hj,e])⟩
 have gR:∀l∈R,∃c∈ds,IsCan c l:=fun l hl=>by
  obtain⟨j,hj,e⟩:=List.getElem_of_mem hl;have hj':j<ds.length:=by omega
  exact⟨ds[j],List.getElem_mem hj',hR j _ l (List.getElem?_eq_getElem hj') (by rw[List.getElem?_eq_getElem hj,e])⟩
 refine zn5 (SL:=cs) (SR:=ds) (fun c hc=>?_) (fun c hc=>?_) (fun c hc=>.inl ⟨c,hc,zcr c⟩) (fun c hc=>.inl ⟨c,hc,zcr c⟩) (fun l hl=>?_) (fun l hl=>?_)
 ·obtain⟨l,hl,e⟩:=fL c hc
  exact zb3 e.2.2 (zcy ((zau _ _ _).2 hl))
 ·obtain⟨l,hl,e⟩:=fR c hc
  exact zb5 e.2.1 (zca ((zas _ _ _).2 hl))
 ·obtain⟨c,hc,e⟩:=gL l ((zau _ _ _).1 hl)
  exact⟨c,hc,e.2.1⟩
 ·obtain⟨c,hc,e⟩:=gR l ((zas _ _ _).1 hl)
  exact⟨c,hc,e.2.2⟩
structure OpSt (C:List Nat) (NL:List PL) (ob bb kb:Nat) (w W:World) (lv ov:Value) (Ln Kp K:List Nat):Prop where
 base:∃K0,OrdR w ob bb kb NL K0
 ord:OrdR W ob bb kb NL K
 ok:KOK C NL.length (2*NL.length) K
 fr:Fr (fun q=>q=kb) w W
 rl:W.ownsRow w.heap.size 3 1 lv Ln.length (Ln.map encN)
 ro:Nats W ov Kp
 so:∀q,ov.ownBlock=some q→lv.ownBlock≠some q/\w.heap.size≤q/\q<W.heap.size
section
variable {C:List Nat}{NL:List PL}{ob bb kb x:Nat}{w W W' Wa:World}{lv ov v':Value}{Ln Kp K K':List Nat}
theorem OpSt.kbl (h:OpSt C NL ob bb kb w W lv ov Ln Kp K):kb<w.heap.size:=by
 obtain⟨K0,h0⟩:=h.base;exact(Array.getElem?_eq_some_iff.1 h0.row).1
theorem OpSt.call (h:OpSt C NL ob bb kb w W lv ov Ln Kp K)(ho:OrdR W' ob bb kb NL K')(hk:KOK C NL.length (2*NL.length) K')(hf:Fr (fun q=>q=kb) W W'):OpSt C NL ob bb kb w W' lv ov Ln Kp K':=by
 have hkb:=h.kbl;exact⟨h.base,ho,hk,h.fr.trans hf (fun _ _ q=>q),za2 h.rl hf (fun q hq e=>by have:=(h.rl.lt q hq).1;omega),h.ro.fr hf (fun _ q hq e=>by have:=(h.so q hq).2.1;omega),fun q hq=>⟨(h.so q hq).1,(h.so q hq).2.1,Nat.lt_of_lt_of_le (h.so q hq).2.2 hf.size⟩⟩
theorem OpSt.fr0 (h:OpSt C NL ob bb kb w W lv ov Ln Kp K)(hf:Fr NoM W W'):OpSt C NL ob bb kb w W' lv ov Ln Kp K:=h.call (h.ord.fr0 hf) h.ok hf.any
theorem OpSt.put (h:OpSt C NL ob bb kb w W lv ov Ln Kp K)(hf:Fr NoM W W')(hn:Nats W' v' (putN Kp x))(hb:∀b,v'.ownBlock=some b→ov.ownBlock=some b∨W.heap.size≤b):OpSt C NL ob bb kb w W' lv v' Ln (putN Kp x) K:=by
 have h':=h.fr0 hf;refine⟨h'.base,h'.ord,h'.ok,h'.fr,h'.rl,hn,fun q hq=>?_⟩;rcases hb q hq with e|e
 ·exact h'.so q e
 ·have hne:putN Kp x≠[]:=fun z=>by
   have:=(zfd Kp x x).2 (.inr rfl);rw[z]at this;cases this
  obtain⟨b,e1,e2⟩:=hn.block hne;rw[hq]at e1;cases e1
  exact⟨fun z=>by have:=(h.rl.lt q z).2;omega,by have:=h.fr.size;omega,e2⟩
theorem OpSt.app (h:OpSt C NL ob bb kb w W lv ov Ln Kp K)(ha:Fr NoM W Wa)(ho:W'.ownsRow w.heap.size 3 1 v' (Ln.length+1) (Ln.map encN ++ [x].map encN))(hf:Fr (Own1 lv) Wa W')(hq:v'.ownBlock=lv.ownBlock∨∃b,v'.ownBlock=some b/\Wa.heap.size≤b) :
  OpSt C NL ob bb kb w W' v' ov (Ln ++ [x]) Kp K:=by
 have h:=h.fr0 ha;have hkb:=h.kbl;obtain⟨K0,h0⟩:=h.base;have hfr:Fr (fun q=>q=kb) w W':=h.fr.trans hf (fun q hq e=>by have:=(h.rl.lt q e).1;omega);refine⟨h.base,h0.fr hfr (h.ord.row.fr hf (fun e=>by have:=(h.rl.lt kb e).1;omega)) h.ord.len,h.ok,hfr,by rw[List.length_append,List.map_append];exact ho,h.ro.fr hf (fun _ q hq e=>(h.so q hq).1 e),fun q e=>?_⟩;obtain⟨a,b,c⟩:=h.so q e;refine⟨fun z=>?_,b,Nat.lt_of_lt_of_le c hf.size⟩;rcases hq with h1|⟨b',h1,h2⟩
 ·rw[h1]at z;exact a z
 ·rw[h1]at z;cases z;omega
end
def QB:Bool→List PL→List Nat→Nat→(Nat→Bool)→List Nat→List Nat→Prop
 | true=>QL
 | false=>QR
def zrp (lf:Bool)(C:List Nat)(NL:List PL)(ob bb kb cf:Nat)(w:World)(e:Ending)(w':World):Prop :=
 ∃(v:Value) (Kp K':List Nat),e=.returned v/\Nats w' v Kp/\(∀q,v.ownBlock=some q→w.heap.size≤q/\q<w'.heap.size)/\Kp.Pairwise (· < ·)/\(∀i∈Kp,i<NL.length)/\(∃S,QB lf NL C cf S [] Kp)/\OrdR w' ob bb kb NL K'∧KOK C NL.length (2*NL.length) K'∧Fr (fun q=>q=kb) w w'
theorem zti {Ln Ln2 M:List Nat}{j y:Nat}(h:∀z,z∈Ln2↔z∈Ln∨z∈M.take j)(hy:M[j]?=some y)(hi:y∈Ln2):∀z,z∈Ln2↔z∈Ln∨z∈M.take (j+1):=fun z=>by
 rw[(zg2 hy).1,List.mem_append,List.mem_singleton,←or_assoc,←h z];exact⟨.inl,fun e=>e.elim id (fun e=>e ▸ hi)⟩
theorem zpu {Ln Ln2 M:List Nat}{j y:Nat}(h:∀z,z∈Ln2↔z∈Ln∨z∈M.take j)(hy:M[j]?=some y):∀z,z∈Ln2 ++ [y]↔z∈Ln∨z∈M.take (j+1):=fun z=>by
 rw[(zg2 hy).1,List.mem_append,List.mem_append,List.mem_singleton,←or_assoc,←h z]
theorem zb7 {L:List Nat}{N:Nat}(h:L.Nodup)(hl:∀x∈L,x<N):L.length≤N:=by
 have:=h.length_le_of_subset (fun x hx=>List.mem_range.2 (hl x hx));rwa [List.length_range]at this
set_option maxRecDepth 8000 in
set_option maxHeartbeats 8000000 in
theorem zoq {C:List Nat}{NL:List PL}(B:BookC NL C)(ob bb kb x:Nat)(hN:NL.length<1000)(hx:x<NL.length)(lv:Value)(L K:List Nat)(w:World)(hO:OrdR w ob bb kb NL K)(hK:KOK C NL.length (2*NL.length) K)(hL:Nats w lv L)(hq:QL NL C (C.getD x 0) (fun _=>false) L [])(hn:L.Nodup) :
  Calls Tryz.prog 209 #[.pointer (some ⟨ob,0,none⟩),.int .i64 (x:Int),lv,.bool true] w fun e w'=>zrp true C NL ob bb kb (C.getD x 0) w e w':=by
 have hkb:kb<w.heap.size:=(Array.getElem?_eq_some_iff.1 hO.row).1;have hLN:L.length≤NL.length:=zb7 hn (fun y hy=>(hq.snd y (.inr hy)).1);have HLQ:=Hh (LQL.start hq hn);have HLN:=Hh hLN;obtain⟨bv,hbv,hNb⟩:=hO.nv;obtain⟨na,nc,rfl,_,_,hnn⟩:=hNb;have HNd:=Hh (fun(k:Nat) (hk:k<NL.length) (W:World) (f:Fr (fun q=>q=kb) w W)=>show ∃b1 o1 l,na=some ⟨b1,o1,none⟩/\W.cell? ⟨ob,0,none⟩=some (.pointer (some ⟨bb,0,none⟩))/\W.cell? ⟨bb,0,none⟩=some (.slice na NL.length nc)/\W.cell? ⟨b1,o1+k*2,none⟩=some l/\Nats w l (za5 NL k).1/\((za5 NL k).1≠[]→∀q,l.ownBlock=some q→q≠kb)from by
  obtain⟨b1,o1,l,r,hna,hb1,c1,c2,s1,s2,q1,q2⟩:=hnn _ _ (za6 hk);exact⟨b1,o1,l,hna,f.cell hO.o0 hO.n1,f.cell hbv hO.n2,f.cell c1 hb1,s1,q1⟩)
 have HThr:=Hh (fun(y:Nat) (hy:y<NL.length) (K:List Nat) (W:World) (hO:OrdR W ob bb kb NL K) (hK:KOK C NL.length (2*NL.length) K)=>zk2 B ob bb kb x y hN hx hy (fun z hz=>by have:=(B.opts y _ (za6 hy)).2 z hz;omega) K W hO hK);obtain⟨la,lc,rfl,zz⟩:=id hL;clear zz;have HB:=Hh B;have HN:=Hh hN;have HO:=Hh hO;have HK:=Hh hK;have HL:=Hh hL;have HKb:=Hh hkb;clear hO hK hL hq hn hLN hnn hbv B hN hx hkb;go_enter Tryz.func209,Tryz.ntmps209;go_wp2_with (at_builtin;refine zad (enc:=encN) _ rfl (.tmp 15) (.tmp 16) 63 rfl w.heap.size 3 (.int .i64 0) 8 Tryz.underlying63 za8 rfl (.slice (some ⟨w.heap.size,0,none⟩) 0 0) 0 [] rfl (World.ownsRow_made w #[] 0 (Nat.le_refl _) (by decide) (by simp)) (.slice la L.length lc) rfl L (HL.out.fr0 ((Fr.refl NoM w).alloc _)) (fun _=>rfl) (by have:=HLN.out;have:=HN.out;omega) (by decide) (by rw[World.size_alloc];omega) ?_);intro v1 w1 h1 f1 q1;have hfw:Fr NoM w w1:=((Fr.refl NoM w).alloc _).trans f1 (fun q hq e=>by have e:w.heap.size=q:=Option.some.inj e;omega);obtain⟨w2,hw2⟩:∃w2,w2=w1.alloc (.cells #[] 3):=⟨_,rfl⟩;have hf2:Fr NoM w1 w2:=by rw[hw2];exact(Fr.refl NoM w1).alloc _
 have r2:=NRow.made w1;rw[←hw2]at r2;have hkb:=HKb.out;have hst:OpSt C NL ob bb kb w w2 v1 (.slice (some ⟨w1.heap.size,0,none⟩) 0 0) L [] K :=
  ⟨⟨K,HO.out⟩,HO.out.fr0 (hfw.trans hf2 (fun _ _ q=>q)),HK.out,(hfw.trans hf2 (fun _ _ q=>q)).any,za2 h1 hf2 (fun _ _ q=>q),r2.nats,fun q hq=>by
   have e:w1.heap.size=q:=Option.some.inj hq;refine⟨fun z=>by have:=(h1.lt q z).2;omega,by have:=hfw.size;omega,by rw[←e,hw2];simp⟩⟩
 have HSt:=Hh hst;clear hst h1 f1 q1 hfw hf2 r2 hkb;obtain⟨o1,ho1⟩:∃v,v=Value.slice (some ⟨w1.heap.size,0,none⟩) 0 0:=⟨_,rfl⟩;rw[←ho1]at HSt;go_wp2_with fail;rw[←hw2,←ho1];clear hw2 ho1;go_loopw [9,10,11] (fun v9 v10 t W=>∃(i:Nat) (va vo:Value) (Ln Kp K1:List Nat),va=v9/\vo=v10/\t=.int .i64 i/\i≤Ln.length/\OpSt C NL ob bb kb w W va vo Ln Kp K1/\LQL NL C (C.getD x 0) Ln i Kp) (fun _ _ t _=>NL.length-(intOf t).toNat)
 case atStart=>exact⟨0,_,_,L,[],K,rfl,rfl,rfl,Nat.zero_le _,HSt.out,HLQ.out⟩
 case round =>
  obtain⟨i,va,vo,Ln,Kp,K1,rfl,rfl,rfl,hi,hs,hq⟩:=hrel;obtain⟨wa,rfl⟩:∃w7,w7=wr:=⟨_,rfl⟩;have hLn:Ln.length≤NL.length:=zb7 hq.nd hq.lt.1;have HS:=Hh hs;have HQ:=Hh hq;have HLn:=Hh hLn;obtain⟨ga,gc,rfl,zz⟩:=SliceOf.of_owns hs.rl rfl;clear zz;by_cases hil:i<Ln.length
  ·obtain⟨y,hy⟩:∃y,Ln[i]?=some y:=⟨_,List.getElem?_eq_getElem hil⟩
   have hyl:=hq.lt.1 y (List.mem_of_getElem? hy);obtain⟨_,_,ee,_,_,hcc⟩:=SliceOf.of_owns (enc:=encN) hs.rl rfl;cases ee
   obtain⟨b3,o3,ha3,c3⟩:=hcc i y hy;have HC3:=Hh (fun(W:World) (v:Value) (K2:List Nat) (h:OpSt C NL ob bb kb w W (.slice ga Ln.length gc) v Ln Kp K2)=>show W.cell? ⟨b3,o3+i,none⟩=some (.int .i64 (y:Int))from by
    obtain⟨_,_,ee,_,_,hcc⟩:=SliceOf.of_owns (enc:=encN) h.rl rfl;cases ee
    obtain⟨_,_,e,c⟩:=hcc i y hy;rw[ha3]at e;cases e
    exact c)
   unfold encN at c3;have ix3:=za9 ga Ln.length gc i b3 o3 hil ha3;have hthr:=HThr.out y hyl K1 wa hs.ord hs.ok;obtain⟨res,hres⟩:∃res,res=(za5 NL y).2.find? (gR C x):=⟨_,rfl⟩;rw[←hres]at hthr;have HTh:=Hh hthr;have HRes:=Hh hres;have HY:=Hh hy;have HYl:=Hh hyl;clear hthr hres hy hyl hcc ha3 hs hq hLn;go_wp2_with fail;(with_reducible refine HTh.out.mono ?_);rintro e w8 ⟨rfl,K8,hO8,hK8,f8⟩;have hs8:=HS.out.call hO8 hK8 f8;have HS8:=Hh hs8;have c3:=HC3.out w8 _ _ hs8;clear hO8 hK8 f8 HTh;cases res with
   | none =>
    have hneg:(thrI none)=-1:=rfl;rw[hneg];have hnk:=HQ.out.keep HY.out (by
     have h:=HRes.out;intro r hr;have h1:=(List.find?_eq_none.1 h.symm) r hr;have h2:gR C x r=geC (C.getD x 0) (C.getD r 0):=rfl;rw[h2]at h1;simpa using h1)
    have hkl:Kp.length≤NL.length:=zb7 HQ.out.q.nodup HQ.out.lt.2;have HNk:=Hh hnk;have HKl:=Hh hkl;clear hnk hkl hs8;go_wp2_with fail;(with_reducible refine(zdm _ Kp y w8 HS8.out.ro (by have:=HKl.out;have:=HN.out;omega)).mono ?_);rintro e w9 ⟨v9,rfl,n9,f9,b9⟩;have HS9:=Hh (HS8.out.put f9 n9 b9);clear n9 f9 b9 c3;go_wp2_with fail;go_roundw
    case rel=>exact⟨i+1,_,v9,Ln,putN Kp y,K8,rfl,rfl,by go_num,by omega,HS9.out,HNk.out⟩
    case measure=>have:=HLn.out;simp[intOf];omega
   | some k =>
    have hneg:(thrI (some k))=(k:Int):=rfl;rw[hneg];have hmem:=List.mem_of_find?_eq_some HRes.out.symm
    have hgt:=List.find?_some HRes.out.symm
    have hgt:geC (C.getD x 0) (C.getD k 0)=true:=hgt;have hkl:k<NL.length:=by have:=(HB.out.opts y _ (za6 HYl.out)).2 k hmem;have:=HYl.out;omega
    obtain⟨M,hM⟩:∃M,M=(za5 NL k).1:=⟨_,rfl⟩;have hpush:=fun(Ln':List Nat) (hp:Ln <+: Ln') (hn:Ln'.Nodup) (hm:∀z,z∈Ln'↔z∈Ln∨z∈M)=>HQ.out.push HB.out HY.out hmem hgt hp hn (by rw[←hM];exact hm)
    have hMl:∀z∈M,z<NL.length:=fun z hz=>by rw[hM]at hz;have:=(HB.out.opts k _ (za6 hkl)).1 z hz;omega
    have hMn:M.Nodup:=by rw[hM];exact zcu (HB.out.up k _ (za6 hkl)).1
    have hMm:M.length≤NL.length:=zb7 hMn hMl;obtain⟨b1,o1,ml,hna,j0,j1,j2,jn,jb⟩:=HNd.out k hkl w8 hs8.fr;rw[←hM]at jn jb;have ixk:=zbc na NL.length nc k b1 o1 hkl hna;have hnn:¬((k:Int)<0):=by omega
    obtain⟨ma,mc,rfl,zz⟩:=id jn;clear zz;have HMr:=Hh (fun(W:World) (f:Fr (fun q=>q=kb) w W)=>show Nats W (.slice ma M.length mc) M from jn.fr f jb);have HPu:=Hh hpush;have HMl:=Hh hMl;have HMm:=Hh hMm;have HIl:=Hh hil;clear hmem hgt hM hpush hMl hMn jn jb hs8 hna;have hz9:M.length≤9223372036854775807:=by have:=HN.out;omega
    clear hMm;go_wp2_with fail;clear j0 j1 j2 ixk ix3 c3 hnn hkl;go_loopw [9,14] (fun v9 t W=>∃(j:Nat) (va2:Value) (Ln2:List Nat),va2=v9/\t=.int .i64 j/\j≤M.length/\OpSt C NL ob bb kb w W va2 vo Ln2 Kp K8/\Ln <+: Ln2/\Ln2.Nodup/\∀z,z∈Ln2↔z∈Ln∨z∈M.take j) (fun _ t _=>M.length-(intOf t).toNat)
    case atStart=>exact⟨0,_,Ln,rfl,rfl,Nat.zero_le _,HS8.out,List.prefix_refl _,HQ.out.nd,fun z=>by simp⟩
    case round =>
     obtain⟨j,va2,Ln2,rfl,rfl,hj,hs2,hp2,hn2,hm2⟩:=hrel;obtain⟨w10,rfl⟩:∃w7,w7=wr:=⟨_,rfl⟩;have HS2:=Hh hs2;have HP2:=Hh hp2;have HN2:=Hh hn2;have HM2:=Hh hm2;by_cases hjl:j<M.length
     ·obtain⟨z,hz⟩:∃z,M[j]?=some z:=⟨_,List.getElem?_eq_getElem hjl⟩
      obtain⟨_,_,ee,_,_,hcc⟩:=HMr.out w10 hs2.fr;cases ee
      obtain⟨b4,o4,ha4,c4⟩:=hcc j z hz;unfold encN at c4;have ix4:=za9 ma M.length mc j b4 o4 hjl ha4;have hl2:Ln2.length≤NL.length:=zb7 hn2 (fun y hy=>((hm2 y).1 hy).elim (fun e=>HQ.out.lt.1 y e) (fun e=>HMl.out y (List.mem_of_mem_take e)));have hhas:=zik va2 Ln2 z w10 (SliceOf.of_owns hs2.rl rfl);have HL2:=Hh hl2;have HZ:=Hh hz;by_cases hm:z∈Ln2
      ·rw[decide_eq_true hm]at hhas
       have HHas:=Hh hhas;have HM:=Hh hm;clear hhas hm hz hcc ha4 hl2 hs2 hp2 hn2 hm2;go_wp2_with fail;(with_reducible refine HHas.out.mono ?_);rintro e w11 ⟨rfl,rfl⟩;go_wp2_with fail;go_roundw
       case rel=>exact⟨j+1,_,Ln2,rfl,by go_num,by omega,HS2.out,HP2.out,HN2.out,zti HM2.out HZ.out HM.out⟩
       case measure=>simp[intOf];omega
      ·rw[decide_eq_false hm]at hhas
       have HHas:=Hh hhas;have HM:=Hh hm;clear hhas hm hz hcc ha4 hl2 hs2 hp2 hn2 hm2;go_wp2_with fail;(with_reducible refine HHas.out.mono ?_);rintro e w11 ⟨rfl,rfl⟩;go_wp2_with (at_builtin;refine zad (enc:=encN) _ rfl (.tmp 78) (.tmp 83) 63 rfl w.heap.size 3 (.int .i64 0) 8 Tryz.underlying63 za8 rfl va2 Ln2.length (Ln2.map encN) rfl (HS2.out.fr0 ((Fr.refl NoM w11).alloc _)).rl (.slice (some ⟨w11.heap.size,0,none⟩) 1 1) rfl [z] (SliceOf.one encN w11 z 3) (fun _=>rfl) (by have h1:=HL2.out;have h2:=HN.out;simp only[List.length_singleton];omega) (by decide) (by have:=HS2.out.fr.size;rw[World.size_alloc];omega) ?_);intro v12 w12 h12 f12 q12;have HS12:=Hh (HS2.out.app (x:=z) ((Fr.refl NoM w11).alloc _) h12 f12 (by rw[World.size_alloc];exact q12));clear h12 f12 q12;go_wp2;go_roundw
       case rel=>exact⟨j+1,v12,Ln2 ++ [z],rfl,by go_num,by omega,HS12.out,HP2.out.trans (List.prefix_append _ _),List.nodup_append.2 ⟨HN2.out,by simp,fun a ha b hb e=>HM.out (by rw[List.mem_singleton.1 hb]at e;exact e ▸ ha)⟩,zpu HM2.out HZ.out⟩
       case measure=>simp[intOf];omega
     ·obtain rfl:j=M.length:=by omega
      rw[List.take_length]at hm2;have hq2:=HPu.out Ln2 hp2 hn2 hm2;have hle:=hp2.length_le;have HQ2:=Hh hq2;clear hq2 hs2 hp2 hn2 hm2 hj hjl;go_wp2_with fail;go_roundw
      case rel=>exact⟨i+1,_,vo,Ln2,Kp,K8,rfl,rfl,by go_num,by have:=HIl.out;omega,HS2.out,HQ2.out⟩
      case measure=>have:=HLn.out;have:=HIl.out;simp[intOf];omega
  ·obtain rfl:i=Ln.length:=by omega
   clear hs hq hi hil hLn;go_wp2_with fail;go_ret;exact⟨vo,Kp,K1,rfl,HS.out.ro,fun q hq=>(HS.out.so q hq).2,HQ.out.up,HQ.out.lt.2,HQ.out.fin,HS.out.ord,HS.out.ok,HS.out.fr⟩
set_option maxRecDepth 8000 in
set_option maxHeartbeats 8000000 in
theorem zop {C:List Nat}{NL:List PL}(B:BookC NL C)(ob bb kb x:Nat)(hN:NL.length<1000)(hx:x<NL.length)(lv:Value)(L K:List Nat)(w:World)(hO:OrdR w ob bb kb NL K)(hK:KOK C NL.length (2*NL.length) K)(hL:Nats w lv L)(hq:QR NL C (C.getD x 0) (fun _=>false) L [])(hn:L.Nodup) :
  Calls Tryz.prog 209 #[.pointer (some ⟨ob,0,none⟩),.int .i64 (x:Int),lv,.bool false] w fun e w'=>zrp false C NL ob bb kb (C.getD x 0) w e w':=by
 have hkb:kb<w.heap.size:=(Array.getElem?_eq_some_iff.1 hO.row).1;have hLN:L.length≤NL.length:=zb7 hn (fun y hy=>(hq.snd y (.inr hy)).1);have HLQ:=Hh (LQR.start hq hn);have HLN:=Hh hLN;obtain⟨bv,hbv,hNb⟩:=hO.nv;obtain⟨na,nc,rfl,_,_,hnn⟩:=hNb;have HNd:=Hh (fun(k:Nat) (hk:k<NL.length) (W:World) (f:Fr (fun q=>q=kb) w W)=>show ∃b1 o1 l,na=some ⟨b1,o1,none⟩/\W.cell? ⟨ob,0,none⟩=some (.pointer (some ⟨bb,0,none⟩))/\W.cell? ⟨bb,0,none⟩=some (.slice na NL.length nc)/\W.cell? ⟨b1,o1+k*2+1,none⟩=some l/\Nats w l (za5 NL k).2/\((za5 NL k).2≠[]→∀q,l.ownBlock=some q→q≠kb)/\∃l0,W.cell? ⟨b1,o1+k*2,none⟩=some l0 from by
  obtain⟨b1,o1,l,r,hna,hb1,c1,c2,s1,s2,q1,q2⟩:=hnn _ _ (za6 hk);exact⟨b1,o1,r,hna,f.cell hO.o0 hO.n1,f.cell hbv hO.n2,f.cell c2 hb1,s2,q2,l,f.cell c1 hb1⟩)
 have HThr:=Hh (fun(y:Nat) (hy:y<NL.length) (K:List Nat) (W:World) (hO:OrdR W ob bb kb NL K) (hK:KOK C NL.length (2*NL.length) K)=>zk1 B ob bb kb x y hN hx hy (fun z hz=>by have:=(B.opts y _ (za6 hy)).1 z hz;omega) K W hO hK);obtain⟨la,lc,rfl,zz⟩:=id hL;clear zz;have HB:=Hh B;have HN:=Hh hN;have HO:=Hh hO;have HK:=Hh hK;have HL:=Hh hL;have HKb:=Hh hkb;clear hO hK hL hq hn hLN hnn hbv B hN hx hkb;go_enter Tryz.func209,Tryz.ntmps209;go_wp2_with (at_builtin;refine zad (enc:=encN) _ rfl (.tmp 15) (.tmp 16) 63 rfl w.heap.size 3 (.int .i64 0) 8 Tryz.underlying63 za8 rfl (.slice (some ⟨w.heap.size,0,none⟩) 0 0) 0 [] rfl (World.ownsRow_made w #[] 0 (Nat.le_refl _) (by decide) (by simp)) (.slice la L.length lc) rfl L (HL.out.fr0 ((Fr.refl NoM w).alloc _)) (fun _=>rfl) (by have:=HLN.out;have:=HN.out;omega) (by decide) (by rw[World.size_alloc];omega) ?_);intro v1 w1 h1 f1 q1;have hfw:Fr NoM w w1:=((Fr.refl NoM w).alloc _).trans f1 (fun q hq e=>by have e:w.heap.size=q:=Option.some.inj e;omega);obtain⟨w2,hw2⟩:∃w2,w2=w1.alloc (.cells #[] 3):=⟨_,rfl⟩;have hf2:Fr NoM w1 w2:=by rw[hw2];exact(Fr.refl NoM w1).alloc _
 have r2:=NRow.made w1;rw[←hw2]at r2;have hkb:=HKb.out;have hst:OpSt C NL ob bb kb w w2 v1 (.slice (some ⟨w1.heap.size,0,none⟩) 0 0) L [] K :=
  ⟨⟨K,HO.out⟩,HO.out.fr0 (hfw.trans hf2 (fun _ _ q=>q)),HK.out,(hfw.trans hf2 (fun _ _ q=>q)).any,za2 h1 hf2 (fun _ _ q=>q),r2.nats,fun q hq=>by
   have e:w1.heap.size=q:=Option.some.inj hq;refine⟨fun z=>by have:=(h1.lt q z).2;omega,by have:=hfw.size;omega,by rw[←e,hw2];simp⟩⟩
 have HSt:=Hh hst;clear hst h1 f1 q1 hfw hf2 r2 hkb;obtain⟨o1,ho1⟩:∃v,v=Value.slice (some ⟨w1.heap.size,0,none⟩) 0 0:=⟨_,rfl⟩;rw[←ho1]at HSt;go_wp2_with fail;rw[←hw2,←ho1];clear hw2 ho1;go_loopw [9,10,11] (fun v9 v10 t W=>∃(i:Nat) (va vo:Value) (Ln Kp K1:List Nat),va=v9/\vo=v10/\t=.int .i64 i/\i≤Ln.length/\OpSt C NL ob bb kb w W va vo Ln Kp K1/\LQR NL C (C.getD x 0) Ln i Kp) (fun _ _ t _=>NL.length-(intOf t).toNat)
 case atStart=>exact⟨0,_,_,L,[],K,rfl,rfl,rfl,Nat.zero_le _,HSt.out,HLQ.out⟩
 case round =>
  obtain⟨i,va,vo,Ln,Kp,K1,rfl,rfl,rfl,hi,hs,hq⟩:=hrel;obtain⟨wa,rfl⟩:∃w7,w7=wr:=⟨_,rfl⟩;have hLn:Ln.length≤NL.length:=zb7 hq.nd hq.lt.1;have HS:=Hh hs;have HQ:=Hh hq;have HLn:=Hh hLn;obtain⟨ga,gc,rfl,zz⟩:=SliceOf.of_owns hs.rl rfl;clear zz;by_cases hil:i<Ln.length
  ·obtain⟨y,hy⟩:∃y,Ln[i]?=some y:=⟨_,List.getElem?_eq_getElem hil⟩
   have hyl:=hq.lt.1 y (List.mem_of_getElem? hy);obtain⟨_,_,ee,_,_,hcc⟩:=SliceOf.of_owns (enc:=encN) hs.rl rfl;cases ee
   obtain⟨b3,o3,ha3,c3⟩:=hcc i y hy;have HC3:=Hh (fun(W:World) (v:Value) (K2:List Nat) (h:OpSt C NL ob bb kb w W (.slice ga Ln.length gc) v Ln Kp K2)=>show W.cell? ⟨b3,o3+i,none⟩=some (.int .i64 (y:Int))from by
    obtain⟨_,_,ee,_,_,hcc⟩:=SliceOf.of_owns (enc:=encN) h.rl rfl;cases ee
    obtain⟨_,_,e,c⟩:=hcc i y hy;rw[ha3]at e;cases e
    exact c)
   unfold encN at c3;have ix3:=za9 ga Ln.length gc i b3 o3 hil ha3;have hthr:=HThr.out y hyl K1 wa hs.ord hs.ok;obtain⟨res,hres⟩:∃res,res=(za5 NL y).1.find? (gL C x):=⟨_,rfl⟩;rw[←hres]at hthr;have HTh:=Hh hthr;have HRes:=Hh hres;have HY:=Hh hy;have HYl:=Hh hyl;clear hthr hres hy hyl hcc ha3 hs hq hLn;go_wp2_with fail;(with_reducible refine HTh.out.mono ?_);rintro e w8 ⟨rfl,K8,hO8,hK8,f8⟩;have hs8:=HS.out.call hO8 hK8 f8;have HS8:=Hh hs8;have c3:=HC3.out w8 _ _ hs8;clear hO8 hK8 f8 HTh;cases res with
   | none =>
    have hneg:(thrI none)=-1:=rfl;rw[hneg];have hnk:=HQ.out.keep HY.out (by
     have h:=HRes.out;intro r hr;have h1:=(List.find?_eq_none.1 h.symm) r hr;have h2:gL C x r=geC (C.getD r 0) (C.getD x 0):=rfl;rw[h2]at h1;simpa using h1)
    have hkl:Kp.length≤NL.length:=zb7 HQ.out.q.nodup HQ.out.lt.2;have HNk:=Hh hnk;have HKl:=Hh hkl;clear hnk hkl hs8;go_wp2_with fail;(with_reducible refine(zdm _ Kp y w8 HS8.out.ro (by have:=HKl.out;have:=HN.out;omega)).mono ?_);rintro e w9 ⟨v9,rfl,n9,f9,b9⟩;have HS9:=Hh (HS8.out.put f9 n9 b9);clear n9 f9 b9 c3;go_wp2_with fail;go_roundw
    case rel=>exact⟨i+1,_,v9,Ln,putN Kp y,K8,rfl,rfl,by go_num,by omega,HS9.out,HNk.out⟩
    case measure=>have:=HLn.out;simp[intOf];omega
   | some k =>
    have hneg:(thrI (some k))=(k:Int):=rfl;rw[hneg];have hmem:=List.mem_of_find?_eq_some HRes.out.symm
    have hgt:=List.find?_some HRes.out.symm
    have hgt:geC (C.getD k 0) (C.getD x 0)=true:=hgt;have hkl:k<NL.length:=by have:=(HB.out.opts y _ (za6 HYl.out)).1 k hmem;have:=HYl.out;omega
    obtain⟨M,hM⟩:∃M,M=(za5 NL k).2:=⟨_,rfl⟩;have hpush:=fun(Ln':List Nat) (hp:Ln <+: Ln') (hn:Ln'.Nodup) (hm:∀z,z∈Ln'↔z∈Ln∨z∈M)=>HQ.out.push HB.out HY.out hmem hgt hp hn (by rw[←hM];exact hm)
    have hMl:∀z∈M,z<NL.length:=fun z hz=>by rw[hM]at hz;have:=(HB.out.opts k _ (za6 hkl)).2 z hz;omega
    have hMn:M.Nodup:=by rw[hM];exact zcu (HB.out.up k _ (za6 hkl)).2
    have hMm:M.length≤NL.length:=zb7 hMn hMl;obtain⟨b1,o1,ml,hna,j0,j1,j2,jn,jb,l0,j3⟩:=HNd.out k hkl w8 hs8.fr;rw[←hM]at jn jb;have ixk:=zbc na NL.length nc k b1 o1 hkl hna;have hnn:¬((k:Int)<0):=by omega
    obtain⟨ma,mc,rfl,zz⟩:=id jn;clear zz;have HMr:=Hh (fun(W:World) (f:Fr (fun q=>q=kb) w W)=>show Nats W (.slice ma M.length mc) M from jn.fr f jb);have HPu:=Hh hpush;have HMl:=Hh hMl;have HMm:=Hh hMm;have HIl:=Hh hil;clear hmem hgt hM hpush hMl hMn jn jb hs8 hna;have hz9:M.length≤9223372036854775807:=by have:=HN.out;omega
    clear hMm;go_wp2_with fail;clear j0 j1 j2 j3 ixk ix3 c3 hnn hkl;go_loopw [9,14] (fun v9 t W=>∃(j:Nat) (va2:Value) (Ln2:List Nat),va2=v9/\t=.int .i64 j/\j≤M.length/\OpSt C NL ob bb kb w W va2 vo Ln2 Kp K8/\Ln <+: Ln2/\Ln2.Nodup/\∀z,z∈Ln2↔z∈Ln∨z∈M.take j) (fun _ t _=>M.length-(intOf t).toNat)
    case atStart=>exact⟨0,_,Ln,rfl,rfl,Nat.zero_le _,HS8.out,List.prefix_refl _,HQ.out.nd,fun z=>by simp⟩
    case round =>
     obtain⟨j,va2,Ln2,rfl,rfl,hj,hs2,hp2,hn2,hm2⟩:=hrel;obtain⟨w10,rfl⟩:∃w7,w7=wr:=⟨_,rfl⟩;have HS2:=Hh hs2;have HP2:=Hh hp2;have HN2:=Hh hn2;have HM2:=Hh hm2;by_cases hjl:j<M.length
     ·obtain⟨z,hz⟩:∃z,M[j]?=some z:=⟨_,List.getElem?_eq_getElem hjl⟩
      obtain⟨_,_,ee,_,_,hcc⟩:=HMr.out w10 hs2.fr;cases ee
      obtain⟨b4,o4,ha4,c4⟩:=hcc j z hz;unfold encN at c4;have ix4:=za9 ma M.length mc j b4 o4 hjl ha4;have hl2:Ln2.length≤NL.length:=zb7 hn2 (fun y hy=>((hm2 y).1 hy).elim (fun e=>HQ.out.lt.1 y e) (fun e=>HMl.out y (List.mem_of_mem_take e)));have hhas:=zik va2 Ln2 z w10 (SliceOf.of_owns hs2.rl rfl);have HL2:=Hh hl2;have HZ:=Hh hz;by_cases hm:z∈Ln2
      ·rw[decide_eq_true hm]at hhas
       have HHas:=Hh hhas;have HM:=Hh hm;clear hhas hm hz hcc ha4 hl2 hs2 hp2 hn2 hm2;go_wp2_with fail;(with_reducible refine HHas.out.mono ?_);rintro e w11 ⟨rfl,rfl⟩;go_wp2_with fail;go_roundw
       case rel=>exact⟨j+1,_,Ln2,rfl,by go_num,by omega,HS2.out,HP2.out,HN2.out,zti HM2.out HZ.out HM.out⟩
       case measure=>simp[intOf];omega
      ·rw[decide_eq_false hm]at hhas
       have HHas:=Hh hhas;have HM:=Hh hm;clear hhas hm hz hcc ha4 hl2 hs2 hp2 hn2 hm2;go_wp2_with fail;(with_reducible refine HHas.out.mono ?_);rintro e w11 ⟨rfl,rfl⟩;go_wp2_with (at_builtin;refine zad (enc:=encN) _ rfl (.tmp 78) (.tmp 83) 63 rfl w.heap.size 3 (.int .i64 0) 8 Tryz.underlying63 za8 rfl va2 Ln2.length (Ln2.map encN) rfl (HS2.out.fr0 ((Fr.refl NoM w11).alloc _)).rl (.slice (some ⟨w11.heap.size,0,none⟩) 1 1) rfl [z] (SliceOf.one encN w11 z 3) (fun _=>rfl) (by have h1:=HL2.out;have h2:=HN.out;simp only[List.length_singleton];omega) (by decide) (by have:=HS2.out.fr.size;rw[World.size_alloc];omega) ?_);intro v12 w12 h12 f12 q12;have HS12:=Hh (HS2.out.app (x:=z) ((Fr.refl NoM w11).alloc _) h12 f12 (by rw[World.size_alloc];exact q12));clear h12 f12 q12;go_wp2;go_roundw
       case rel=>exact⟨j+1,v12,Ln2 ++ [z],rfl,by go_num,by omega,HS12.out,HP2.out.trans (List.prefix_append _ _),List.nodup_append.2 ⟨HN2.out,by simp,fun a ha b hb e=>HM.out (by rw[List.mem_singleton.1 hb]at e;exact e ▸ ha)⟩,zpu HM2.out HZ.out⟩
       case measure=>simp[intOf];omega
     ·obtain rfl:j=M.length:=by omega
      rw[List.take_length]at hm2;have hq2:=HPu.out Ln2 hp2 hn2 hm2;have hle:=hp2.length_le;have HQ2:=Hh hq2;clear hq2 hs2 hp2 hn2 hm2 hj hjl;go_wp2_with fail;go_roundw
      case rel=>exact⟨i+1,_,vo,Ln2,Kp,K8,rfl,rfl,by go_num,by have:=HIl.out;omega,HS2.out,HQ2.out⟩
      case measure=>have:=HLn.out;have:=HIl.out;simp[intOf];omega
  ·obtain rfl:i=Ln.length:=by omega
   clear hs hq hi hil hLn;go_wp2_with fail;go_ret;exact⟨vo,Kp,K1,rfl,HS.out.ro,fun q hq=>(HS.out.so q hq).2,HQ.out.up,HQ.out.lt.2,HQ.out.fin,HS.out.ord,HS.out.ok,HS.out.fr⟩
end Go.Proofs.YtcalpapdkmnblaaGreatDoor
