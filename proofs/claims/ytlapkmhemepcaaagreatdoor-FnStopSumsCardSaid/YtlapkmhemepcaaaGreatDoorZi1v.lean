import Derived.Test.YtlapkmhemepcaaaGreatDoorZi16
import Derived.Test.YtlapkmhemepcaaaGreatDoorZi1u
/- Lemmas. -/
set_option linter.all false
set_option maxHeartbeats 8000000
set_option maxRecDepth 4000
namespace Go.Proofs.YtlapkmhemepcaaaGreatDoor
open Go.RowKit
theorem yeg {M I:Nat->Prop}(pb sb:Nat)(mo mc mn:Value)(V:List PL)(BV:List Nat)(r1 r2:Nat)(W:World)(hP:PoolS M I W pb V BV mo mc (.map (some sb)) mn)(hOK:PoolOK V BV)(hmap:MapF encP encN W sb (λ_=>none))(hM:∀q,M q->q<W.heap.size/\q≠sb)(hI:∀q,I q->q<W.heap.size/\q≠sb)
  (h1:r1<V.length) (h2:r2<V.length) (hn:V.length<=240) :
  Calls Tryz.prog 118 #[.pointer (some ⟨pb,0,none⟩),.int .i64 (r1:Int),.int .i64 (r2:Int)] W λe w'=>ydz (sumU (za0 V)) pb sb mo mc mn W V M I (sumC ((za0 V).getD r1 0) ((za0 V).getD r2 0)) e w' :=
 yhh (U:=sumU (za0 V)) (by rw[zvz,za2];have:=Nat.mul_le_mul hn hn;omega) pb sb mo mc mn _ r1 r2 (vK _) V BV M I _ W
  ⟨hP,hOK,λx hx=>y8 _ (zbk (by rw[za2];exact hx)),hmap,SumMO.none V,hM,hI⟩ h1 h2 (λa b ha hb=>yfn (zh3 hOK h1 ha) (zh3 hOK h2 hb))
theorem zz9 {R S:Nat->Prop}(v1 v2:Value)(Fi Gi:List (List Int × List Int))(w:World)(h1:NodeL R encI w v1 Fi)(h2:NodeL S encI w v2 Gi)(p:Bool)(hp:p=true↔zar Fi/\zar Gi/\Fi.length*Gi.length<=1600) : Calls Tryz.prog 117 #[.agg #[v1],.agg #[v2]] w λe w'=>e=.returned (.bool p)/\Fr NoM w w':=by(obtain⟨g1,hg1⟩:=zn8 Fi;obtain⟨g2,hg2⟩:=zn8 Gi;obtain⟨w1,hw1⟩:=eX ((w.alloc (.cells #[v1] 26)).alloc (.cells #[v2] 26));have f1:Fr NoM w w1:=by rw[hw1];exact((nW w).alloc _).alloc _);(have e0:w1.heap[w.heap.size]?=some (.cells #[v1] 26 (0,0)):=by rw[hw1];exact((nW _).alloc _).heap (xJ w _) id);have e1:w1.heap[w.heap.size+1]?=some (.cells #[v2] 26 (0,0)):=by{have h:=xJ (w.alloc (.cells #[v1] 26)) (.cells #[v2] 26);rw[xZ]at h;rw[hw1];exact h};have HK:=Hh (λW (f:Fr NoM w1 W)=>show W.cell? ⟨w.heap.size,0,none⟩=some v1/\W.cell? ⟨w.heap.size+1,0,none⟩=some v2 from by{have h0:=f.heap e0 id;have h1:=f.heap e1 id;exact⟨by rw[xX W _ 0 _ _ _ h0];rfl,by rw[xX W _ 0 _ _ _ h1];rfl⟩});have HG1:=Hh (zc5 v1 Fi w1 (h1.fr0 f1) g1 hg1);have HG2:=Hh (λW (f:Fr NoM w1 W)=>zc5 v2 Gi W ((h2.fr0 f1).fr0 f) g2 hg2);have HP:=Hh hp;have H1:=Hh hg1;have H2:=Hh hg2;have F1:=Hh f1;obtain⟨a1,c1,rfl,z⟩:=id h1;clear z;obtain⟨a2,c2,rfl,z⟩:=id h2;clear z h1 h2 f1 e0 e1 hp hg1 hg2;obtain⟨k0,k1⟩:=HK.out w1 (Fr.refl _ _);go_enter Tryz.func117,Tryz.ntmps117;go_wp2_with fail;rw[<-hw1];clear hw1;refine HG1.out.mono ?_;rintro e w2 ⟨rfl,f2⟩;have F2:=Hh f2;clear f2 k0 k1;obtain⟨k0,k1⟩:=HK.out w2 F2.out;cases g1 with| false =>{have hpf:p=false:=by{cases p with| false=>rfl| true=>exact absurd (H1.out.2 (HP.out.1 rfl).1) (by simp)};subst hpf;go_wp2;go_ret;exact⟨rfl,F1.out.trans F2.out (λ_ _ q=>q)⟩}| true =>{have HGd1:=Hh (H1.out.1 rfl);go_wp2_with fail;refine(HG2.out w2 F2.out).mono ?_;rintro e w3 ⟨rfl,f3⟩;have F3:=Hh (F2.out.trans f3 (λ_ _ q=>q));clear f3 k0 k1;obtain⟨k0,k1⟩:=HK.out w3 F3.out;cases g2 with| false =>{have hpf:p=false:=by{cases p with| false=>rfl| true=>exact absurd (H2.out.2 (HP.out.1 rfl).2.1) (by simp)};subst hpf;go_wp2;go_ret;exact⟨rfl,F1.out.trans F3.out (λ_ _ q=>q)⟩}| true =>{(have hgd1:=HGd1.out;have hgd2:=H2.out.1 rfl;have hl1:Fi.length<=120:=by have h:=hgd1.1;unfold zax at h;rw[kJ]at h;exact h.1);(have hl2:Gi.length<=120:=by have h:=hgd2.1;unfold zax at h;rw[kJ]at h;exact h.1);obtain⟨m,hm⟩:=eX (Fi.length*Gi.length);have hmb:m<=14400:=by{have:=Nat.mul_le_mul hl1 hl2;omega};(have hmm:(Fi.length:Int)*(Gi.length:Int)=(m:Int):=by rw[hm];exact(Int.natCast_mul _ _).symm);have hpe:p=decide (m<=1600):=by{have h:p=true↔m<=1600:=by{rw[HP.out,hm];exact⟨λh=>h.2.2,λh=>⟨hgd1,hgd2,h⟩⟩};cases p with| true=>exact(vX (h.1 rfl)).symm| false=>exact(vY (λq=>by cases h.2 q)).symm};have HPe:=Hh hpe;clear hgd1 hgd2 hm hpe;by_cases hc:m<=1600;{(have hpt:p=true:=by rw[HPe.out];exact vX hc);(subst hpt;have hci:(m:Int)<=1600:=by omega);clear hc;go_wp2;go_ret;exact⟨by simp[hci],F1.out.trans F3.out (λ_ _ q=>q)⟩};{(have hpt:p=false:=by rw[HPe.out];exact vY hc);(subst hpt;have hci:¬(m:Int)<=1600:=by omega);clear hc;go_wp2;go_ret;exact⟨by simp[hci],F1.out.trans F3.out (λ_ _ q=>q)⟩}}}
theorem zr0 {R S:Nat->Prop}(v1 v2:Value)(Fi Gi:List (List Int × List Int))(w:World)(h1:NodeL R encI w v1 Fi)(h2:NodeL S encI w v2 Gi)(ok:Bool)(hok:ok=znk Fi Gi) :
  Calls Tryz.prog 68 #[.agg #[v1],.agg #[v2]] w λe w'=>∃v',e=.returned (.tuple #[.agg #[v'],.bool ok])/\NodesS w.heap.size w' v' (if ok=true then sumN (natF Fi) (natF Gi)else [])/\Fr NoM w w':=by
 obtain⟨p,hp,hpo⟩:=zxd Fi Gi;rw[hpo]at hok;obtain⟨w1,hw1⟩:=eX (((w.alloc (.cells #[v1] 26)).alloc (.cells #[v2] 26)).alloc (.cells #[.slice none 0 0] 26));have f1:Fr NoM w w1:=by rw[hw1];exact(((nW w).alloc _).alloc _).alloc _
 have hs1:w1.heap.size=w.heap.size+3:=by rw[hw1];simp
 have e0:w1.heap[w.heap.size]?=some (.cells #[v1] 26 (0,0)):=by rw[hw1];exact(((nW _).alloc _).alloc _).heap (xJ w _) id
 have e1:w1.heap[w.heap.size+1]?=some (.cells #[v2] 26 (0,0)):=by
  have h:=xJ (w.alloc (.cells #[v1] 26)) (.cells #[v2] 26);rw[xZ]at h;rw[hw1];exact((nW _).alloc _).heap h id
 have e2:w1.heap[w.heap.size+1+1]?=some (.cells #[.slice none 0 0] 26 (0,0)):=by
  have h:=xJ ((w.alloc (.cells #[v1] 26)).alloc (.cells #[v2] 26)) (.cells #[.slice none 0 0] 26);rw[xZ,xZ]at h;rw[hw1];exact h
 have HK:=Hh (λW (f:Fr NoM w1 W)=>show W.cell? ⟨w.heap.size,0,none⟩=some v1/\W.cell? ⟨w.heap.size+1,0,none⟩=some v2/\W.cell? ⟨w.heap.size+1+1,0,none⟩=some (.slice none 0 0)/\W.frozen? ⟨w.heap.size+1+1,0,none⟩=false from by
  have h0:=f.heap e0 id;have h1:=f.heap e1 id;have h2:=f.heap e2 id;exact⟨by rw[xX W _ 0 _ _ _ h0];rfl,by rw[xX W _ 0 _ _ _ h1];rfl,by rw[xX W _ 0 _ _ _ h2];rfl,by simp[World.frozen?,h2]⟩)
 have HPr:=Hh (zz9 v1 v2 Fi Gi w1 (h1.fr0 f1) (h2.fr0 f1) p hp);have HN1:=Hh (λW (f:Fr NoM w1 W)=>((h1.low.fr0 f1).fr0 f:NodeL (· < w.heap.size) encI W v1 Fi));have HN2:=Hh (λW (f:Fr NoM w1 W)=>((h2.low.fr0 f1).fr0 f:NodeL (· < w.heap.size) encI W v2 Gi));have HP:=Hh hp;have HOk:=Hh hok;have F1:=Hh f1;have HS1:=Hh hs1;obtain⟨a1,c1,rfl,z⟩:=id h1;clear z;obtain⟨a2,c2,rfl,z⟩:=id h2;clear z h1 h2 f1 hs1 e0 e1 e2 hp hok hpo;obtain⟨k0,k1,k2,k3⟩:=HK.out w1 (Fr.refl _ _);go_enter Tryz.func68,Tryz.ntmps68;go_wp2_with fail;rw[<-hw1];clear hw1;refine HPr.out.mono ?_
 rintro e w2 ⟨rfl,f2⟩;have F2:=Hh f2;clear f2 k0 k1 k2 k3;obtain⟨k0,k1,k2,k3⟩:=HK.out w2 F2.out;cases p with
 | false =>
  have hk:ok=false:=by rw[HOk.out];rfl
  subst hk;go_wp2;refine yY (v:=.tuple #[.agg #[.slice none 0 0],.bool false]) (by simp[results,Tryz.results68,go_sem,k2]) rfl ?_
  exact⟨_,rfl,NodesS.nil _ _,(F1.out.trans F2.out (λ_ _ q=>q)).setCell _ _ (λh=>by have h:w.heap.size+1+1<w.heap.size:=h;omega)⟩
 | true =>
  obtain⟨hg1,hg2,hm⟩:=HP.out.1 rfl;obtain⟨Fs,rfl⟩:=zc4 hg1;obtain⟨Gs,rfl⟩:=zc4 hg2;go_wp2_with fail;refine(zdz w2).mono ?_
  rintro e w3 ⟨rfl,hp3,hmaps,f3⟩;obtain⟨pb,hpb⟩:=eX (w2.heap.size+5);obtain⟨sb,hsb⟩:=eX (w2.heap.size+3);have hmap:=hmaps 3 (by omega);rw[<-hsb]at hmap hp3;rw[<-hpb]at hp3 ⊢;obtain⟨mo,hmo⟩:=eX (Value.map (some (w2.heap.size+1)));obtain⟨mc,hmc⟩:=eX (Value.map (some (w2.heap.size+2)));obtain⟨mn,hmn⟩:=eX (Value.map (some (w2.heap.size+4)));rw[<-hmo,<-hmc,<-hmn]at hp3;clear hmaps hmo hmc hmn;have hsbl:sb<w3.heap.size:=(yJ.1 hmap).1;have hw12:w.heap.size+3<=w2.heap.size:=by have:=F2.out.size;have:=HS1.out;omega
  have hf13:=F2.out.trans f3 (λ_ _ q=>q);have HMp:=Hh (show MapF encP encN w3 sb (λ_=>none)from⟨#[],0,hmap,by simp,by simp,by simp⟩);have hp0:=hp3.low
  -- the blocks of the pool are its own
  have HMge:=Hh (show ∀q,(λq=>(q=w2.heap.size\/q=pb)/\q<w3.heap.size) q->w2.heap.size<=q/\q≠sb from λq hq=>by
   rcases hq.1 with e|e <;> omega)
  have K0:Fr NoM w3 w3.drew:=(nW w3).drew;have hr1:=zg6 pb (.slice a1 (i2 Fs).length c1) [] Fs [] mo mc (.map (some sb)) mn w3.drew (hp0.fr0 K0) (λq hq=>by rw[World.size_drew];exact hq.2) (λq hq=>by rw[World.size_drew];exact hq.2) PoolOK.nil (HN1.out w3.drew (hf13.trans K0 (λ_ _ q=>q))).ofI (λk hk hm=>by have:=(HMge.out k hm).1;have hk:k<w.heap.size:=hk;omega) hg1 (by simp);obtain⟨M3,hM3⟩:∃M3:Nat->Prop,M3=λq=>(q=w2.heap.size\/q=pb)/\q<w3.heap.size:=⟨_,rfl⟩
  obtain⟨I3,hI3⟩:∃I3:Nat->Prop,I3=λq=>NoM q/\q<w3.heap.size:=⟨_,rfl⟩
  have HMge:=Hh (show ∀q,M3 q->w2.heap.size<=q/\q≠sb from by rw[hM3];exact HMge.out);have HIno:=Hh (show ∀q,¬I3 q from by rw[hI3];exact λq h=>h.1);rw[<-hM3,<-hI3]at hr1;have HRt1:=Hh hr1
  -- what stands in memory behind the pool's own calls
  have HIn:=Hh (λW (f:Fr (λq=>M3 q\/q=sb) w3 W)=>(hf13.trans f (λq hq h=>by
   have h2:=F2.out.size;rcases h with h|h
   ·have:=(HMge.out q h).1;omega
   ·omega):Fr NoM w1 W))
  have hRt2:=λ(W:World) (V:List PL) (BV:List Nat) (M I:Nat->Prop) (f:Fr M3 w3 W) (hP:PoolS M I W pb V BV mo mc (.map (some sb)) mn) (hOK:PoolOK V BV) (hM:∀q,M q->(M3 q\/w3.heap.size<=q)/\q<W.heap.size) (hI:∀q,I q->(I3 q\/w3.heap.size<=q)/\q<W.heap.size) (hn:V.length<1000000) =>
   zg6 pb (.slice a2 (i2 Gs).length c2) V Gs BV mo mc (.map (some sb)) mn W hP (λq hq=>(hM q hq).2) (λq hq=>(hI q hq).2) hOK (HN2.out W (HIn.out W (f.mono (λ_ _ q=>.inl q)))).ofI (λk hk hm=>by
    have hk:k<w.heap.size:=hk;have h3:=f3.size;rcases (hM k hm).1 with h|h
    ·have:=(HMge.out k h).1;omega
    ·omega) hg2 hn
  have HRt2:=Hh hRt2;have hFl:Fs.length<=120:=by have h:=hg1.1;unfold zax at h;rw[kJ,zb9]at h;exact h.1
  have hGl:Gs.length<=120:=by have h:=hg2.1;unfold zax at h;rw[kJ,zb9]at h;exact h.1
  have HFl:=Hh (And.intro hFl hGl);obtain⟨FN,hFN⟩:=eX (sumN Fs Gs);have hok':ok=zax FN:=by rw[HOk.out,zbc,zbc,hFN];rfl
  have HOk':=Hh hok';have HFN:=Hh hFN;have HSb:=Hh hsbl;have HW12:=Hh hw12;have F13:=Hh hf13;have F23:=Hh f3;clear k0 k1 k2 k3;obtain⟨k0,k1,k2,k3⟩:=HK.out w3 hf13;have C0:w3.drew.cell? ⟨w.heap.size,0,none⟩=some (.slice a1 (i2 Fs).length c1):=K0.cell k0 id;have C1:w3.drew.cell? ⟨w.heap.size+1,0,none⟩=some (.slice a2 (i2 Gs).length c2):=K0.cell k1 id;clear hp3 hmap hpb hsb hsbl hw12 hf13 hp0 hr1 hM3 hI3 hRt2 hFl hGl hok' hFN f3 hg1 hg2 hm k2 k3;go_upto_region 4 with fail;go_region_law (first
   | (go_simp;first
    | (go_at_call 59;(with_reducible refine HRt1.out.mono ?_);rintro e wa ⟨r1,V1,B1,M1,I1,rfl,pa,oa,va,ra,ca,ua,ma,ia,fa⟩;have ka:Fr M3 w3 wa:=K0.any.trans fa (λ_ _ q=>q);obtain⟨j0,j1,j2,j3⟩:=HK.out wa (HIn.out wa (ka.mono (λ_ _ q=>.inl q)));(try simp only[World.size_drew]at ma ia);have lv1:V1.length<=120:=by { have h1:=zde oa ua;have h2:=HFl.out;simp[za2,za0]at h1;have h3:=za2 Fs;unfold za0 at h3;omega })
    | (go_at_call 59;(with_reducible refine(HRt2.out wa V1 B1 M1 I1 ka pa oa ma ia (by omega)).mono ?_);rintro e wb ⟨r2,V2,B2,M2,I2,rfl,pb2,ob,vb,rb,cb,ub,mb,ib,fb⟩;have kb:Fr M3 w3 wb:=ka.trans fb (λq hq h=>(ma q h).1.elim id (λz=>by omega));have ca':(za0 V2).getD r1 0=zaf Fs:=by { rw[zap vb ra];exact ca };have la:=vb.length_le;have lv2:V2.length<=240:=by { have h1:=zde ob ub;have h2:=HFl.out;rw[yZ,za2,za2]at h1;omega };have HSum:=Hh (yeg pb sb mo mc mn V2 B2 r1 r2 wb pb2 ob (HMp.out.fr kb (λh=>(HMge.out _ h).2 rfl)) (λq hq=>⟨(mb q hq).2,λe=>by { have hs:=HSb.out;have hz:=ka.size;rcases (mb q hq).1 with h|h;{ rcases (ma q h).1 with h|h;{ exact(HMge.out q h).2 e };{ omega } };{ omega } }⟩) (λq hq=>⟨(ib q hq).2,λe=>by { have hs:=HSb.out;have hz:=ka.size;rcases (ib q hq).1 with h|h;{ rcases (ia q h).1 with h|h;{ exact HIno.out q h };{ omega } };{ omega } }⟩) (by omega) rb lv2))
    | (go_at_call 118;(with_reducible refine HSum.out.mono ?_);rintro e wc ⟨i,V3,B3,M4,I4,ff,rfl,st,nx,hi,hci⟩;have kc:Fr (λq=>M3 q\/q=sb) w3 wc:=(kb.mono (λ_ _ q=>.inl q)).trans nx.fr (λq hq h=>h.elim (λh=>by { have hz:=ka.size;rcases (mb q h).1 with h|h;{ rcases (ma q h).1 with h|h;{ exact .inl h };{ omega } };{ omega } }) .inr);rw[ca',cb]at hci;have hfo:=zea st.ok hi hci;have hln:=st.len;rw[zvz,za2]at hln;have hsq:=Nat.mul_le_mul lv2 lv2)
    | (go_at_call 57;(with_reducible refine(zk2 pb i V3 B3 mo mc (.map (some sb)) mn wc st.pool st.ok hi (by omega)).mono ?_);rintro e wd ⟨nv,okf,FR,rfl,hres,hns,f8⟩;obtain⟨an,cn,rfl,zz⟩:=id hns.nodeL;clear zz;have kd:Fr NoM w1 wd:=HIn.out wd (kc.trans f8 (λ_ _ q=>q.elim));obtain⟨_,_,r13a,r13b⟩:=HK.out wd kd)
    | fail)
   | fail)
  all_goals
   obtain⟨h1,h2⟩:=FormRes.is st.ok hi hres;rw[hfo]at h1 h2;rw[show zad (sumC (zaf Fs) (zaf Gs))=FN from HFN.out.symm]at h1 h2;rw[<-HOk'.out]at h1;have HNs:=Hh hns;have KD:=Hh kd;have HZf:=Hh (show w.heap.size+3<=wc.heap.size from by have:=kc.size;have:=F23.out.size;have:=HW12.out;omega);clear hns kd kc f8 st nx hi hci hfo hln hsq hres kb ka fa fb ma ia mb ib pa pb2 oa ob;subst h1;cases okf with
   | true =>
    have eF:FR=FN:=by simpa using h2
    have HFR:=Hh eF;clear h2 eF;go_wp2_with fail;refine yY (v:=.tuple #[.agg #[.slice an FR.length cn],.bool true]) (by simp[results,Tryz.results68,go_sem,r13a]) rfl ?_
    refine⟨_,rfl,?_,(F1.out.trans KD.out (λ_ _ q=>q)).setCell ⟨w.heap.size+1+1,0,none⟩ _ (λh=>by have h:w.heap.size+1+1<w.heap.size:=h;omega)⟩;have hn:=(HNs.out.fr (Fr.set wd ⟨w.heap.size+1+1,0,none⟩ (.slice an FR.length cn)) (λq hq _ e=>by have e:q=w.heap.size+1+1:=e;have:=HZf.out;omega)).base (D':=w.heap.size) (by have:=HZf.out;omega);rw[zbc,zbc,<-HFN.out,<-HFR.out];exact hn
   | false =>
    have eF:FR=[]:=by simpa using h2
    have HFR:=Hh eF;clear h2 eF;go_wp2_with fail;refine yY (v:=.tuple #[.agg #[.slice an FR.length cn],.bool false]) (by simp[results,Tryz.results68,go_sem,r13a]) rfl ?_
    refine⟨_,rfl,?_,(F1.out.trans KD.out (λ_ _ q=>q)).setCell ⟨w.heap.size+1+1,0,none⟩ _ (λh=>by have h:w.heap.size+1+1<w.heap.size:=h;omega)⟩;have hn:=(HNs.out.fr (Fr.set wd ⟨w.heap.size+1+1,0,none⟩ (.slice an FR.length cn)) (λq hq _ e=>by have e:q=w.heap.size+1+1:=e;have:=HZf.out;omega)).base (D':=w.heap.size) (by have:=HZf.out;omega);rw[HFR.out]at hn;rw[HFR.out];exact hn
