import Derived.Test.YtlapkmhemepcaaaGreatDoorZiu
/- Lemmas. -/
set_option linter.all false
set_option maxHeartbeats 8000000
set_option maxRecDepth 4000
namespace Go.Proofs.YtlapkmhemepcaaaGreatDoor
open Go.RowKit
theorem ztt {R:Nat->Prop}(nv:Value)(Fi:List (List Int × List Int))(w:World)(h:NodeL R encI w nv Fi)(g:Bool)(hg:g=true↔zar Fi)(ok:Bool)(hok:ok=(g && zax (canN (natF Fi)))) :
  Calls Tryz.prog 18 #[.agg #[nv]] w λe w'=>∃v',e=.returned (.tuple #[.agg #[v'],.bool ok])/\NodesS w.heap.size w' v' (if ok=true then canN (natF Fi)else [])/\Fr NoM w w':=by
 have HOk:=Hh hok;clear hok;obtain⟨w1,hw1⟩:=eX ((w.alloc (.cells #[nv] 26)).alloc (.cells #[.slice none 0 0] 26));have f1:Fr NoM w w1:=by rw[hw1];exact((nW w).alloc _).alloc _
 have hs1:w1.heap.size=w.heap.size+2:=by rw[hw1];simp
 have e0:w1.heap[w.heap.size]?=some (.cells #[nv] 26 (0,0)):=by rw[hw1];exact((nW _).alloc _).heap (xJ w _) id
 have e1:w1.heap[w.heap.size+1]?=some (.cells #[.slice none 0 0] 26 (0,0)):=by
  have h:=xJ (w.alloc (.cells #[nv] 26)) (.cells #[.slice none 0 0] 26);rw[xZ]at h;rw[hw1];exact h
 have HK:=Hh (λW (f:Fr NoM w1 W)=>show W.cell? ⟨w.heap.size,0,none⟩=some nv/\W.cell? ⟨w.heap.size+1,0,none⟩=some (.slice none 0 0)/\W.frozen? ⟨w.heap.size+1,0,none⟩=false from by
  have h0:=f.heap e0 id;have h1:=f.heap e1 id;exact⟨by rw[xX W _ 0 _ _ _ h0];rfl,by rw[xX W _ 0 _ _ _ h1];rfl,by simp[World.frozen?,h1]⟩)
 have HF1:=Hh f1;have HS1:=Hh hs1;have HG:=Hh hg;have HN:=Hh (h.low.fr0 f1);have HSig:=Hh (zc5 nv Fi w1 (h.fr0 f1) g hg);obtain⟨na,nc,rfl,z⟩:=id h;clear z h f1 hs1 e0 e1 hg;obtain⟨k0,k1,z1⟩:=HK.out w1 (Fr.refl _ _);go_enter Tryz.func18,Tryz.ntmps18;go_wp2_with fail;rw[<-hw1];clear hw1;(with_reducible refine HSig.out.mono ?_);rintro e w2 ⟨rfl,f2⟩;have HF2:=Hh f2;clear f2 k0 k1 z1;cases g with
 | false =>
  obtain⟨k0,k1,z1⟩:=HK.out w2 HF2.out;have hok:=HOk.out;rw[Bool.false_and]at hok;subst hok;go_wp2;refine yY (v:=.tuple #[.agg #[.slice none 0 0],.bool false]) (by simp[results,Tryz.results18,go_sem,k1]) rfl ?_
  exact⟨_,rfl,NodesS.nil _ _,(HF1.out.trans HF2.out (λ_ _ q=>q)).setCell _ _ (λh=>by have h:w.heap.size+1<w.heap.size:=h;omega)⟩
 | true =>
  obtain⟨Fs,rfl⟩:=zc4 (HG.out.1 rfl);have hgd:=HG.out.1 rfl;obtain⟨k0,k1,z1⟩:=HK.out w2 HF2.out;go_wp2_with fail;refine(zdz w2).mono ?_
  rintro e w3 ⟨rfl,hp3,hmaps,f3⟩;obtain⟨pb,hpb⟩:=eX (w2.heap.size+5);obtain⟨ob,hob⟩:=eX (w2.heap.size+1);obtain⟨sb,hsb⟩:=eX (w2.heap.size+2);have hmap:=hmaps 2 (by omega);have hmapo:=hmaps 1 (by omega);rw[<-hob]at hmapo hp3;rw[<-hsb]at hmap hp3;rw[<-hpb]at hp3 ⊢;obtain⟨ms,hms⟩:=eX (Value.map (some (w2.heap.size+3)));obtain⟨mn,hmn⟩:=eX (Value.map (some (w2.heap.size+4)));rw[<-hms,<-hmn]at hp3;clear hmaps hms hmn;have hsbl:sb<w3.heap.size:=(yJ.1 hmap).1;have hobl:ob<w3.heap.size:=(yJ.1 hmapo).1;have hos:ob≠sb:=by omega
  have HMo:=Hh (show MapF encP encB w3 ob (λ_=>none)from⟨#[],0,hmapo,by simp,by simp,by simp⟩);have hw12:w.heap.size+2<=w2.heap.size:=by have:=HF2.out.size;have:=HS1.out;omega
  have hf13:=HF2.out.trans f3 (λ_ _ q=>q);have HMp:=Hh (show MapF encN encN w3 sb (λ_=>none)from⟨#[],0,hmap,by simp,by simp,by simp⟩);have hp0:=hp3.low;have HMge:=Hh (show ∀q,(λq=>(q=w2.heap.size\/q=pb)/\q<w3.heap.size) q->w2.heap.size<=q/\q≠sb/\q≠ob from λq hq=>by
   rcases hq.1 with e|e <;> omega)
  have hr1:=zg6 pb (.slice na (i2 Fs).length nc) [] Fs [] (.map (some ob)) (.map (some sb)) ms mn w3 hp0 (λq hq=>hq.2) (λq hq=>hq.2) PoolOK.nil (HN.out.fr0 hf13).ofI (λk hk hm=>by have:=(HMge.out k hm).1;have hk:k<w.heap.size:=hk;omega) hgd (by simp);obtain⟨M3,hM3⟩:∃M3:Nat->Prop,M3=λq=>(q=w2.heap.size\/q=pb)/\q<w3.heap.size:=⟨_,rfl⟩
  obtain⟨I3,hI3⟩:∃I3:Nat->Prop,I3=λq=>NoM q/\q<w3.heap.size:=⟨_,rfl⟩
  have HMge:=Hh (show ∀q,M3 q->w2.heap.size<=q/\q≠sb/\q≠ob from by rw[hM3];exact HMge.out);have HIno:=Hh (show ∀q,¬I3 q from by rw[hI3];exact λq h=>h.1);rw[<-hM3,<-hI3]at hr1;have HRt1:=Hh hr1;have HIn:=Hh (λW (f:Fr (λq=>M3 q\/q=ob\/q=sb) w3 W)=>(hf13.trans f (λq hq h=>by
   have h2:=HF2.out.size;rcases h with h|h
   ·have:=(HMge.out q h).1;omega
   ·omega):Fr NoM w1 W))
  have hFl:Fs.length<=120:=by have h:=hgd.1;unfold zax at h;rw[kJ,zb9]at h;exact h.1
  obtain⟨FN,hFN⟩:=eX (canN Fs);have hng:ok=zax FN:=by rw[HOk.out,zbc,hFN];rfl
  have HNg:=Hh hng;have HObl:=Hh hobl;have HOs:=Hh hos;have HFN:=Hh hFN;have HSb:=Hh hsbl;have HW12:=Hh hw12;have F23:=Hh f3;have HFl:=Hh hFl;clear k0 k1 z1;obtain⟨k0,k1,z1⟩:=HK.out w3 hf13;clear hp3 hmap hmapo hpb hsb hob hobl hos hsbl hw12 hf13 hp0 hr1 hM3 hI3 hFl hng hFN f3 hgd k1 z1;go_wp2_with fail;(with_reducible refine HRt1.out.mono ?_);rintro e wa ⟨r1,V1,B1,M1,I1,rfl,pa,oa,va,ra,ca,ua,ma,ia,fa⟩;have lv1:V1.length<=120:=by
   have h1:=zde oa ua;have h2:=HFl.out;rw[yZ,za2,za2]at h1;simp at h1;omega
  have HSum:=Hh (ygn pb ob sb ms mn V1 B1 r1 wa pa oa (HMo.out.fr fa (λh=>(HMge.out _ h).2.2 rfl)) (HMp.out.fr fa (λh=>(HMge.out _ h).2.1 rfl)) (λq hq=>⟨(ma q hq).2,λe=>by
   have hs:=HObl.out;rcases (ma q hq).1 with h|h
   ·exact(HMge.out q h).2.2 e
   ·omega,λe=>by
   have hs:=HSb.out;rcases (ma q hq).1 with h|h
   ·exact(HMge.out q h).2.1 e
   ·omega⟩) (λq hq=>⟨(ia q hq).2,λe=>by
   have hs:=HObl.out;rcases (ia q hq).1 with h|h
   ·exact HIno.out q h
   ·omega,λe=>by
   have hs:=HSb.out;rcases (ia q hq).1 with h|h
   ·exact HIno.out q h
   ·omega⟩) HOs.out ra (by omega))
  have FA:=Hh fa;have HMa:=Hh ma;have HCa:=Hh ca;have HLv:=Hh lv1;clear pa oa va ra ca ua ma ia fa lv1 k0;go_wp2_with fail;(with_reducible refine HSum.out.mono ?_);rintro e wc ⟨i,V3,B3,M4,I4,ffo,ffc,rfl,st,nx,hi,hci⟩;have kc:Fr (λq=>M3 q\/q=ob\/q=sb) w3 wc:=(FA.out.mono (λ_ _ q=>.inl q)).trans nx.fr (λq hq h=>h.elim (λh=>by
   rcases (HMa.out q h).1 with h|h
   ·exact .inl h
   ·omega) .inr)
  rw[HCa.out]at hci;have hci:=hci.eq;have hfo:=zea st.ok hi hci;have hln:=st.len;unfold canU at hln;rw[yZ,uJ,za2]at hln;have hlv:=HLv.out;have HPf:=Hh (zk2 pb i V3 B3 (.map (some ob)) (.map (some sb)) ms mn wc st.pool st.ok hi (by omega));have HRes:=Hh (λ(okf:Bool) (FR:List PL) (hres:FormRes V3 B3 i okf FR)=>FormRes.is st.ok hi hres);have HFo:=Hh hfo;have KC:=Hh kc;clear st nx hi hci kc hfo hln hlv;go_wp2_with fail;(with_reducible refine HPf.out.mono ?_);rintro e wd ⟨nv,okf,FR,rfl,hres,hns,f8⟩;obtain⟨an,cn,rfl,zz⟩:=id hns.nodeL;clear zz;have kd:Fr NoM w1 wd:=HIn.out wd (KC.out.trans f8 (λ_ _ q=>q.elim));obtain⟨_,r13a,r13b⟩:=HK.out wd kd;obtain⟨h1,h2⟩:=HRes.out _ _ hres;rw[HFo.out]at h1 h2;rw[show zad (canC (zaf Fs))=FN from HFN.out.symm]at h1 h2;rw[<-HNg.out]at h1;have HNs:=Hh hns;have KD:=Hh kd;have HZf:=Hh (show w.heap.size+2<=wc.heap.size from by have:=KC.out.size;have:=F23.out.size;have:=HW12.out;omega);clear hns kd f8 hres;subst h1;cases okf with
  | true =>
   have eF:FR=FN:=by simpa using h2
   have HFR:=Hh eF;clear h2 eF;go_wp2_with fail;refine yY (v:=.tuple #[.agg #[.slice an FR.length cn],.bool true]) (by simp[results,Tryz.results18,go_sem,r13a]) rfl ?_
   refine⟨_,rfl,?_,(HF1.out.trans KD.out (λ_ _ q=>q)).setCell ⟨w.heap.size+1,0,none⟩ _ (λh=>by have h:w.heap.size+1<w.heap.size:=h;omega)⟩;have hn:=(HNs.out.fr (Fr.set wd ⟨w.heap.size+1,0,none⟩ (.slice an FR.length cn)) (λq hq _ e=>by have e:q=w.heap.size+1:=e;have:=HZf.out;omega)).base (D':=w.heap.size) (by have:=HZf.out;omega);rw[zbc,<-HFN.out,<-HFR.out];exact hn
  | false =>
   have eF:FR=[]:=by simpa using h2
   have HFR:=Hh eF;clear h2 eF;go_wp2_with fail;refine yY (v:=.tuple #[.agg #[.slice an FR.length cn],.bool false]) (by simp[results,Tryz.results18,go_sem,r13a]) rfl ?_
   refine⟨_,rfl,?_,(HF1.out.trans KD.out (λ_ _ q=>q)).setCell ⟨w.heap.size+1,0,none⟩ _ (λh=>by have h:w.heap.size+1<w.heap.size:=h;omega)⟩;have hn:=(HNs.out.fr (Fr.set wd ⟨w.heap.size+1,0,none⟩ (.slice an FR.length cn)) (λq hq _ e=>by have e:q=w.heap.size+1:=e;have:=HZf.out;omega)).base (D':=w.heap.size) (by have:=HZf.out;omega);rw[HFR.out]at hn;rw[HFR.out];exact hn
