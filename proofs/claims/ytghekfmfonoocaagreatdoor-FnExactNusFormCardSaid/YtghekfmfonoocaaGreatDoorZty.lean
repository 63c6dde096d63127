import Derived.Test.YtghekfmfonoocaaGreatDoorZt12
import Derived.Test.YtghekfmfonoocaaGreatDoorZte
/- Lemmas. -/
namespace Go.Proofs.YtghekfmfonoocaaGreatDoor
set_option linter.unusedVariables false
set_option linter.unusedSimpArgs false
open Go.RowKit
theorem yan {M I:Nat→Prop}(pb sb:Nat)(mo mc mn:Value)(V:List PL)(BV:List Nat)(r1 r2:Nat)(W:World)(hP:PoolS M I W pb V BV mo mc (.map (some sb)) mn)(hOK:PoolOK V BV)(hmap:MapF encP encN W sb (fun _=>none))(hM:∀q,M q→q<W.heap.size/\q≠sb)(hI:∀q,I q→q<W.heap.size/\q≠sb)
  (h1:r1<V.length) (h2:r2<V.length) (hn:V.length≤240) :
  Calls Tryz.prog 112 #[.pointer (some ⟨pb,0,none⟩),.int .i64 (r1:Int),.int .i64 (r2:Int)] W fun e w'=>yae (sumU (za0 V)) pb sb mo mc mn W V M I (sumC ((za0 V).getD r1 0) ((za0 V).getD r2 0)) e w' :=
 ydd (U:=sumU (za0 V)) (by rw[ztb,za2];have:=Nat.mul_le_mul hn hn;omega) pb sb mo mc mn _ r1 r2 (Nat.lt_succ_self _) V BV M I _ W
  ⟨hP,hOK,fun x hx=>List.mem_append_left _ (zcz (by rw[za2];exact hx)),hmap,SumMO.none V,hM,hI⟩ h1 h2 (fun a b ha hb=>ybm (zm5 hOK h1 ha) (zm5 hOK h2 hb))
set_option maxRecDepth 4000 in
set_option maxHeartbeats 4000000 in
theorem zvb {R S:Nat→Prop}(v1 v2:Value)(Fi Gi:List (List Int × List Int))(w:World)(h1:NodeL R encI w v1 Fi)(h2:NodeL S encI w v2 Gi)(p:Bool)(hp:p=true↔zbf Fi/\zbf Gi/\Fi.length*Gi.length≤1600) :
  Calls Tryz.prog 111 #[.agg #[v1],.agg #[v2]] w fun e w'=>e=.returned (.bool p)/\Fr NoM w w':=by
 obtain⟨g1,hg1⟩:=zgm Fi;obtain⟨g2,hg2⟩:=zgm Gi;obtain⟨w1,hw1⟩:∃w1,w1=(w.alloc (.cells #[v1] 26)).alloc (.cells #[v2] 26):=⟨_,rfl⟩;have f1:Fr NoM w w1:=by rw[hw1];exact((Fr.refl NoM w).alloc _).alloc _
 have e0:w1.heap[w.heap.size]?=some (.cells #[v1] 26 (0,0)):=by rw[hw1];exact((Fr.refl NoM _).alloc _).heap (heap_alloc_new w _) (fun q=>q)
 have e1:w1.heap[w.heap.size+1]?=some (.cells #[v2] 26 (0,0)):=by
  have h:=heap_alloc_new (w.alloc (.cells #[v1] 26)) (.cells #[v2] 26);rw[World.size_alloc]at h;rw[hw1];exact h
 have HK:=Hh (fun(W:World) (f:Fr NoM w1 W)=>show W.cell? ⟨w.heap.size,0,none⟩=some v1/\W.cell? ⟨w.heap.size+1,0,none⟩=some v2 from by
  have h0:=f.heap e0 (fun q=>q);have h1:=f.heap e1 (fun q=>q);exact⟨by rw[cell_of_row W _ 0 _ _ _ h0];rfl,by rw[cell_of_row W _ 0 _ _ _ h1];rfl⟩)
 have HG1:=Hh (zfk v1 Fi w1 (h1.fr0 f1) g1 hg1);have HG2:=Hh (fun(W:World) (f:Fr NoM w1 W)=>zfk v2 Gi W ((h2.fr0 f1).fr0 f) g2 hg2);have HP:=Hh hp;have H1:=Hh hg1;have H2:=Hh hg2;have F1:=Hh f1;obtain⟨a1,c1,rfl,z⟩:=id h1;clear z;obtain⟨a2,c2,rfl,z⟩:=id h2;clear z h1 h2 f1 e0 e1 hp hg1 hg2;obtain⟨k0,k1⟩:=HK.out w1 (Fr.refl _ _);go_enter Tryz.func111,Tryz.ntmps111;go_wp2_with fail;rw[←hw1];clear hw1;refine HG1.out.mono ?_
 rintro e w2 ⟨rfl,f2⟩;have F2:=Hh f2;clear f2 k0 k1;obtain⟨k0,k1⟩:=HK.out w2 F2.out;cases g1 with
 | false =>
  have hpf:p=false:=by
   cases p with
   | false=>rfl
   | true=>exact absurd (H1.out.2 (HP.out.1 rfl).1) (by simp)
  subst hpf;go_wp2;go_ret;exact⟨rfl,F1.out.trans F2.out (fun _ _ q=>q)⟩
 | true =>
  have HGd1:=Hh (H1.out.1 rfl);go_wp2_with fail;refine(HG2.out w2 F2.out).mono ?_
  rintro e w3 ⟨rfl,f3⟩;have F3:=Hh (F2.out.trans f3 (fun _ _ q=>q));clear f3 k0 k1;obtain⟨k0,k1⟩:=HK.out w3 F3.out;cases g2 with
  | false =>
   have hpf:p=false:=by
    cases p with
    | false=>rfl
    | true=>exact absurd (H2.out.2 (HP.out.1 rfl).2.1) (by simp)
   subst hpf;go_wp2;go_ret;exact⟨rfl,F1.out.trans F3.out (fun _ _ q=>q)⟩
  | true =>
   have hgd1:=HGd1.out;have hgd2:=H2.out.1 rfl;have hl1:Fi.length≤120:=by have h:=hgd1.1;unfold zam at h;rw[decide_eq_true_eq]at h;exact h.1
   have hl2:Gi.length≤120:=by have h:=hgd2.1;unfold zam at h;rw[decide_eq_true_eq]at h;exact h.1
   obtain⟨m,hm⟩:∃m,m=Fi.length*Gi.length:=⟨_,rfl⟩;have hmb:m≤14400:=by
    have:=Nat.mul_le_mul hl1 hl2;omega
   have hmm:(Fi.length:Int)*(Gi.length:Int)=(m:Int):=by rw[hm];exact(Int.natCast_mul _ _).symm
   have hpe:p=decide (m≤1600):=by
    have h:p=true↔m≤1600:=by
     rw[HP.out,hm];exact⟨fun h=>h.2.2,fun h=>⟨hgd1,hgd2,h⟩⟩
    cases p with
    | true=>exact(decide_eq_true (h.1 rfl)).symm
    | false=>exact(decide_eq_false (fun q=>by cases h.2 q)).symm
   have HPe:=Hh hpe;clear hgd1 hgd2 hm hpe;by_cases hc:m≤1600
   ·have hpt:p=true:=by rw[HPe.out];exact decide_eq_true hc
    subst hpt;have hci:(m:Int)≤1600:=by omega
    clear hc;go_wp2;go_ret;exact⟨by simp[hci],F1.out.trans F3.out (fun _ _ q=>q)⟩
   ·have hpt:p=false:=by rw[HPe.out];exact decide_eq_false hc
    subst hpt;have hci:¬(m:Int)≤1600:=by omega
    clear hc;go_wp2;go_ret;exact⟨by simp[hci],F1.out.trans F3.out (fun _ _ q=>q)⟩
set_option maxRecDepth 4000 in
set_option maxHeartbeats 8000000 in
theorem zoa {R S:Nat→Prop}(v1 v2:Value)(Fi Gi:List (List Int × List Int))(w:World)(h1:NodeL R encI w v1 Fi)(h2:NodeL S encI w v2 Gi)(ok:Bool)(hok:ok=zf9 Fi Gi) :
  Calls Tryz.prog 64 #[.agg #[v1],.agg #[v2]] w fun e w'=>∃v',e=.returned (.tuple #[.agg #[v'],.bool ok])/\NodesS w.heap.size w' v' (if ok=true then sumN (natF Fi) (natF Gi)else [])/\Fr NoM w w':=by
 obtain⟨p,hp,hpo⟩:=ztt Fi Gi;rw[hpo]at hok;obtain⟨w1,hw1⟩:∃w1,w1=((w.alloc (.cells #[v1] 26)).alloc (.cells #[v2] 26)).alloc (.cells #[.slice none 0 0] 26):=⟨_,rfl⟩;have f1:Fr NoM w w1:=by rw[hw1];exact(((Fr.refl NoM w).alloc _).alloc _).alloc _
 have hs1:w1.heap.size=w.heap.size+3:=by rw[hw1];simp
 have e0:w1.heap[w.heap.size]?=some (.cells #[v1] 26 (0,0)):=by rw[hw1];exact(((Fr.refl NoM _).alloc _).alloc _).heap (heap_alloc_new w _) (fun q=>q)
 have e1:w1.heap[w.heap.size+1]?=some (.cells #[v2] 26 (0,0)):=by
  have h:=heap_alloc_new (w.alloc (.cells #[v1] 26)) (.cells #[v2] 26);rw[World.size_alloc]at h;rw[hw1];exact((Fr.refl NoM _).alloc _).heap h (fun q=>q)
 have e2:w1.heap[w.heap.size+1+1]?=some (.cells #[.slice none 0 0] 26 (0,0)):=by
  have h:=heap_alloc_new ((w.alloc (.cells #[v1] 26)).alloc (.cells #[v2] 26)) (.cells #[.slice none 0 0] 26);rw[World.size_alloc,World.size_alloc]at h;rw[hw1];exact h
 have HK:=Hh (fun(W:World) (f:Fr NoM w1 W)=>show W.cell? ⟨w.heap.size,0,none⟩=some v1/\W.cell? ⟨w.heap.size+1,0,none⟩=some v2/\W.cell? ⟨w.heap.size+1+1,0,none⟩=some (.slice none 0 0)/\W.frozen? ⟨w.heap.size+1+1,0,none⟩=false from by
  have h0:=f.heap e0 (fun q=>q);have h1:=f.heap e1 (fun q=>q);have h2:=f.heap e2 (fun q=>q);exact⟨by rw[cell_of_row W _ 0 _ _ _ h0];rfl,by rw[cell_of_row W _ 0 _ _ _ h1];rfl,by rw[cell_of_row W _ 0 _ _ _ h2];rfl,by simp[World.frozen?,h2]⟩)
 have HPr:=Hh (zvb v1 v2 Fi Gi w1 (h1.fr0 f1) (h2.fr0 f1) p hp);have HN1:=Hh (fun(W:World) (f:Fr NoM w1 W)=>((h1.low.fr0 f1).fr0 f:NodeL (· < w.heap.size) encI W v1 Fi));have HN2:=Hh (fun(W:World) (f:Fr NoM w1 W)=>((h2.low.fr0 f1).fr0 f:NodeL (· < w.heap.size) encI W v2 Gi));have HP:=Hh hp;have HOk:=Hh hok;have F1:=Hh f1;have HS1:=Hh hs1;obtain⟨a1,c1,rfl,z⟩:=id h1;clear z;obtain⟨a2,c2,rfl,z⟩:=id h2;clear z h1 h2 f1 hs1 e0 e1 e2 hp hok hpo;obtain⟨k0,k1,k2,k3⟩:=HK.out w1 (Fr.refl _ _);go_enter Tryz.func64,Tryz.ntmps64;go_wp2_with fail;rw[←hw1];clear hw1;refine HPr.out.mono ?_
 rintro e w2 ⟨rfl,f2⟩;have F2:=Hh f2;clear f2 k0 k1 k2 k3;obtain⟨k0,k1,k2,k3⟩:=HK.out w2 F2.out;cases p with
 | false =>
  have hk:ok=false:=by rw[HOk.out];rfl
  subst hk;go_wp2;refine bodyPost_ret (v:=.tuple #[.agg #[.slice none 0 0],.bool false]) (by simp[results,Tryz.results64,go_sem,k2]) rfl ?_
  exact⟨_,rfl,NodesS.nil _ _,(F1.out.trans F2.out (fun _ _ q=>q)).setCell _ _ (fun h=>by have h:w.heap.size+1+1<w.heap.size:=h;omega)⟩
 | true =>
  obtain⟨hg1,hg2,hm⟩:=HP.out.1 rfl;obtain⟨Fs,rfl⟩:=zf4 hg1;obtain⟨Gs,rfl⟩:=zf4 hg2;go_wp2_with fail;refine(zff w2).mono ?_
  rintro e w3 ⟨rfl,hp3,hmaps,f3⟩;obtain⟨pb,hpb⟩:∃pb,pb=w2.heap.size+5:=⟨_,rfl⟩;obtain⟨sb,hsb⟩:∃sb,sb=w2.heap.size+3:=⟨_,rfl⟩;have hmap:=hmaps 3 (by omega);rw[←hsb]at hmap hp3;rw[←hpb]at hp3 ⊢;obtain⟨mo,hmo⟩:∃v,v=Value.map (some (w2.heap.size+1)):=⟨_,rfl⟩;obtain⟨mc,hmc⟩:∃v,v=Value.map (some (w2.heap.size+2)):=⟨_,rfl⟩;obtain⟨mn,hmn⟩:∃v,v=Value.map (some (w2.heap.size+4)):=⟨_,rfl⟩;rw[←hmo,←hmc,←hmn]at hp3;clear hmaps hmo hmc hmn;have hsbl:sb<w3.heap.size:=(Array.getElem?_eq_some_iff.1 hmap).1;have hw12:w.heap.size+3≤w2.heap.size:=by have:=F2.out.size;have:=HS1.out;omega
  have hf13:=F2.out.trans f3 (fun _ _ q=>q);have HMp:=Hh (show MapF encP encN w3 sb (fun _=>none)from⟨#[],0,hmap,by simp,by simp,by simp⟩);have hp0:=hp3.low
  -- the blocks of the pool are its own
  have HMge:=Hh (show ∀q,(fun q=>(q=w2.heap.size∨q=pb)/\q<w3.heap.size) q→w2.heap.size≤q/\q≠sb from fun q hq=>by
   rcases hq.1 with e|e <;> omega)
  have K0:Fr NoM w3 w3.drew:=(Fr.refl NoM w3).drew;have hr1:=zm7 pb (.slice a1 (i2 Fs).length c1) [] Fs [] mo mc (.map (some sb)) mn w3.drew (hp0.fr0 K0) (fun q hq=>by rw[World.size_drew];exact hq.2) (fun q hq=>by rw[World.size_drew];exact hq.2) PoolOK.nil (HN1.out w3.drew (hf13.trans K0 (fun _ _ q=>q))).ofI (fun k hk hm=>by have:=(HMge.out k hm).1;have hk:k<w.heap.size:=hk;omega) hg1 (by simp);obtain⟨M3,hM3⟩:∃M3:Nat→Prop,M3=fun q=>(q=w2.heap.size∨q=pb)/\q<w3.heap.size:=⟨_,rfl⟩
  obtain⟨I3,hI3⟩:∃I3:Nat→Prop,I3=fun q=>NoM q/\q<w3.heap.size:=⟨_,rfl⟩
  have HMge:=Hh (show ∀q,M3 q→w2.heap.size≤q/\q≠sb from by rw[hM3];exact HMge.out);have HIno:=Hh (show ∀q,¬I3 q from by rw[hI3];exact fun q h=>h.1);rw[←hM3,←hI3]at hr1;have HRt1:=Hh hr1
  -- what stands in memory behind the pool's own calls
  have HIn:=Hh (fun(W:World) (f:Fr (fun q=>M3 q∨q=sb) w3 W)=>(hf13.trans f (fun q hq h=>by
   have h2:=F2.out.size;rcases h with h|h
   ·have:=(HMge.out q h).1;omega
   ·omega):Fr NoM w1 W))
  have hRt2:=fun(W:World) (V:List PL) (BV:List Nat) (M I:Nat→Prop) (f:Fr M3 w3 W) (hP:PoolS M I W pb V BV mo mc (.map (some sb)) mn) (hOK:PoolOK V BV) (hM:∀q,M q→(M3 q∨w3.heap.size≤q)/\q<W.heap.size) (hI:∀q,I q→(I3 q∨w3.heap.size≤q)/\q<W.heap.size) (hn:V.length<1000000) =>
   zm7 pb (.slice a2 (i2 Gs).length c2) V Gs BV mo mc (.map (some sb)) mn W hP (fun q hq=>(hM q hq).2) (fun q hq=>(hI q hq).2) hOK (HN2.out W (HIn.out W (f.mono (fun _ _ q=>.inl q)))).ofI (fun k hk hm=>by
    have hk:k<w.heap.size:=hk;have h3:=f3.size;rcases (hM k hm).1 with h|h
    ·have:=(HMge.out k h).1;omega
    ·omega) hg2 hn
  have HRt2:=Hh hRt2;have hFl:Fs.length≤120:=by have h:=hg1.1;unfold zam at h;rw[decide_eq_true_eq,zcv]at h;exact h.1
  have hGl:Gs.length≤120:=by have h:=hg2.1;unfold zam at h;rw[decide_eq_true_eq,zcv]at h;exact h.1
  have HFl:=Hh (And.intro hFl hGl);obtain⟨FN,hFN⟩:∃FN,FN=sumN Fs Gs:=⟨_,rfl⟩;have hok':ok=zam FN:=by rw[HOk.out,zbc,zbc,hFN];rfl
  have HOk':=Hh hok';have HFN:=Hh hFN;have HSb:=Hh hsbl;have HW12:=Hh hw12;have F13:=Hh hf13;have F23:=Hh f3;clear k0 k1 k2 k3;obtain⟨k0,k1,k2,k3⟩:=HK.out w3 hf13;have C0:w3.drew.cell? ⟨w.heap.size,0,none⟩=some (.slice a1 (i2 Fs).length c1):=K0.cell k0 (fun q=>q);have C1:w3.drew.cell? ⟨w.heap.size+1,0,none⟩=some (.slice a2 (i2 Gs).length c2):=K0.cell k1 (fun q=>q);clear hp3 hmap hpb hsb hsbl hw12 hf13 hp0 hr1 hM3 hI3 hRt2 hFl hGl hok' hFN f3 hg1 hg2 hm k2 k3;go_upto_region 4 with fail;go_region_law (first
   | (go_simp;first
    | (go_at_call 41;(with_reducible refine HRt1.out.mono ?_);rintro e wa ⟨r1,V1,B1,M1,I1,rfl,pa,oa,va,ra,ca,ua,ma,ia,fa⟩;have ka:Fr M3 w3 wa:=K0.any.trans fa (fun _ _ q=>q);obtain⟨j0,j1,j2,j3⟩:=HK.out wa (HIn.out wa (ka.mono (fun _ _ q=>.inl q)));(try simp only[World.size_drew]at ma ia);have lv1:V1.length≤120:=by { have h1:=zf1 oa ua;have h2:=HFl.out;simp[za2,za0]at h1;have h3:=za2 Fs;unfold za0 at h3;omega })
    | (go_at_call 41;(with_reducible refine(HRt2.out wa V1 B1 M1 I1 ka pa oa ma ia (by omega)).mono ?_);rintro e wb ⟨r2,V2,B2,M2,I2,rfl,pb2,ob,vb,rb,cb,ub,mb,ib,fb⟩;have kb:Fr M3 w3 wb:=ka.trans fb (fun q hq h=>(ma q h).1.elim id (fun z=>by omega));have ca':(za0 V2).getD r1 0=zb0 Fs:=by { rw[zak vb ra];exact ca };have la:=vb.length_le;have lv2:V2.length≤240:=by { have h1:=zf1 ob ub;have h2:=HFl.out;rw[List.length_append,za2,za2]at h1;omega };have HSum:=Hh (yan pb sb mo mc mn V2 B2 r1 r2 wb pb2 ob (HMp.out.fr kb (fun h=>(HMge.out _ h).2 rfl)) (fun q hq=>⟨(mb q hq).2,fun e=>by { have hs:=HSb.out;have hz:=ka.size;rcases (mb q hq).1 with h|h;{ rcases (ma q h).1 with h|h;{ exact(HMge.out q h).2 e };{ omega } };{ omega } }⟩) (fun q hq=>⟨(ib q hq).2,fun e=>by { have hs:=HSb.out;have hz:=ka.size;rcases (ib q hq).1 with h|h;{ rcases (ia q h).1 with h|h;{ exact HIno.out q h };{ omega } };{ omega } }⟩) (by omega) rb lv2))
    | (go_at_call 112;(with_reducible refine HSum.out.mono ?_);rintro e wc ⟨i,V3,B3,M4,I4,ff,rfl,st,nx,hi,hci⟩;have kc:Fr (fun q=>M3 q∨q=sb) w3 wc:=(kb.mono (fun _ _ q=>.inl q)).trans nx.fr (fun q hq h=>h.elim (fun h=>by { have hz:=ka.size;rcases (mb q h).1 with h|h;{ rcases (ma q h).1 with h|h;{ exact .inl h };{ omega } };{ omega } }) .inr);rw[ca',cb]at hci;have hfo:=zdh st.ok hi hci;have hln:=st.len;rw[ztb,za2]at hln;have hsq:=Nat.mul_le_mul lv2 lv2)
    | (go_at_call 60;(with_reducible refine(zhh pb i V3 B3 mo mc (.map (some sb)) mn wc st.pool st.ok hi (by omega)).mono ?_);rintro e wd ⟨nv,okf,FR,rfl,hres,hns,f8⟩;obtain⟨an,cn,rfl,zz⟩:=id hns.nodeL;clear zz;have kd:Fr NoM w1 wd:=HIn.out wd (kc.trans f8 (fun _ _ q=>q.elim));obtain⟨_,_,r13a,r13b⟩:=HK.out wd kd)
    | fail)
   | fail)
  all_goals
   obtain⟨h1,h2⟩:=FormRes.is st.ok hi hres;rw[hfo]at h1 h2;rw[show zac (sumC (zb0 Fs) (zb0 Gs))=FN from HFN.out.symm]at h1 h2;rw[←HOk'.out]at h1;have HNs:=Hh hns;have KD:=Hh kd;have HZf:=Hh (show w.heap.size+3≤wc.heap.size from by have:=kc.size;have:=F23.out.size;have:=HW12.out;omega);clear hns kd kc f8 st nx hi hci hfo hln hsq hres kb ka fa fb ma ia mb ib pa pb2 oa ob;subst h1;cases okf with
   | true =>
    have eF:FR=FN:=by simpa using h2
    have HFR:=Hh eF;clear h2 eF;go_wp2_with fail;refine bodyPost_ret (v:=.tuple #[.agg #[.slice an FR.length cn],.bool true]) (by simp[results,Tryz.results64,go_sem,r13a]) rfl ?_
    refine⟨_,rfl,?_,(F1.out.trans KD.out (fun _ _ q=>q)).setCell ⟨w.heap.size+1+1,0,none⟩ _ (fun h=>by have h:w.heap.size+1+1<w.heap.size:=h;omega)⟩;have hn:=(HNs.out.fr (Fr.set wd ⟨w.heap.size+1+1,0,none⟩ (.slice an FR.length cn)) (fun q hq _ e=>by have e:q=w.heap.size+1+1:=e;have:=HZf.out;omega)).base (D':=w.heap.size) (by have:=HZf.out;omega);rw[zbc,zbc,←HFN.out,←HFR.out];exact hn
   | false =>
    have eF:FR=[]:=by simpa using h2
    have HFR:=Hh eF;clear h2 eF;go_wp2_with fail;refine bodyPost_ret (v:=.tuple #[.agg #[.slice an FR.length cn],.bool false]) (by simp[results,Tryz.results64,go_sem,r13a]) rfl ?_
    refine⟨_,rfl,?_,(F1.out.trans KD.out (fun _ _ q=>q)).setCell ⟨w.heap.size+1+1,0,none⟩ _ (fun h=>by have h:w.heap.size+1+1<w.heap.size:=h;omega)⟩;have hn:=(HNs.out.fr (Fr.set wd ⟨w.heap.size+1+1,0,none⟩ (.slice an FR.length cn)) (fun q hq _ e=>by have e:q=w.heap.size+1+1:=e;have:=HZf.out;omega)).base (D':=w.heap.size) (by have:=HZf.out;omega);rw[HFR.out]at hn;rw[HFR.out];exact hn
set_option maxHeartbeats 1000000 in
theorem zsk (w:World):Calls Tryz.prog 57 #[] w fun e w'=>∃v',e=.returned (.agg #[v'])/\NodeL (fun b=>w.heap.size≤b) encN w' v' [([],[])]/\Fr NoM w w':=by
 obtain⟨w2,hw2⟩:∃w2,w2=(w.alloc (.cells #[.slice (some ⟨w.heap.size+1,0,none⟩) 1 1] 26)).alloc (.cells #[.slice none 0 0,.slice none 0 0] 85):=⟨_,rfl⟩;have hf2:Fr NoM w w2:=by rw[hw2];exact((Fr.refl NoM w).alloc _).alloc _
 have hb0:w2.heap[w.heap.size]?=some (.cells #[.slice (some ⟨w.heap.size+1,0,none⟩) 1 1] 26 (0,0)):=by
  rw[hw2];exact((Fr.refl NoM _).alloc _).heap (heap_alloc_new w _) (fun q=>q)
 have hb1:w2.heap[w.heap.size+1]?=some (.cells #[.slice none 0 0,.slice none 0 0] 85 (0,0)):=by
  have h:=heap_alloc_new (w.alloc (.cells #[.slice (some ⟨w.heap.size+1,0,none⟩) 1 1] 26)) (.cells #[.slice none 0 0,.slice none 0 0] 85);rw[World.size_alloc]at h;rw[hw2];exact h
 have k0:w2.cell? ⟨w.heap.size,0,none⟩=some (.slice (some ⟨w.heap.size+1,0,none⟩) 1 1):=by rw[cell_of_row w2 _ 0 _ _ _ hb0];rfl
 have HF2:=Hh hf2;have HB1:=Hh hb1;have HK:=Hh k0;clear hf2 hb0 hb1 k0;go_enter Tryz.func57,Tryz.ntmps57;go_upto_region 1 with fail;go_wp2_with fail;rw[←hw2];clear hw2;refine bodyPost_ret (v:=.agg #[.slice (some ⟨w.heap.size+1,0,none⟩) 1 1]) (by simp[results,Tryz.results57,go_sem,HK.out]) rfl ?_
 refine⟨_,rfl,?_,HF2.out⟩;refine⟨_,1,rfl,by simp,by decide,fun j y hy=>?_⟩;cases j with
 | zero =>
  have e:([],[])=y:=by simpa using hy
  subst e;exact⟨w.heap.size+1,0,.slice none 0 0,.slice none 0 0,rfl,Nat.le_succ _,by rw[cell_of_row w2 _ _ _ _ _ HB1.out];rfl,by rw[cell_of_row w2 _ _ _ _ _ HB1.out];rfl,SliceOf.nil _ _,SliceOf.nil _ _,fun h=>absurd rfl h,fun h=>absurd rfl h⟩
 | succ j=>simp at hy
def FormsI (R:Nat→Prop)(w:World)(v:Value)(FL:List (List (List Int × List Int))):Prop :=
 ∃VS:List Value,SliceOf encV w v VS/\VS.length=FL.length/\∀(j:Nat) (nv:Value) (Fi:List (List Int × List Int)),VS[j]?=some nv→FL[j]?=some Fi→NodeL R encI w nv Fi
theorem FormsI.fr0 {R:Nat→Prop}{w w':World}{v:Value}{FL:List (List (List Int × List Int))}(h:FormsI R w v FL)(hf:Fr NoM w w'):FormsI R w' v FL:=by
 obtain⟨VS,h1,h2,h3⟩:=h;exact⟨VS,h1.fr0 hf,h2,fun j nv Fi e1 e2=>(h3 j nv Fi e1 e2).fr0 hf⟩
theorem FormsI.low {R:Nat→Prop}{w:World}{v:Value}{FL:List (List (List Int × List Int))}(h:FormsI R w v FL):FormsI (· < w.heap.size) w v FL:=by
 obtain⟨VS,h1,h2,h3⟩:=h;exact⟨VS,h1,h2,fun j nv Fi e1 e2=>(h3 j nv Fi e1 e2).low⟩
theorem FormsI.shape {R:Nat→Prop}{w:World}{v:Value}{FL:List (List (List Int × List Int))}(h:FormsI R w v FL):∃a c,v=.slice a FL.length c/\FL.length≤9223372036854775807:=by
 obtain⟨VS,⟨a,c,e,h1,h4,_⟩,h2,_⟩:=h;exact⟨a,c,by rw[e,h2],by omega⟩
theorem FormsI.get {R:Nat→Prop}{w:World}{a:Option Addr}{c:Nat}{FL:List (List (List Int × List Int))}(h:FormsI R w (.slice a FL.length c) FL){k:Nat}{Fi:List (List Int × List Int)}(hk:FL[k]?=some Fi) :
  ∃b off nv,a=some ⟨b,off,none⟩/\w.cell? ⟨b,off+k,none⟩=some nv/\NodeL R encI w nv Fi:=by
 obtain⟨VS,⟨a',c',e,_,_,h4⟩,h2,h3⟩:=h;obtain⟨rfl,hz,rfl⟩:=Value.slice.inj e;have hl:=(List.getElem?_eq_some_iff.1 hk).1;have ev:=List.getElem?_eq_getElem (show k<VS.length by omega)
 obtain⟨b,off,ea,ec⟩:=h4 k _ ev;exact⟨b,off,_,ea,ec,h3 k _ _ ev hk⟩
def zt5 (FL:List (List (List Int × List Int)))(m:Nat):Prop:=FL.length≤m/\∀Fi∈FL,zbf Fi
set_option maxRecDepth 4000 in
set_option maxHeartbeats 4000000 in
theorem zz7 {R:Nat→Prop}(v:Value)(FL:List (List (List Int × List Int)))(w:World)(h:FormsI R w v FL)(b:Bool)(hb:b=true↔zt5 FL 12) :
  Calls Tryz.prog 56 #[v,.int .i64 12] w fun e w'=>e=.returned (.bool b)/\Fr NoM w w':=by
 obtain⟨a,c,rfl,hl9⟩:=h.shape;have HN:=Hh (fun(W:World) (f:Fr NoM w W)=>h.fr0 f);have HB:=Hh hb;clear h hb;go_enter Tryz.func56,Tryz.ntmps56;go_wp2_with fail;go_loopw [5] (fun t W=>∃k:Nat,t=.int .i64 k/\k≤FL.length/\k≤13/\(∀(j:Nat) Fi,j<k→FL[j]?=some Fi→zbf Fi)/\Fr NoM w W) (fun t _=>FL.length-(intOf t).toNat)
 case atStart=>exact⟨0,rfl,Nat.zero_le _,by omega,fun j Fi hj=>by omega,Fr.refl _ _⟩
 case round =>
  obtain⟨k,rfl,hk,hk13,hall,hfr⟩:=hrel;obtain⟨w7,rfl⟩:∃w7,w7=wr:=⟨_,rfl⟩;have HA:=Hh hall;have HF:=Hh hfr;clear hall hfr;by_cases hkl:k<FL.length
  ·by_cases hk12:k≤12
   ·obtain⟨Fi,hFi⟩:∃Fi,FL[k]?=some Fi:=⟨_,List.getElem?_eq_getElem hkl⟩
    obtain⟨b1,o1,nv,rfl,c1,n1⟩:=(HN.out w7 HF.out).get hFi;have ix:=zmq (some ⟨b1,o1,none⟩) FL.length c k b1 o1 hkl rfl;obtain⟨g,hg⟩:=zgm Fi;have HG:=Hh (zos nv Fi w7 n1 g hg);have Hg:=Hh hg;have HFi:=Hh hFi;obtain⟨na,nc,rfl,z⟩:=id n1;clear z n1 hg hFi;go_wp2_with fail;refine HG.out.mono ?_
    rintro e w8 ⟨rfl,f8⟩;have F8:=Hh (HF.out.trans f8 (fun _ _ q=>q));clear f8 c1 ix;cases g with
    | false =>
     have hbf:b=false:=by
      cases b with
      | false=>rfl
      | true=>exact absurd (Hg.out.2 ((HB.out.1 rfl).2 Fi (List.mem_of_getElem? HFi.out))) (by simp)
     subst hbf;go_wp2;go_ret;exact⟨rfl,F8.out⟩
    | true =>
     have HNx:=Hh (fun(j:Nat) Fi' (hj:j<k+1) (hFj:FL[j]?=some Fi')=>(by
      by_cases e:j=k
      ·rw[e,HFi.out]at hFj
       cases hFj;exact Hg.out.1 rfl
      ·exact HA.out j Fi' (by omega) hFj:zbf Fi'))
     go_wp2_with fail;go_roundw
     case rel=>exact⟨k+1,by go_num,by omega,by omega,HNx.out,F8.out⟩
     case measure=>simp[intOf];omega
   ·have hbf:b=false:=by
     cases b with
     | false=>rfl
     | true=>have h:=(HB.out.1 rfl).1;omega
    subst hbf;have hbig:¬(FL.length:Int)≤12:=by omega
    go_wp2;go_ret;exact⟨by simp[hbig],HF.out⟩
  ·have hbe:b=decide ((FL.length:Int)≤12):=by
    have hiff:b=true↔(FL.length:Int)≤12:=by
     rw[HB.out];exact⟨fun h=>by have:=h.1;omega,fun h=>⟨by omega,fun Fi hFi=>by
      obtain⟨j,hj,rfl⟩:=List.getElem_of_mem hFi;exact HA.out j _ (by omega) (List.getElem?_eq_getElem hj)⟩⟩
    cases b with
    | true=>exact(decide_eq_true (hiff.1 rfl)).symm
    | false=>exact(decide_eq_false (fun q=>by cases hiff.2 q)).symm
   have HBe:=Hh hbe;clear hbe;go_wp2;go_ret;exact⟨by rw[HBe.out];rfl,HF.out⟩
theorem NodeL.lowR {R:Nat→Prop}{w:World}{v:Value}{FN:List PL}(h:NodeL R encN w v FN):NodeL (fun q=>R q/\q<w.heap.size) encN w v FN:=by
 obtain⟨a,c,rfl,h1,h2,h3⟩:=h;refine⟨a,c,rfl,h1,h2,fun j y hy=>?_⟩;obtain⟨b,off,lv,rv,ha,hb,c1,c2,s1,s2,r1,r2⟩:=h3 j y hy;refine⟨b,off,lv,rv,ha,⟨hb,World.block_lt_of_cell? w _ c1⟩,c1,c2,s1,s2,fun hne q hq=>⟨r1 hne q hq,?_⟩,fun hne q hq=>⟨r2 hne q hq,?_⟩⟩
 ·obtain⟨b',hb',hl⟩:=s1.block hne;rw[hq]at hb';cases hb';exact hl
 ·obtain⟨b',hb',hl⟩:=s2.block hne;rw[hq]at hb';cases hb';exact hl
set_option maxHeartbeats 1000000 in
theorem zp2 (w:World):Calls Tryz.prog 62 #[] w fun e w'=>∃v',e=.returned (.agg #[v'])/\NodesS w.heap.size w' v' [([],[])]/\Fr NoM w w':=by
 obtain⟨w2,hw2⟩:∃w2,w2=(w.alloc (.cells #[.slice (some ⟨w.heap.size+1,0,none⟩) 1 1] 26)).alloc (.cells #[.slice none 0 0,.slice none 0 0] 85):=⟨_,rfl⟩;have hf2:Fr NoM w w2:=by rw[hw2];exact((Fr.refl NoM w).alloc _).alloc _
 have hb0:w2.heap[w.heap.size]?=some (.cells #[.slice (some ⟨w.heap.size+1,0,none⟩) 1 1] 26 (0,0)):=by
  rw[hw2];exact((Fr.refl NoM _).alloc _).heap (heap_alloc_new w _) (fun q=>q)
 have hb1:w2.heap[w.heap.size+1]?=some (.cells #[.slice none 0 0,.slice none 0 0] 85 (0,0)):=by
  have h:=heap_alloc_new (w.alloc (.cells #[.slice (some ⟨w.heap.size+1,0,none⟩) 1 1] 26)) (.cells #[.slice none 0 0,.slice none 0 0] 85);rw[World.size_alloc]at h;rw[hw2];exact h
 have k0:w2.cell? ⟨w.heap.size,0,none⟩=some (.slice (some ⟨w.heap.size+1,0,none⟩) 1 1):=by rw[cell_of_row w2 _ 0 _ _ _ hb0];rfl
 have HF2:=Hh hf2;have HB1:=Hh hb1;have HK:=Hh k0;clear hf2 hb0 hb1 k0;go_enter Tryz.func62,Tryz.ntmps62;go_upto_region 1 with fail;go_wp2_with fail;rw[←hw2];clear hw2;refine bodyPost_ret (v:=.agg #[.slice (some ⟨w.heap.size+1,0,none⟩) 1 1]) (by simp[results,Tryz.results62,go_sem,HK.out]) rfl ?_
 refine⟨_,rfl,⟨[(.slice none 0 0,.slice none 0 0)],⟨rfl,.inr ⟨w.heap.size+1,1,_,rfl,Nat.le_succ _,HB1.out,by simp,by decide,by simp,by simp[zb8]⟩⟩,rfl,fun j x y hx hy=>?_,fun q hq=>(List.not_mem_nil (a:=q) hq).elim,List.nodup_nil,fun q hq=>(List.not_mem_nil (a:=q) hq).elim⟩,HF2.out⟩;cases j with
 | zero =>
  have e:([],[])=y:=by simpa using hy
  have e':(Value.slice none 0 0,Value.slice none 0 0)=x:=by simpa using hx
  subst e;subst e';exact⟨SliceOf.nil _ _,SliceOf.nil _ _⟩
 | succ j=>simp at hy
end Go.Proofs.YtghekfmfonoocaaGreatDoor
