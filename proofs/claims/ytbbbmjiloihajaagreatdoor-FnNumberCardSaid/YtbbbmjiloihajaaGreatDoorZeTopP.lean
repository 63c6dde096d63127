import Derived.Test.YtbbbmjiloihajaaGreatDoorZeNumOfP
/- What the claim of FnNumberCard needs of: NumSay TopP. -/
namespace Go.Proofs.YtbbbmjiloihajaaGreatDoor
set_option linter.unusedVariables false
set_option linter.unusedSimpArgs false
open Go.RowKit
theorem codeF_num (t:Int)(p:Nat):codeF (numN t p)=numC t p:=by unfold numN;rw[codeF_formOf]
theorem num_is {t:Int}{p:Nat}(hr:Red t p):IsVal (numC t p) t p:=⟨hr,rfl⟩
theorem num_can {t:Int}{p:Nat}(hr:Red t p):canC (numC t p)=numC t p:=by
 rw[←nr_of hr];exact canC_self (can_nr _ _)
theorem numOf_num {t:Int}{p:Nat}(hr:Red t p)(hg:GoodD t p):numOf true (i2 (numN t p))=(t,p)∧okOf true (i2 (numN t p))=true:=by
 obtain⟨a,b⟩:=(num_is hr).goodD hg;unfold numOf okOf;rw[natF_i2,codeF_num,num_can hr,if_pos rfl,b,a];exact⟨rfl,rfl⟩
theorem num_at {t:Int}{p N:Nat}(hr:Red t p)(hp:p≤N):numC t p=nr (t*2^(N-p)) N:=by
 rw[←nr_of hr,←nr_level t p (N-p),show p+(N-p)=N from by omega]
theorem can_sum2 {t s:Int}{p q:Nat}(hr:Red t p)(hs:Red s q)(hp:p≤16)(hq:q≤16):canC (codeF (sumN (numN t p) (numN s q)))=nr (t*2^(16-p)+s*2^(16-q)) 16:=by
 unfold sumN;rw[codeF_formOf,codeF_num,codeF_num,num_at hr hp,num_at hs hq,(nr_sum _ _ _).can,canC_self (can_nr _ _)]
theorem numOf_sum {t s:Int}{p q:Nat}(hr:Red t p)(hs:Red s q)(hp:p≤16)(hq:q≤16)(y:Int × Nat)(hy:y=redT (t*2^(16-p)+s*2^(16-q)) 16)(hg:GoodD y.1 y.2) :
  numOf true (i2 (sumN (numN t p) (numN s q)))=y∧okOf true (i2 (sumN (numN t p) (numN s q)))=true:=by
 have h:=nr_val (t*2^(16-p)+s*2^(16-q)) 16;rw[←hy]at h;obtain⟨a,b⟩:=h.goodD hg;unfold numOf okOf;rw[natF_i2,can_sum2 hr hs hp hq,if_pos rfl,b,a];exact⟨rfl,rfl⟩
theorem code_at_inj {V:List PL}{BV:List Nat}(h:PoolOK V BV){i j:Nat}(hi:i<V.length)(hj:j<V.length)(e:(codesOf V).getD i 0=(codesOf V).getD j 0):i=j:=by
 have hi':i<(codesOf V).length:=by rw[codesOf_length];exact hi
 have hj':j<(codesOf V).length:=by rw[codesOf_length];exact hj
 rw[List.getD_eq_getElem?_getD,List.getD_eq_getElem?_getD,List.getElem?_eq_getElem hi',List.getElem?_eq_getElem hj']at e;exact(List.getElem_inj h.book.nodup).1 e
set_option maxRecDepth 4000 in
set_option maxHeartbeats 8000000 in
theorem isCanP_any {R:Nat→Prop}(nv:Value)(Fs:List PL)(w:World)(h:NodeL R encI w nv (i2 Fs))(hgd:goodI (i2 Fs))(is:Bool)(his:is=decide (canC (codeF Fs)=codeF Fs)) :
  Calls Tryz.prog 41 #[.agg #[nv]] w fun e w'=>e=.returned (.tuple #[.bool is,.bool true])∧Fr NoM w w':=by
 obtain⟨w1,hw1⟩:∃w1,w1=w.alloc (.cells #[nv] 31):=⟨_,rfl⟩;have f1:Fr NoM w w1:=by rw[hw1];exact(Fr.refl NoM w).alloc _
 have hs1:w1.heap.size=w.heap.size+1:=by rw[hw1];simp
 have e0:w1.heap[w.heap.size]?=some (.cells #[nv] 31 (0,0)):=by rw[hw1];exact heap_alloc_new w _
 have HK:=Hh (fun(W:World) (f:Fr NoM w1 W)=>(by rw[cell_of_row W _ 0 _ _ _ (f.heap e0 (fun q=>q))];rfl:W.cell? ⟨w.heap.size,0,none⟩=some nv));have HF1:=Hh f1;have HS1:=Hh hs1;have HGd:=Hh hgd;have HIs:=Hh his;have HN:=Hh (h.low.fr0 f1);have HSig:=Hh (goodFormP_any nv (i2 Fs) w1 (h.fr0 f1) true (by simp[hgd]));obtain⟨na,nc,rfl,z⟩:=id h;clear z h f1 hs1 e0 hgd his;have k0:=HK.out w1 (Fr.refl _ _);go_enter Tryz.func41,Tryz.ntmps41;go_wp2_with fail;rw[←hw1];clear hw1;(with_reducible refine HSig.out.mono ?_);rintro e w2 ⟨rfl,f2⟩;have HF2:=Hh f2;clear f2 k0;have hgd:=HGd.out;have k0:=HK.out w2 HF2.out;go_wp2_with fail;refine(newPool_any w2).mono ?_
 rintro e w3 ⟨rfl,hp3,hmaps,f3⟩;obtain⟨pb,hpb⟩:∃pb,pb=w2.heap.size+5:=⟨_,rfl⟩;obtain⟨ob,hob⟩:∃ob,ob=w2.heap.size+1:=⟨_,rfl⟩;obtain⟨sb,hsb⟩:∃sb,sb=w2.heap.size+2:=⟨_,rfl⟩;have hmap:=hmaps 2 (by omega);have hmapo:=hmaps 1 (by omega);rw[←hob]at hmapo hp3;rw[←hsb]at hmap hp3;rw[←hpb]at hp3 ⊢;obtain⟨ms,hms⟩:∃v,v=Value.map (some (w2.heap.size+3)):=⟨_,rfl⟩;obtain⟨mn,hmn⟩:∃v,v=Value.map (some (w2.heap.size+4)):=⟨_,rfl⟩;rw[←hms,←hmn]at hp3;clear hmaps hms hmn;have hsbl:sb<w3.heap.size:=(Array.getElem?_eq_some_iff.1 hmap).1;have hobl:ob<w3.heap.size:=(Array.getElem?_eq_some_iff.1 hmapo).1;have hos:ob≠sb:=by omega
 have HMo:=Hh (show MapF encP encB w3 ob (fun _=>none)from⟨#[],0,hmapo,by simp,by simp,by simp⟩);have hw12:w.heap.size+1≤w2.heap.size:=by have:=HF2.out.size;have:=HS1.out;omega
 have hf13:=HF2.out.trans f3 (fun _ _ q=>q);have HMp:=Hh (show MapF encN encN w3 sb (fun _=>none)from⟨#[],0,hmap,by simp,by simp,by simp⟩);have hp0:=hp3.low;have HMge:=Hh (show ∀q,(fun q=>(q=w2.heap.size∨q=pb)∧q<w3.heap.size) q→w2.heap.size≤q∧q≠sb∧q≠ob from fun q hq=>by
  rcases hq.1 with e|e <;> omega)
 have hr1:=rootP_any pb (.slice na (i2 Fs).length nc) [] Fs [] (.map (some ob)) (.map (some sb)) ms mn w3 hp0 (fun q hq=>hq.2) (fun q hq=>hq.2) PoolOK.nil (HN.out.fr0 hf13).ofI (fun k hk hm=>by have:=(HMge.out k hm).1;have hk:k<w.heap.size:=hk;omega) hgd (by simp);obtain⟨M3,hM3⟩:∃M3:Nat→Prop,M3=fun q=>(q=w2.heap.size∨q=pb)∧q<w3.heap.size:=⟨_,rfl⟩
 obtain⟨I3,hI3⟩:∃I3:Nat→Prop,I3=fun q=>NoM q∧q<w3.heap.size:=⟨_,rfl⟩
 have HMge:=Hh (show ∀q,M3 q→w2.heap.size≤q∧q≠sb∧q≠ob from by rw[hM3];exact HMge.out);have HIno:=Hh (show ∀q,¬I3 q from by rw[hI3];exact fun q h=>h.1);rw[←hM3,←hI3]at hr1;have HRt1:=Hh hr1;have HIn:=Hh (fun(W:World) (f:Fr (fun q=>M3 q∨q=ob∨q=sb) w3 W)=>(hf13.trans f (fun q hq h=>by
  have h2:=HF2.out.size;rcases h with h|h
  ·have:=(HMge.out q h).1;omega
  ·omega):Fr NoM w1 W))
 have hFl:Fs.length≤120:=by have h:=hgd.1;unfold fitsB at h;rw[decide_eq_true_eq,i2_length]at h;exact h.1
 have HObl:=Hh hobl;have HOs:=Hh hos;have HSb:=Hh hsbl;have HW12:=Hh hw12;have F23:=Hh f3;have HFl:=Hh hFl;clear k0;have k0:=HK.out w3 hf13;clear hp3 hmap hmapo hpb hsb hob hobl hos hsbl hw12 hf13 hp0 hr1 hM3 hI3 hFl f3 hgd;go_wp2_with fail;(with_reducible refine HRt1.out.mono ?_);rintro e wa ⟨r1,V1,B1,M1,I1,rfl,pa,oa,va,ra,ca,ua,ma,ia,fa⟩;have lv1:V1.length≤120:=by
  have h1:=pool_size oa ua;have h2:=HFl.out;rw[List.length_append,codesOf_length,codesOf_length]at h1;simp at h1;omega
 have HSum:=Hh (can_call pb ob sb ms mn V1 B1 r1 wa pa oa (HMo.out.fr fa (fun h=>(HMge.out _ h).2.2 rfl)) (HMp.out.fr fa (fun h=>(HMge.out _ h).2.1 rfl)) (fun q hq=>⟨(ma q hq).2,fun e=>by
  have hs:=HObl.out;rcases (ma q hq).1 with h|h
  ·exact(HMge.out q h).2.2 e
  ·omega,fun e=>by
  have hs:=HSb.out;rcases (ma q hq).1 with h|h
  ·exact(HMge.out q h).2.1 e
  ·omega⟩) (fun q hq=>⟨(ia q hq).2,fun e=>by
  have hs:=HObl.out;rcases (ia q hq).1 with h|h
  ·exact HIno.out q h
  ·omega,fun e=>by
  have hs:=HSb.out;rcases (ia q hq).1 with h|h
  ·exact HIno.out q h
  ·omega⟩) HOs.out ra (by omega))
 have FA:=Hh fa;have HMa:=Hh ma;have HCa:=Hh ca;have HLv:=Hh lv1;have HRl:=Hh ra;clear pa oa va ra ca ua ma ia fa lv1 k0;go_wp2_with fail;(with_reducible refine HSum.out.mono ?_);rintro e wc ⟨i,V3,B3,M4,I4,ffo,ffc,rfl,st,nx,hi,hci⟩;rw[HCa.out]at hci;have hci:=hci.eq;have hr3:r1<V3.length:=Nat.lt_of_lt_of_le HRl.out nx.pre.length_le;have hcr:(codesOf V3).getD r1 0=codeF Fs:=by rw[code_mono nx.pre HRl.out];exact HCa.out
 have heq:decide ((i:Int)=(r1:Int))=is:=by
  rw[HIs.out,Bool.eq_iff_iff,decide_eq_true_eq,decide_eq_true_eq];constructor
  ·intro e
   have e:i=r1:=by omega
   rw[←hci,e,hcr]
  ·intro e
   have:=code_at_inj st.ok hi hr3 (by rw[hci,hcr,e]);omega
 have HEq:=Hh heq;have kc:Fr (fun q=>M3 q∨q=ob∨q=sb) w3 wc:=(FA.out.mono (fun _ _ q=>.inl q)).trans nx.fr (fun q hq h=>h.elim (fun h=>by
  rcases (HMa.out q h).1 with h|h
  ·exact .inl h
  ·omega) .inr)
 have KD:=Hh (HF1.out.trans (HIn.out wc kc) (fun _ _ q=>q));clear st nx hi hci hr3 hcr heq kc;go_wp2;go_ret2;exact⟨by rw[←HEq.out];rfl,KD.out⟩
end Go.Proofs.YtbbbmjiloihajaaGreatDoor
