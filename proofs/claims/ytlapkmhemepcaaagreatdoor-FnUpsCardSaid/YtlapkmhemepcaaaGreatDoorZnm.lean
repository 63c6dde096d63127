import Derived.Test.YtlapkmhemepcaaaGreatDoorZni
import Derived.Test.YtlapkmhemepcaaaGreatDoorZn17
import Derived.Test.YtlapkmhemepcaaaGreatDoorZny
import Derived.Test.YtlapkmhemepcaaaGreatDoorZn11
/- Lemmas. -/
namespace Go.Proofs.YtlapkmhemepcaaaGreatDoor
set_option linter.unusedVariables false
set_option linter.unusedSimpArgs false
open Go.RowKit
theorem zg6:valB zac=true/\valD zac=(0,0):=by
 have h:IsVal zac 0 0:=⟨.inl rfl,by rw[←ycx (.inl rfl),ycv]⟩;exact h.goodD (GoodD.of (.inl rfl) (by decide) (by omega))
def IsUps (g:Bool)(Fi:List (List Int × List Int))(n s:Int)(ok:Bool):Prop :=
 (ok=true/\g=true/\∃t:Nat,s=t∧-12≤n/\n≤12/\t≤15/\canC (zas (natF Fi))=nusC zac n t) ∨
  (ok=false/\n=0/\s=0/\∀(m:Int) (t:Nat),g=true→-12≤m→m≤12→t≤15→canC (zas (natF Fi))≠nusC zac m t)
theorem IsUps.one {g ok ok':Bool}{Fi:List (List Int × List Int)}{n s n' s':Int}(h:IsUps g Fi n s ok)(h':IsUps g Fi n' s' ok'):n=n'∧s=s'∧ok=ok':=by
 have hz:=zh5 zg6.1;rcases h with ⟨e,hg,t,e1,l1,l2,l3,e2⟩|⟨e,e1,e2,hn⟩
 ·rcases h' with ⟨f,_,u,f1,_,_,_,f2⟩|⟨_,_,_,hm⟩
  ·obtain⟨_,q1,q2⟩:=zo1 _ zac zac n n' t u hz hz e2 f2
   exact⟨q1,by rw[e1,f1,q2],e.trans f.symm⟩
  ·exact absurd e2 (hm n t hg l1 l2 l3)
 ·rcases h' with ⟨_,hg,u,_,k1,k2,k3,f2⟩|⟨f,f1,f2,_⟩
  ·exact absurd f2 (hn n' u hg k1 k2 k3)
  ·exact⟨e1.trans f1.symm,e2.trans f2.symm,e.trans f.symm⟩
def ye0 (g:Bool)(Fi:List (List Int × List Int))(w:World)(e:Ending)(w':World):Prop :=
 ∃(n s:Int) (ok:Bool),e=.returned (.tuple #[.int .i64 n,.int .i64 s,.bool ok])/\IsUps g Fi n s ok/\Fr NoM w w'
set_option maxRecDepth 4000 in
set_option maxHeartbeats 4000000 in
theorem zmv {R:Nat→Prop}(nv:Value)(Fi:List (List Int × List Int))(w:World)(h:NodeL R encI w nv Fi)(g:Bool)(hg:g=true↔zc5 Fi) :
  Calls Tryz.prog 31 #[.agg #[nv]] w fun e w'=>ye0 g Fi w e w':=by
 obtain⟨w1,hw1⟩:∃w1,w1=w.alloc (.cells #[nv] 26):=⟨_,rfl⟩;have f1:Fr NoM w w1:=by rw[hw1];exact(Fr.refl NoM w).alloc _
 have hs1:w1.heap.size=w.heap.size+1:=by rw[hw1];simp
 have e0:w1.heap[w.heap.size]?=some (.cells #[nv] 26 (0,0)):=by rw[hw1];exact heap_alloc_new w _
 have HK:=Hh (fun(W:World) (f:Fr NoM w1 W)=>show W.cell? ⟨w.heap.size,0,none⟩=some nv from by
  have h0:=f.heap e0 (fun q=>q);rw[cell_of_row W _ 0 _ _ _ h0];rfl)
 have F1:=Hh f1;have HS1:=Hh hs1;have HG:=Hh hg;have HN:=Hh (h.low.fr0 f1);have HSig:=Hh (zc9 nv Fi w1 (h.fr0 f1) g hg);obtain⟨na,nc,rfl,z⟩:=id h;clear z h f1 hs1 e0 hg;have k0:=HK.out w1 (Fr.refl _ _);go_enter Tryz.func31,Tryz.ntmps31;go_wp2_with fail;rw[←hw1];clear hw1;(with_reducible refine HSig.out.mono ?_);rintro e w2 ⟨rfl,f2⟩;have HF2:=Hh f2;clear f2 k0;cases g with
 | false =>
  go_wp2;go_ret3;exact⟨0,0,false,rfl,.inr ⟨rfl,rfl,rfl,fun m t e=>by cases e⟩,F1.out.trans HF2.out (fun _ _ q=>q)⟩
 | true =>
  obtain⟨Fs,rfl⟩:=zhm (HG.out.1 rfl);have hgd:=HG.out.1 rfl;have k0:=HK.out w2 HF2.out;go_wp2_with fail;refine(ze3 w2).mono ?_
  rintro e w3 ⟨rfl,hp3,hmaps,f3⟩;obtain⟨pb,hpb⟩:∃pb,pb=w2.heap.size+5:=⟨_,rfl⟩;obtain⟨ob,hob⟩:∃ob,ob=w2.heap.size+1:=⟨_,rfl⟩;obtain⟨sb,hsb⟩:∃sb,sb=w2.heap.size+2:=⟨_,rfl⟩;obtain⟨nb,hnb⟩:∃nb,nb=w2.heap.size+4:=⟨_,rfl⟩;have hmap:=hmaps 2 (by omega);have hmapo:=hmaps 1 (by omega);have hmapn:=hmaps 4 (by omega);rw[←hob]at hmapo hp3;rw[←hsb]at hmap hp3;rw[←hnb]at hmapn hp3;rw[←hpb]at hp3 ⊢;obtain⟨ms,hms⟩:∃v,v=Value.map (some (w2.heap.size+3)):=⟨_,rfl⟩;rw[←hms]at hp3;clear hmaps hms;have hw12:w.heap.size+1≤w2.heap.size:=by have:=HF2.out.size;have:=HS1.out;omega
  have hf13:=HF2.out.trans f3 (fun _ _ q=>q);have hp0:=hp3.low;have HMge:=Hh (show ∀q,(fun q=>(q=w2.heap.size∨q=pb)/\q<w3.heap.size) q→w2.heap.size≤q/\q≠sb/\q≠ob/\q≠nb from fun q hq=>by
   rcases hq.1 with e|e <;> omega)
  have hmn:MapF encN encN w3 nb (fun _=>none):=⟨#[],0,hmapn,by simp,by simp,by simp⟩;have HCn:=Hh (ziv pb ob sb ms (.map (some nb)) (.slice na (i2 Fs).length nc) Fs w3 hp0 (fun q hq=>⟨hq.2,(HMge.out q hq).2.1,(HMge.out q hq).2.2.1⟩) (fun q hq=>hq.1) ⟨#[],0,hmapo,by simp,by simp,by simp⟩ ⟨#[],0,hmap,by simp,by simp,by simp⟩ (by omega) (HN.out.fr0 hf13).ofI (fun k hk hm=>by have:=(HMge.out k hm).1;have hk:k<w.heap.size:=hk;omega) hgd);have HMn:=Hh hmn;have HNb:=Hh (show nb≠ob/\nb≠sb/\nb<w3.heap.size from⟨by omega,by omega,hmn.lt⟩);have HIn:=Hh (fun(W:World) (f:Fr (fun q=>((q=w2.heap.size∨q=pb)/\q<w3.heap.size)∨q=ob∨q=sb) w3 W)=>(hf13.trans f (fun q hq h=>by
   have h2:=HF2.out.size;rcases h with h|h
   ·have:=(HMge.out q h).1;omega
   ·omega):Fr NoM w1 W))
  have hw23:=f3.size;have HW3:=Hh (show w2.heap.size≤ob/\w2.heap.size≤sb/\w2.heap.size≤nb/\w1.heap.size≤w2.heap.size/\w2.heap.size≤w3.heap.size from⟨by omega,by omega,by omega,HF2.out.size,hw23⟩);have HF3:=Hh hf13;clear hp3 hp0 hmap hmapo hmapn hmn hpb hob hsb hnb hw12 hf13 f3 hw23 k0;have k0:=HK.out w3 HF3.out;go_wp2_with fail;(with_reducible refine HCn.out.mono ?_);rintro e wc ⟨i,V,B,M,I,fo,rfl,st,ok,mo',od,hm,hi',hl,hi,hc,kc⟩;have hnb:=HNb.out;have hM:∀q,M q→w2.heap.size≤q/\q≠nb:=fun q hq=>by
   rcases (hm q hq).2 with h|h
   ·exact⟨(HMge.out q h).1,(HMge.out q h).2.2.2⟩
   ·exact⟨Nat.le_trans HW3.out.2.2.2.2 h,by omega⟩
  obtain⟨kb,hkb⟩:∃kb,kb=wc.heap.size:=⟨_,rfl⟩;obtain⟨W4,hW4⟩:∃W4,W4=wc.alloc (.map #[] 0):=⟨_,rfl⟩;have g4:Fr NoM wc W4:=by rw[hW4];exact(Fr.refl NoM wc).alloc _
  have hMI:∀q,M q∨I q→q<wc.heap.size:=fun q h=>h.elim (fun h=>(hm q h).1.1) (fun h=>(hi' q h).1.1)
  have hobl:=mo'.lt;have hout:UOut ob kb M I:=⟨⟨fun h=>(hm ob h).1.2.1 rfl,fun h=>by have:=hMI kb (.inl h);omega⟩,⟨fun h=>(hi' ob h).1.2.1 rfl,fun h=>by have:=hMI kb (.inr h);omega⟩,by omega⟩;have hU:USt pb ob kb (.map (some sb)) ms (.map (some nb)) M I V B W4 fo (fun _=>none):=⟨st.fr0 g4,mo'.fr g4 (fun q=>q),od,by rw[hW4,hkb];exact MapF.made encN zd1 wc,fun k x e=>(by cases e),fun q h=>Nat.lt_of_lt_of_le (hMI q h) g4.size⟩;have HRd:=Hh (ya1 pb ob kb (.map (some sb)) ms (.map (some nb)) V B hout ok.book (by omega) i fo (fun _=>none) W4 hU hi (by rw[hc];exact(yey _).1));have hmn4:=((HMn.out.fr kc (fun e=>by
    rcases e with e|e|e
    ·exact(HMge.out nb e).2.2.2 rfl
    ·exact hnb.1 e
    ·exact hnb.2.1 e)).fr g4 (fun q=>q))
  have hnbl:=hmn4.lt;have hnk:nb<wc.heap.size:=by have:=kc.size;omega
  have HPs:=Hh (fun(W:World) (f':Nat × Nat→Option Bool) (g':Nat→Option ((Int × Nat) × Int × Nat)) (h:USt pb ob kb (.map (some sb)) ms (.map (some nb)) M I V B W f' g') (fr:Fr (fun q=>q=ob∨q=kb) W4 W)=>show PSt encN NegMO (za0 V++upsAll) pb nb (.map (some ob)) (.map (some sb)) ms (.map (some nb)) W V B M I (fun _=>none)from
   ⟨h.pool,ok,fun x hx=>List.mem_append_left _ (zcc (by rw[za1];exact hx)),hmn4.fr fr (fun e=>by
    rcases e with e|e
    ·exact hnb.1 e
    ·omega),NegMO.none V,fun q hq=>⟨h.lt q (.inl hq),(hM q hq).2⟩,fun q hq=>⟨h.lt q (.inr hq),by have:=(hi' q hq).2;omega⟩⟩)
  have HUl:=Hh (show(za0 V++upsAll).length<1000000 by rw[List.length_append,za1,zi0];omega);have HEnd:=Hh (fun(W:World) (f:Fr (fun q=>q=ob∨q=kb) W4 W)=>(F1.out.trans (((HIn.out wc kc).trans g4 (fun _ _ q=>q)).trans f (fun q hq h=>by
   have h3:=HW3.out;have h4:=kc.size;rcases h with h|h
   ·omega
   ·omega)) (fun _ _ q=>q):Fr NoM w W))
  have HEnd2:=Hh (fun(W W':World) (f:Fr (fun q=>q=ob∨q=kb) W4 W) (f':Fr (fun q=>M q∨q=nb) W W')=>((HEnd.out W f).trans f' (fun q hq h=>by
   have h3:=HW3.out;have h9:=HS1.out;rcases h with h|h
   ·have:=(hM q h).1;omega
   ·omega):Fr NoM w W'))
  have HI:=Hh hi;have HC:=Hh hc;have HOk:=Hh ok;clear st ok mo' od hm hi' hl hi hc kc hM hnb k0 g4 hMI hobl hout hU hmn4 hnbl hnk;have hmm:∀(t:TypeId) (w:World),(Instr.makeMap t none).run Tryz.prog w=.ok (.map (some w.heap.size)) (w.alloc (.map #[] 0)):=fun t w=>run_makeMap t w
  go_wp2_with fail;rw[←hW4,←hkb];clear hmm;have HKb:=Hh (show kb<W4.heap.size from by rw[hW4,hkb];simp);clear hW4 hkb;(with_reducible refine HRd.out.mono ?_);rintro e w5 ⟨x,okx,f5,g5,rfl,hx,st5,fr5⟩;unfold zd1;obtain⟨b6,hb6⟩:∃b6,b6=w5.heap.size:=⟨_,rfl⟩;obtain⟨W6,hW6⟩:∃W6,W6=w5.alloc (.cells (zck x) 92):=⟨_,rfl⟩;have g6:Fr NoM w5 W6:=by rw[hW6];exact(Fr.refl NoM w5).alloc _
  have q6:UBox W6 b6 x:=by rw[hb6];exact UBox.made hW6
  have HTx:=Hh hx;have HF6:=Hh (fr5.trans g6 (fun _ _ q=>q.elim));have HB6:=Hh q6;have HPs6:=Hh (HPs.out W6 f5 g5 (st5.fr0 g6) (fr5.trans g6 (fun _ _ q=>q.elim)));have HZ6:=Hh (show(∀q,M q→q<b6)/\nb<b6 from⟨fun q h=>by rw[hb6];exact st5.lt q (.inl h),by
   have h1:=(HPs.out w5 f5 g5 st5 fr5).map.lt;rw[hb6];exact h1⟩)
  unfold zck at hW6;clear hx st5 fr5 g6 q6 HPs HRd;go_upto_region 6 with fail;rw[←hW6,←hb6];clear hW6 hb6;obtain⟨x0,x1,x2,x3⟩:=HB6.out.cells;have HNn:=Hh (fun(h:zpv ((za0 V).getD i 0))=>(show ∀(m:Int) (t:Nat),-12≤m→m≤12→t≤15→canC (zas (natF (i2 Fs)))≠nusC zac m t from fun m t _ _ _ e=>h zac m t ⟨zg6.1,by rw[HC.out];rw[zbe]at e;exact e⟩));have HFin:=Hh (HEnd.out W6 HF6.out);cases okx with
  | false =>
   have HN:=Hh (HNn.out (HTx.out.2 rfl));clear HNn;go_wp2;go_ret3;exact⟨0,0,false,rfl,.inr ⟨rfl,rfl,rfl,fun m t _=>HN.out m t⟩,HFin.out⟩
  | true =>
   have HNa:=Hh (HTx.out.1 rfl).1;clear HNn HTx;obtain⟨⟨T,P⟩,n,s⟩:=x;simp only at x0 x1 x2 x3;have HW:=Hh (fun(m:Int) (t:Nat) (e:canC (zas (natF (i2 Fs)))=nusC zac m t)=>(by
    have h:=HNa.out.of (show IsNus ((za0 V).getD i 0) zac m t from⟨zg6.1,by rw[HC.out];rw[zbe]at e;exact e⟩);have a1:=congrArg (fun z=>z.1.1) h;have a2:=congrArg (fun z=>z.1.2) h;have a3:=congrArg (fun z=>z.2.1) h;have a4:=congrArg (fun z=>z.2.2) h;simp only[zg6.2]at a1 a2 a3 a4;exact⟨⟨a1,a2⟩,a3,a4⟩:(T=0/\P=0)/\n=m/\s=t))
   by_cases hT:T=0/\P=0
   ·obtain⟨rfl,rfl⟩:=hT
    by_cases hn:-12≤n/\n≤12
    ·have b1:¬n < -12:=by omega
     have b2:¬n>12:=by omega
     by_cases hs:s≤15
     ·have b3:¬(s:Int)>15:=by omega
      have hcn:canC (zas Fs)=nusC zac n s:=by
       obtain⟨a,ia,da⟩:=HNa.out;have e:=zg7 ia.1 zg6.1 (da.trans zg6.2.symm);rw[←HC.out,ia.2,e]
      have HUp:=Hh (zvk HUl.out (fun m t hm ht=>⟨List.mem_append_right _ (zhz hm ht).1,List.mem_append_right _ (zhz hm ht).2⟩) pb nb (.map (some ob)) (.map (some sb)) ms n hn.1 hn.2 s hs V B M I (fun _=>none) W6 HPs6.out);have HCn:=Hh hcn;have HNs:=Hh (And.intro hn hs);clear hn hs hcn HW;go_wp2_with fail;(with_reducible refine HUp.out.mono ?_);rintro e w7 ⟨j,V7,B7,M7,I7,f7,rfl,st7,nx7,hj,hcj⟩;have hi7:i<V7.length:=Nat.lt_of_lt_of_le HI.out nx7.pre.length_le;have hci:(za0 V7).getD i 0=canC (zas Fs):=by rw[zaq nx7.pre HI.out];exact HC.out
      have hji:j=i:=zb9 st7.ok.book.nodup (by rw[za1];exact hj) (by rw[za1];exact hi7) (by rw[hcj,hci];exact HCn.out.symm);subst hji;have hz6:=HZ6.out;obtain⟨x0,x1,x2,x3⟩:=(HB6.out.fr nx7.fr (fun e=>by
       rcases e with e|e
       ·have:=hz6.1 b6 e;omega
       ·omega)).cells
      have HF7:=Hh (HEnd2.out W6 w7 HF6.out nx7.fr);clear st7 nx7 hj hcj hi7 hci hz6;go_wp2_with fail;go_quiet (fail);go_wp2;go_ret3;exact⟨n,(s:Int),true,rfl,.inl ⟨rfl,rfl,s,rfl,HNs.out.1.1,HNs.out.1.2,HNs.out.2,by rw[zbe];exact HCn.out⟩,HF7.out.trans (zcq _ _) (fun _ _ q=>q)⟩
     ·have b3:(s:Int)>15:=by omega
      have HN:=Hh (show ∀(m:Int) (t:Nat),-12≤m→m≤12→t≤15→canC (zas (natF (i2 Fs)))≠nusC zac m t from fun m t _ _ ht e=>hs (by rw[(HW.out m t e).2.2];exact ht));clear hn hs HW;go_wp2;go_ret3;exact⟨0,0,false,rfl,.inr ⟨rfl,rfl,rfl,fun m t _=>HN.out m t⟩,HFin.out⟩
    ·have HN:=Hh (show ∀(m:Int) (t:Nat),-12≤m→m≤12→t≤15→canC (zas (natF (i2 Fs)))≠nusC zac m t from fun m t h1 h2 _ e=>hn (by rw[(HW.out m t e).2.1];exact⟨h1,h2⟩))
     clear HW;by_cases b1:n < -12
     ·clear hn
      go_wp2;go_ret3;exact⟨0,0,false,rfl,.inr ⟨rfl,rfl,rfl,fun m t _=>HN.out m t⟩,HFin.out⟩
     ·have b2:n>12:=by omega
      clear hn;go_wp2;go_ret3;exact⟨0,0,false,rfl,.inr ⟨rfl,rfl,rfl,fun m t _=>HN.out m t⟩,HFin.out⟩
   ·have HN:=Hh (show ∀(m:Int) (t:Nat),-12≤m→m≤12→t≤15→canC (zas (natF (i2 Fs)))≠nusC zac m t from fun m t _ _ _ e=>hT (HW.out m t e).1)
    have HTn:=Hh hT;clear hT HW;by_cases hT0:T=0
    ·have hP0:¬P=0:=fun e=>HTn.out ⟨hT0,e⟩
     subst hT0;have hP1:¬(P:Int)=0:=by omega
     have hP2:((P:Int) == 0)=false:=by rw[beq_eq_false_iff_ne];omega
     clear hP0;go_wp2;go_ret3;exact⟨0,0,false,rfl,.inr ⟨rfl,rfl,rfl,fun m t _=>HN.out m t⟩,HFin.out⟩
    ·have hT1:(T == 0)=false:=by rw[beq_eq_false_iff_ne];exact hT0
     go_wp2;go_ret3;exact⟨0,0,false,rfl,.inr ⟨rfl,rfl,rfl,fun m t _=>HN.out m t⟩,HFin.out⟩
end Go.Proofs.YtlapkmhemepcaaaGreatDoor
