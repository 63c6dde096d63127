import Derived.Test.YtcalpapdkmnblaaGreatDoorZlr
import Derived.Test.YtcalpapdkmnblaaGreatDoorZlu
/- Lemmas. -/
namespace Go.Proofs.YtcalpapdkmnblaaGreatDoor
set_option linter.unusedVariables false
set_option linter.unusedSimpArgs false
open Go.RowKit
def zm1 (n:Nat):List Nat:=(List.range (n+1)).map zam
theorem zmy {n k:Nat}(h:k≤n):zam k∈zm1 n:=List.mem_map.2 ⟨k,List.mem_range.2 (by omega),rfl⟩
theorem zi9 (n:Nat):(zm1 n).length=n+1:=by unfold zm1;rw[List.length_map,List.length_range]
set_option maxRecDepth 4000 in
set_option maxHeartbeats 8000000 in
theorem zn0 (w:World)(n:Nat)(hn:n≤15):Calls Tryz.prog 44 #[.int .i64 (n:Int)] w fun e w'=>∃v',e=.returned (.tuple #[.agg #[v'],.bool true])/\NodesS w.heap.size w' v' (zbt (n+1))/\Fr NoM w w':=by
 obtain⟨RN,hRN⟩:∃RN,RN=zbt (n+1):=⟨_,rfl⟩;rw[←hRN];have HRN:=Hh hRN;clear hRN;obtain⟨w1,hw1⟩:∃w1,w1=w.alloc (.cells #[.slice none 0 0] 26):=⟨_,rfl⟩;have f1:Fr NoM w w1:=by rw[hw1];exact(Fr.refl NoM w).alloc _
 have hs1:w1.heap.size=w.heap.size+1:=by rw[hw1];simp
 have e1:w1.heap[w.heap.size]?=some (.cells #[.slice none 0 0] 26 (0,0)):=by rw[hw1];exact heap_alloc_new w _
 have HK:=Hh (fun(W:World) (f:Fr (fun q=>w1.heap.size≤q) w1 W)=>(by
  have h1:=f.heap e1 (fun q=>by omega);exact⟨by rw[cell_of_row W _ 0 _ _ _ h1];rfl,by simp[World.frozen?,h1]⟩:W.cell? ⟨w.heap.size,0,none⟩=some (.slice none 0 0)/\W.frozen? ⟨w.heap.size,0,none⟩=false))
 have F1:=Hh f1;have HS1:=Hh hs1;have HN:=Hh hn;have a1:¬(n:Int)<0:=by omega
 have a2:¬(n:Int)>15:=by omega
 clear f1 hs1 e1 hn;go_enter Tryz.func44,Tryz.ntmps44;go_wp2_with fail;rw[←hw1];clear hw1;(with_reducible refine(zg0 w1).mono ?_);rintro e w3 ⟨rfl,hp3,hmaps,f3⟩;obtain⟨pb,hpb⟩:∃pb,pb=w1.heap.size+5:=⟨_,rfl⟩;obtain⟨sb,hsb⟩:∃sb,sb=w1.heap.size+4:=⟨_,rfl⟩;have hmap:=hmaps 4 (by omega);rw[←hsb]at hmap hp3;rw[←hpb]at hp3 ⊢;obtain⟨mo,hmo⟩:∃v,v=Value.map (some (w1.heap.size+1)):=⟨_,rfl⟩;obtain⟨mc,hmc⟩:∃v,v=Value.map (some (w1.heap.size+2)):=⟨_,rfl⟩;obtain⟨ms,hms⟩:∃v,v=Value.map (some (w1.heap.size+3)):=⟨_,rfl⟩;rw[←hmo,←hmc,←hms]at hp3;clear hmaps hmo hmc hms;have hlo:=hp3.low;have hst:PSt encN NegMO (zm1 n) pb sb mo mc ms (.map (some sb)) w3 [] [] (fun q=>(q=w1.heap.size∨q=pb)/\q<w3.heap.size) (fun q=>NoM q/\q<w3.heap.size) (fun _=>none) :=
  ⟨hlo,PoolOK.nil,fun x hx=>by simp at hx,⟨#[],0,hmap,by simp,by simp,by simp⟩,NegMO.none [],fun q hq=>⟨hq.2,by rcases hq.1 with h|h <;> omega⟩,fun q hq=>⟨hq.2,hq.1.elim⟩⟩
 have hn:=HN.out;have HUp:=Hh (zp9 (U:=zm1 n) (by rw[zi9];omega) pb sb mo mc ms n (by omega) (fun k hk=>zmy hk) [] [] _ _ _ w3 hst);have F3:=Hh f3;have HPb:=Hh (And.intro hpb hsb);clear hp3 hlo hst hmap f3 hpb hsb hn a1 a2;go_wp2_with fail;(with_reducible refine HUp.out.mono ?_);rintro e wy ⟨tt,Vy,By,My,Iy,fy,rfl,sty,nxy,ly,qy⟩;have hlen:=sty.len;rw[zi9]at hlen;have HFm:=Hh (zn9 pb tt Vy By mo mc ms (.map (some sb)) wy sty.pool sty.ok ly (by have:=HN.out;omega));have hfo:=zgi sty.ok ly qy;have HRs:=Hh (fun(okf:Bool) (FR:List PL) (hres:FormRes Vy By tt okf FR)=>(by
  obtain⟨h1,h2⟩:=FormRes.is sty.ok ly hres;rw[hfo]at h1 h2;rw[zmx (show n≤24 by have:=HN.out;omega)]at h1;refine⟨h1,?_⟩;rw[HRN.out,h2,h1,zg6];rfl:okf=true/\FR=RN))
 have Fy:=Hh (F3.out.any.trans nxy.fr (fun k _ h=>by
  have:=HPb.out;rcases h with h|h
  ·rcases h.1 with h|h <;> omega
  ·omega):Fr (fun q=>w1.heap.size≤q) w1 wy)
 clear sty nxy ly qy hlen hfo;go_wp2_with fail;(with_reducible refine HFm.out.mono ?_);rintro e wz ⟨nv,okf,FR,rfl,hres,hns,fz⟩;obtain⟨rfl,rfl⟩:=HRs.out okf FR hres;have Fz:=Hh (Fy.out.trans fz (fun _ _ q=>q.elim));have HNs:=Hh hns;have HZz:=Hh (show w.heap.size+1≤wy.heap.size from by have:=Fy.out.size;have:=HS1.out;omega);obtain⟨an,cn,rfl,zz⟩:=id hns.nodeL;clear zz hns fz hres;obtain⟨k1,k2⟩:=HK.out wz Fz.out;go_wp2;refine bodyPost_ret (v:=.tuple #[.agg #[.slice an FR.length cn],.bool true]) (by simp[results,Tryz.results44,go_sem,k1,k2]) rfl ?_
 refine⟨_,rfl,?_,(F1.out.trans Fz.out (fun k hk h=>by have h:w1.heap.size≤k:=h;have:=HS1.out;omega)).setCell _ _ (fun h=>by have h:w.heap.size<w.heap.size:=h;omega)⟩;exact(HNs.out.fr (Fr.set wz ⟨w.heap.size,0,none⟩ (.slice an FR.length cn)) (fun q hq _ e=>by have e:q=w.heap.size:=e;have:=HZz.out;omega)).base (D':=w.heap.size) (by have:=HZz.out;omega)
set_option maxRecDepth 4000 in
set_option maxHeartbeats 8000000 in
theorem zmz (w:World)(k:Int)(hk:k<0∨15<k):Calls Tryz.prog 44 #[.int .i64 k] w fun e w'=>∃v',e=.returned (.tuple #[.agg #[v'],.bool false])/\NodesS w.heap.size w' v' []/\Fr NoM w w':=by
 obtain⟨w1,hw1⟩:∃w1,w1=w.alloc (.cells #[.slice none 0 0] 26):=⟨_,rfl⟩;have f1:Fr NoM w w1:=by rw[hw1];exact(Fr.refl NoM w).alloc _
 have e1:w1.heap[w.heap.size]?=some (.cells #[.slice none 0 0] 26 (0,0)):=by rw[hw1];exact heap_alloc_new w _
 have k1:w1.cell? ⟨w.heap.size,0,none⟩=some (.slice none 0 0):=by rw[cell_of_row w1 _ 0 _ _ _ e1];rfl
 have k2:w1.frozen? ⟨w.heap.size,0,none⟩=false:=by simp[World.frozen?,e1]
 have F1:=Hh f1;clear f1 e1;by_cases a1:k<0
 ·clear hk
  go_enter Tryz.func44,Tryz.ntmps44;go_wp2_with fail;rw[←hw1];clear hw1;go_wp2;refine bodyPost_ret (v:=.tuple #[.agg #[.slice none 0 0],.bool false]) (by simp[results,Tryz.results44,go_sem,k1,k2]) rfl ?_
  exact⟨_,rfl,NodesS.nil _ _,F1.out⟩
 ·have a2:k>15:=by omega
  clear hk;go_enter Tryz.func44,Tryz.ntmps44;go_wp2_with fail;rw[←hw1];clear hw1;go_wp2;refine bodyPost_ret (v:=.tuple #[.agg #[.slice none 0 0],.bool false]) (by simp[results,Tryz.results44,go_sem,k1,k2]) rfl ?_
  exact⟨_,rfl,NodesS.nil _ _,F1.out⟩
def zks (g:Bool)(Fi:List (List Int × List Int))(w:World)(e:Ending)(w':World):Prop :=
 ∃(t:Int) (ok:Bool),e=.returned (.tuple #[.int .i64 t,.bool ok])/\IsStar g Fi t ok/\Fr NoM w w'
set_option maxRecDepth 4000 in
set_option maxHeartbeats 8000000 in
theorem zia {R:Nat→Prop}(nv:Value)(Fi:List (List Int × List Int))(w:World)(h:NodeL R encI w nv Fi)(g:Bool)(hg:g=true↔zc3 Fi) :
  Calls Tryz.prog 45 #[.agg #[nv]] w fun e w'=>zks g Fi w e w':=by
 obtain⟨w1,hw1⟩:∃w1,w1=w.alloc (.cells #[nv] 26):=⟨_,rfl⟩;have f1:Fr NoM w w1:=by rw[hw1];exact(Fr.refl NoM w).alloc _
 have hs1:w1.heap.size=w.heap.size+1:=by rw[hw1];simp
 have e0:w1.heap[w.heap.size]?=some (.cells #[nv] 26 (0,0)):=by rw[hw1];exact heap_alloc_new w _
 have HK:=Hh (fun(W:World) (f:Fr NoM w1 W)=>show W.cell? ⟨w.heap.size,0,none⟩=some nv from by
  have h0:=f.heap e0 (fun q=>q);rw[cell_of_row W _ 0 _ _ _ h0];rfl)
 have F1:=Hh f1;have HS1:=Hh hs1;have HG:=Hh hg;have HN:=Hh (h.low.fr0 f1);have HSig:=Hh (zep nv Fi w1 (h.fr0 f1) g hg);obtain⟨na,nc,rfl,z⟩:=id h;clear z h f1 hs1 e0 hg;have k0:=HK.out w1 (Fr.refl _ _);go_enter Tryz.func45,Tryz.ntmps45;go_wp2_with fail;rw[←hw1];clear hw1;(with_reducible refine HSig.out.mono ?_);rintro e w2 ⟨rfl,f2⟩;have HF2:=Hh f2;clear f2 k0;cases g with
 | false =>
  go_wp2;go_ret2;exact⟨0,false,rfl,.inr ⟨rfl,rfl,fun _ e=>by cases e⟩,F1.out.trans HF2.out (fun _ _ q=>q)⟩
 | true =>
  obtain⟨Fs,rfl⟩:=zec (HG.out.1 rfl);have hgd:=HG.out.1 rfl;have k0:=HK.out w2 HF2.out;go_wp2_with fail;refine(zg0 w2).mono ?_
  rintro e w3 ⟨rfl,hp3,hmaps,f3⟩;obtain⟨pb,hpb⟩:∃pb,pb=w2.heap.size+5:=⟨_,rfl⟩;obtain⟨ob,hob⟩:∃ob,ob=w2.heap.size+1:=⟨_,rfl⟩;obtain⟨sb,hsb⟩:∃sb,sb=w2.heap.size+2:=⟨_,rfl⟩;obtain⟨nb,hnb⟩:∃nb,nb=w2.heap.size+4:=⟨_,rfl⟩;have hmap:=hmaps 2 (by omega);have hmapo:=hmaps 1 (by omega);have hmapn:=hmaps 4 (by omega);rw[←hob]at hmapo hp3;rw[←hsb]at hmap hp3;rw[←hnb]at hmapn hp3;rw[←hpb]at hp3 ⊢;obtain⟨ms,hms⟩:∃v,v=Value.map (some (w2.heap.size+3)):=⟨_,rfl⟩;rw[←hms]at hp3;clear hmaps hms;have hw12:w.heap.size+1≤w2.heap.size:=by have:=HF2.out.size;have:=HS1.out;omega
  have hf13:=HF2.out.trans f3 (fun _ _ q=>q);have hp0:=hp3.low;have HMge:=Hh (show ∀q,(fun q=>(q=w2.heap.size∨q=pb)/\q<w3.heap.size) q→w2.heap.size≤q/\q≠sb/\q≠ob/\q≠nb from fun q hq=>by
   rcases hq.1 with e|e <;> omega)
  have hmn:MapF encN encN w3 nb (fun _=>none):=⟨#[],0,hmapn,by simp,by simp,by simp⟩;have HCn:=Hh (znv pb ob sb ms (.map (some nb)) (.slice na (i2 Fs).length nc) Fs w3 hp0 (fun q hq=>⟨hq.2,(HMge.out q hq).2.1,(HMge.out q hq).2.2.1⟩) (fun q hq=>hq.1) ⟨#[],0,hmapo,by simp,by simp,by simp⟩ ⟨#[],0,hmap,by simp,by simp,by simp⟩ (by omega) (HN.out.fr0 hf13).ofI (fun k hk hm=>by have:=(HMge.out k hm).1;have hk:k<w.heap.size:=hk;omega) hgd);have HMn:=Hh hmn;have HNb:=Hh (show nb≠ob/\nb≠sb/\nb<w3.heap.size from⟨by omega,by omega,hmn.lt⟩);have HIn:=Hh (fun(W:World) (f:Fr (fun q=>((q=w2.heap.size∨q=pb)/\q<w3.heap.size)∨q=ob∨q=sb) w3 W)=>(hf13.trans f (fun q hq h=>by
   have h2:=HF2.out.size;rcases h with h|h
   ·have:=(HMge.out q h).1;omega
   ·omega):Fr NoM w1 W))
  have hw23:=f3.size;have HW3:=Hh (show w2.heap.size≤ob/\w2.heap.size≤sb/\w2.heap.size≤nb/\w1.heap.size≤w2.heap.size/\w2.heap.size≤w3.heap.size from⟨by omega,by omega,by omega,HF2.out.size,hw23⟩);have HF3:=Hh hf13;clear hp3 hp0 hmap hmapo hmapn hmn hpb hob hsb hnb hw12 hf13 f3 hw23 k0;have k0:=HK.out w3 HF3.out;go_wp2_with fail;(with_reducible refine HCn.out.mono ?_);rintro e wc ⟨i,V,B,M,I,fo,rfl,st,ok,mo',od,hm,hi',hl,hi,hc,kc⟩;have hnb:=HNb.out;have hM:∀q,M q→w2.heap.size≤q/\q≠nb:=fun q hq=>by
   rcases (hm q hq).2 with h|h
   ·exact⟨(HMge.out q h).1,(HMge.out q h).2.2.2⟩
   ·exact⟨Nat.le_trans HW3.out.2.2.2.2 h,by omega⟩
  have hst:PSt encN NegMO (za0 V++zm1 15) pb nb (.map (some ob)) (.map (some sb)) ms (.map (some nb)) wc V B M I (fun _=>none) :=
   ⟨st,ok,fun x hx=>List.mem_append_left _ (zcb (by rw[za1];exact hx)),HMn.out.fr kc (fun e=>by
    rcases e with e|e|e
    ·exact(HMge.out nb e).2.2.2 rfl
    ·exact hnb.1 e
    ·exact hnb.2.1 e),NegMO.none V,fun q hq=>⟨(hm q hq).1.1,(hM q hq).2⟩,fun q hq=>⟨(hi' q hq).1.1,by have:=(hi' q hq).2;omega⟩⟩
  have HUl:=Hh (show(za0 V++zm1 15).length<1000000 by rw[List.length_append,za1,zi9];omega);have HEnd:=Hh (fun(W:World) (f:Fr (fun q=>M q∨q=nb) wc W)=>(F1.out.trans ((HIn.out wc kc).trans f (fun q hq h=>by
   have h3:=HW3.out;rcases h with h|h
   ·have:=(hM q h).1;omega
   ·omega)) (fun _ _ q=>q):Fr NoM w W))
  have HSt:=Hh (fun(k:Nat) (hk:k≤15) (W:World) (V1:List PL) (B1:List Nat) (M1 I1:Nat→Prop) (f1:Nat→Option Nat) (hs:PSt encN NegMO (za0 V++zm1 15) pb nb (.map (some ob)) (.map (some sb)) ms (.map (some nb)) W V1 B1 M1 I1 f1)=>zp9 HUl.out pb nb (.map (some ob)) (.map (some sb)) ms k (by omega) (fun j hj=>List.mem_append_right _ (zmy (by omega))) V1 B1 M1 I1 f1 W hs);have H0:=Hh hst;have HI:=Hh hi;have HC:=Hh hc;clear st ok mo' od hm hi' hl hi hc kc hM hst hnb k0;go_wp2_with fail;go_loopw [14] (fun t W=>∃(k:Nat) (V1:List PL) (B1:List Nat) (M1 I1:Nat→Prop) (f1:Nat→Option Nat),t=.int .i64 k/\k≤16/\PSt encN NegMO (za0 V++zm1 15) pb nb (.map (some ob)) (.map (some sb)) ms (.map (some nb)) W V1 B1 M1 I1 f1/\PNx nb wc V M I W V1 M1 I1/\∀m,m<k→zam m≠canC (zak Fs)) (fun t _=>16-(intOf t).toNat)
  case atStart=>exact⟨0,V,B,M,I,fun _=>none,rfl,by omega,H0.out,PNx.of0 (Fr.refl _ _),fun m hm=>by omega⟩
  case round =>
   obtain⟨k,V1,B1,M1,I1,f1,rfl,hk,hs,hx,hno⟩:=hrel;obtain⟨w7,rfl⟩:∃w7,w7=wr:=⟨_,rfl⟩;have HX:=Hh hx;have HNo:=Hh hno;by_cases hk16:k<16
   ·have HSk:=Hh (HSt.out k (by omega) w7 V1 B1 M1 I1 f1 hs)
    have a1:(k:Int)<16:=by omega
    clear hs hx hno;go_wp2_with fail;(with_reducible refine HSk.out.mono ?_);rintro e w8 ⟨j,V2,B2,M2,I2,f2,rfl,st2,nx2,hj,hcj⟩;have hx2:=HX.out.trans nx2;have hi2:i<V2.length:=Nat.lt_of_lt_of_le HI.out hx2.pre.length_le;have hci:(za0 V2).getD i 0=canC (zak Fs):=by rw[zah hx2.pre HI.out];exact HC.out
    have F8:=Hh (HEnd.out w8 hx2.fr);by_cases hji:j=i
    ·have hE:zam k=canC (zak Fs):=by rw[←hcj,hji,hci]
     have HE:=Hh hE;have hji':(j:Int)=(i:Int):=by omega
     have hkk:k≤15:=by omega
     clear st2 nx2 hj hcj hx2 hi2 hci hE hji;go_wp2;go_ret2;exact⟨(k:Int),true,rfl,.inl ⟨rfl,rfl,k,hkk,rfl,by rw[zbu];exact HE.out⟩,F8.out⟩
    ·have hne:zam k≠canC (zak Fs):=fun e=>hji (zc7 st2.ok.book.nodup (by rw[za1];exact hj) (by rw[za1];exact hi2) (by rw[hcj,hci];exact e))
     have HNe:=Hh hne;have HS2:=Hh st2;have HX2:=Hh hx2;have hji':¬(j:Int)=(i:Int):=by omega
     clear st2 nx2 hj hcj hx2 hi2 hci hne hji;go_wp2;go_roundw
     case rel=>exact⟨k+1,V2,B2,M2,I2,f2,by go_num,by omega,HS2.out,HX2.out,fun m hm=>by
      by_cases e:m=k
      ·rw[e];exact HNe.out
      ·exact HNo.out m (by omega)⟩
     case measure=>simp[intOf];omega
   ·have a1:¬(k:Int)<16:=by omega
    have F7:=Hh (HEnd.out w7 hx.fr);have HK16:=Hh (show 16≤k by omega);clear hs hx hno;go_wp2;go_ret2;exact⟨0,false,rfl,.inr ⟨rfl,rfl,fun n _ hn=>by rw[zbu];exact HNo.out n (by have:=HK16.out;omega)⟩,F7.out⟩
end Go.Proofs.YtcalpapdkmnblaaGreatDoor
