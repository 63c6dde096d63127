import Derived.Test.YtghekfmfonoocaaGreatDoorZtc
import Derived.Test.YtghekfmfonoocaaGreatDoorZto
/- Lemmas. -/
namespace Go.Proofs.YtghekfmfonoocaaGreatDoor
set_option linter.unusedVariables false
set_option linter.unusedSimpArgs false
open Go.RowKit
theorem zos {R:Nat→Prop}(nv:Value)(Fi:List (List Int × List Int))(w:World)(h:NodeL R encI w nv Fi)(g:Bool)(hg:g=true↔zbf Fi) :
  Calls Tryz.prog 32 #[.agg #[nv]] w fun e w'=>e=.returned (.bool g)/\Fr NoM w w':=by
 refine(zvs nv Fi w h).mono ?_
 rintro e w' ⟨b,rfl,hb,f⟩;have:b=g:=by
  cases b <;> cases g <;> simp_all
 exact⟨by rw[this],f⟩
theorem zgm (Fi:List (List Int × List Int)):∃g:Bool,(g=true↔zbf Fi):=by
 by_cases h:zbf Fi
 ·exact⟨true,by simp[h]⟩
 ·exact⟨false,by simp[h]⟩
set_option maxRecDepth 4000 in
set_option maxHeartbeats 4000000 in
theorem zvp {R S:Nat→Prop}(v1 v2:Value)(Fi Gi:List (List Int × List Int))(w:World)(h1:NodeL R encI w v1 Fi)(h2:NodeL S encI w v2 Gi)(p:Bool)(hp:p=true↔zbf Fi/\zbf Gi/\Fi.length*Gi.length≤1600) :
  Calls Tryz.prog 103 #[.agg #[v1],.agg #[v2]] w fun e w'=>e=.returned (.bool p)/\Fr NoM w w':=by
 obtain⟨g1,hg1⟩:=zgm Fi;obtain⟨g2,hg2⟩:=zgm Gi;obtain⟨w1,hw1⟩:∃w1,w1=(w.alloc (.cells #[v1] 26)).alloc (.cells #[v2] 26):=⟨_,rfl⟩;have f1:Fr NoM w w1:=by rw[hw1];exact((Fr.refl NoM w).alloc _).alloc _
 have e0:w1.heap[w.heap.size]?=some (.cells #[v1] 26 (0,0)):=by rw[hw1];exact((Fr.refl NoM _).alloc _).heap (heap_alloc_new w _) (fun q=>q)
 have e1:w1.heap[w.heap.size+1]?=some (.cells #[v2] 26 (0,0)):=by
  have h:=heap_alloc_new (w.alloc (.cells #[v1] 26)) (.cells #[v2] 26);rw[World.size_alloc]at h;rw[hw1];exact h
 have HK:=Hh (fun(W:World) (f:Fr NoM w1 W)=>show W.cell? ⟨w.heap.size,0,none⟩=some v1/\W.cell? ⟨w.heap.size+1,0,none⟩=some v2 from by
  have h0:=f.heap e0 (fun q=>q);have h1:=f.heap e1 (fun q=>q);exact⟨by rw[cell_of_row W _ 0 _ _ _ h0];rfl,by rw[cell_of_row W _ 0 _ _ _ h1];rfl⟩)
 have HG1:=Hh (zos v1 Fi w1 (h1.fr0 f1) g1 hg1);have HG2:=Hh (fun(W:World) (f:Fr NoM w1 W)=>zos v2 Gi W ((h2.fr0 f1).fr0 f) g2 hg2);have HP:=Hh hp;have H1:=Hh hg1;have H2:=Hh hg2;have F1:=Hh f1;obtain⟨a1,c1,rfl,z⟩:=id h1;clear z;obtain⟨a2,c2,rfl,z⟩:=id h2;clear z h1 h2 f1 e0 e1 hp hg1 hg2;obtain⟨k0,k1⟩:=HK.out w1 (Fr.refl _ _);go_enter Tryz.func103,Tryz.ntmps103;go_wp2_with fail;rw[←hw1];clear hw1;refine HG1.out.mono ?_
 rintro e w2 ⟨rfl,f2⟩;have F2:=Hh f2;clear f2 k0 k1;obtain⟨k0,k1⟩:=HK.out w2 F2.out;cases g1 with
 | false =>
  have hpf:p=false:=by
   cases p with
   | false=>rfl
   | true=>exact absurd (H1.out.2 (HP.out.1 rfl).1) (by simp)
  subst hpf;go_wp2;go_ret;exact⟨rfl,F1.out.trans F2.out (fun _ _ q=>q)⟩
 | true =>
  have HGd1:=Hh (H1.out.1 rfl);go_wp2_with fail;refine(HG2.out w2 F2.out).mono ?_
  rintro e w3 ⟨rfl,f3⟩;have F3:=Hh (F2.out.trans f3 (fun _ _ q=>q));clear f3 k0 k1;obtain⟨k0,k1⟩:=HK.out w3 F3.out;cases g2 with
  | false =>
   have hpf:p=false:=by
    cases p with
    | false=>rfl
    | true=>exact absurd (H2.out.2 (HP.out.1 rfl).2.1) (by simp)
   subst hpf;go_wp2;go_ret;exact⟨rfl,F1.out.trans F3.out (fun _ _ q=>q)⟩
  | true =>
   have hgd1:=HGd1.out;have hgd2:=H2.out.1 rfl;have hl1:Fi.length≤120:=by have h:=hgd1.1;unfold zam at h;rw[decide_eq_true_eq]at h;exact h.1
   have hl2:Gi.length≤120:=by have h:=hgd2.1;unfold zam at h;rw[decide_eq_true_eq]at h;exact h.1
   obtain⟨m,hm⟩:∃m,m=Fi.length*Gi.length:=⟨_,rfl⟩;have hmb:m≤14400:=by
    have:=Nat.mul_le_mul hl1 hl2;omega
   have hmm:(Fi.length:Int)*(Gi.length:Int)=(m:Int):=by rw[hm];exact(Int.natCast_mul _ _).symm
   have hpe:p=decide (m≤1600):=by
    have h:p=true↔m≤1600:=by
     rw[HP.out,hm];exact⟨fun h=>h.2.2,fun h=>⟨hgd1,hgd2,h⟩⟩
    cases p with
    | true=>exact(decide_eq_true (h.1 rfl)).symm
    | false=>exact(decide_eq_false (fun q=>by cases h.2 q)).symm
   have HPe:=Hh hpe;clear hgd1 hgd2 hm hpe;by_cases hc:m≤1600
   ·have hpt:p=true:=by rw[HPe.out];exact decide_eq_true hc
    subst hpt;have hci:(m:Int)≤1600:=by omega
    clear hc;go_wp2;go_ret;exact⟨by simp[hci],F1.out.trans F3.out (fun _ _ q=>q)⟩
   ·have hpt:p=false:=by rw[HPe.out];exact decide_eq_false hc
    subst hpt;have hci:¬(m:Int)≤1600:=by omega
    clear hc;go_wp2;go_ret;exact⟨by simp[hci],F1.out.trans F3.out (fun _ _ q=>q)⟩
theorem ztt (Fi Gi:List (List Int × List Int)):∃p:Bool,(p=true↔zbf Fi/\zbf Gi/\Fi.length*Gi.length≤1600)/\(zf9 Fi Gi=(p && zam (sumN (natF Fi) (natF Gi)))):=by
 by_cases h:zbf Fi/\zbf Gi/\Fi.length*Gi.length≤1600
 ·refine⟨true,by simp[h],?_⟩
  cases hf:zam (sumN (natF Fi) (natF Gi))with
  | true=>exact zc7.2 ⟨h.1,h.2.1,h.2.2,hf⟩
  | false =>
   cases ho:zf9 Fi Gi with
   | false=>rfl
   | true=>have:=(zc7.1 ho).2.2.2;rw[hf]at this;cases this
 ·refine⟨false,by simp[h],?_⟩
  cases ho:zf9 Fi Gi with
  | false=>rfl
  | true=>exact absurd ⟨(zc7.1 ho).1,(zc7.1 ho).2.1,(zc7.1 ho).2.2.1⟩ h
set_option maxRecDepth 4000 in
set_option maxHeartbeats 8000000 in
theorem zo9 {R S:Nat→Prop}(v1 v2:Value)(Fi Gi:List (List Int × List Int))(w:World)(h1:NodeL R encI w v1 Fi)(h2:NodeL S encI w v2 Gi)(ok:Bool)(hok:ok=zf9 Fi Gi) :
  Calls Tryz.prog 58 #[.agg #[v1],.agg #[v2]] w fun e w'=>∃v',e=.returned (.tuple #[.agg #[v'],.bool ok])/\NodeL (fun b=>w.heap.size≤b) encN w' v' (if ok=true then sumN (natF Fi) (natF Gi)else [])/\Fr NoM w w':=by
 obtain⟨p,hp,hpo⟩:=ztt Fi Gi;rw[hpo]at hok;obtain⟨w1,hw1⟩:∃w1,w1=((w.alloc (.cells #[v1] 26)).alloc (.cells #[v2] 26)).alloc (.cells #[.slice none 0 0] 26):=⟨_,rfl⟩;have f1:Fr NoM w w1:=by rw[hw1];exact(((Fr.refl NoM w).alloc _).alloc _).alloc _
 have hs1:w1.heap.size=w.heap.size+3:=by rw[hw1];simp
 have e0:w1.heap[w.heap.size]?=some (.cells #[v1] 26 (0,0)):=by rw[hw1];exact(((Fr.refl NoM _).alloc _).alloc _).heap (heap_alloc_new w _) (fun q=>q)
 have e1:w1.heap[w.heap.size+1]?=some (.cells #[v2] 26 (0,0)):=by
  have h:=heap_alloc_new (w.alloc (.cells #[v1] 26)) (.cells #[v2] 26);rw[World.size_alloc]at h;rw[hw1];exact((Fr.refl NoM _).alloc _).heap h (fun q=>q)
 have e2:w1.heap[w.heap.size+1+1]?=some (.cells #[.slice none 0 0] 26 (0,0)):=by
  have h:=heap_alloc_new ((w.alloc (.cells #[v1] 26)).alloc (.cells #[v2] 26)) (.cells #[.slice none 0 0] 26);rw[World.size_alloc,World.size_alloc]at h;rw[hw1];exact h
 have HK:=Hh (fun(W:World) (f:Fr NoM w1 W)=>show W.cell? ⟨w.heap.size,0,none⟩=some v1/\W.cell? ⟨w.heap.size+1,0,none⟩=some v2/\W.cell? ⟨w.heap.size+1+1,0,none⟩=some (.slice none 0 0)/\W.frozen? ⟨w.heap.size+1+1,0,none⟩=false from by
  have h0:=f.heap e0 (fun q=>q);have h1:=f.heap e1 (fun q=>q);have h2:=f.heap e2 (fun q=>q);exact⟨by rw[cell_of_row W _ 0 _ _ _ h0];rfl,by rw[cell_of_row W _ 0 _ _ _ h1];rfl,by rw[cell_of_row W _ 0 _ _ _ h2];rfl,by simp[World.frozen?,h2]⟩)
 have HPr:=Hh (zvp v1 v2 Fi Gi w1 (h1.fr0 f1) (h2.fr0 f1) p hp);have HN1:=Hh (fun(W:World) (f:Fr NoM w1 W)=>(h1.fr0 f1).fr0 f);have HN2:=Hh (fun(W:World) (f:Fr NoM w1 W)=>(h2.fr0 f1).fr0 f);have HP:=Hh hp;have HOk:=Hh hok;have F1:=Hh f1;have HS1:=Hh hs1;obtain⟨a1,c1,rfl,z⟩:=id h1;clear z;obtain⟨a2,c2,rfl,z⟩:=id h2;clear z h1 h2 f1 hs1 e0 e1 e2 hp hok hpo;obtain⟨k0,k1,k2,k3⟩:=HK.out w1 (Fr.refl _ _);go_enter Tryz.func58,Tryz.ntmps58;go_wp2_with fail;rw[←hw1];clear hw1;refine HPr.out.mono ?_
 rintro e w2 ⟨rfl,f2⟩;have F2:=Hh f2;clear f2 k0 k1 k2 k3;obtain⟨k0,k1,k2,k3⟩:=HK.out w2 F2.out;cases p with
 | false =>
  have hk:ok=false:=by rw[HOk.out];rfl
  subst hk;go_wp2;refine bodyPost_ret (v:=.tuple #[.agg #[.slice none 0 0],.bool false]) (by simp[results,Tryz.results58,go_sem,k2]) rfl ?_
  exact⟨_,rfl,⟨none,0,rfl,Nat.le_refl _,by decide,by simp⟩,(F1.out.trans F2.out (fun _ _ q=>q)).setCell _ _ (fun h=>by have h:w.heap.size+1+1<w.heap.size:=h;omega)⟩
 | true =>
  obtain⟨hg1,hg2,hm⟩:=HP.out.1 rfl;obtain⟨Fs,rfl⟩:=zf4 hg1;obtain⟨Gs,rfl⟩:=zf4 hg2;obtain⟨q1,q2,q3,q4,_⟩:=zcg hg1;obtain⟨p1,p2,p3,p4,_⟩:=zcg hg2;rw[zcv,zcv]at hm;have hN1:=(HN1.out w2 F2.out).ofI;have hN2:=(HN2.out w2 F2.out).ofI;have HSm:=Hh (zz5 _ _ Fs Gs w2 hN1 hN2 q4.opts p4.opts q3 p3 q1 p1 hm);clear hg1 hg2 hm q1 q2 q3 q4 p1 p2 p3 p4 hN1 hN2;obtain⟨FN,hFN⟩:∃FN,FN=sumN Fs Gs:=⟨_,rfl⟩;have hsm:=HSm.out;rw[show zac (sumC (zb0 Fs) (zb0 Gs))=FN from hFN.symm]at hsm;have hok':ok=zam FN:=by rw[HOk.out,zbc,zbc,hFN];rfl
  have HSm:=Hh hsm;have HOk':=Hh hok';have HFN:=Hh hFN;clear hsm hok' hFN;go_wp2_with fail;refine HSm.out.mono ?_
  rintro e w3 ⟨v3,rfl,n3,f3⟩;have HIf:=Hh (zor v3 FN w3 n3);obtain⟨a3,c3,rfl,z⟩:=id n3;have F3:=Hh (F2.out.trans f3 (fun _ _ q=>q));have HSz:=Hh f3.size;clear z n3 f3 k0 k1 k2 k3;go_wp2_with fail;refine HIf.out.mono ?_
  rintro e w4 ⟨v4,rfl,n4,f4⟩;rw[←HOk'.out]at n4 ⊢;have F4:=Hh (F3.out.trans f4 (fun _ _ q=>q));obtain⟨k0,k1,k2,k3⟩:=HK.out w4 F4.out;clear k0 k1 f4;have hz1:=HS1.out;have hz2:=F2.out.size;have HZ:=Hh (And.intro hz1 hz2);clear hz1 hz2;obtain⟨FR,hFR⟩:∃FR,FR=if ok=true then FN else []:=⟨_,rfl⟩
  rw[←hFR]at n4;have HFR:=Hh hFR;have HN4:=Hh n4;obtain⟨a4,c4,rfl,z⟩:=id n4;clear z n4 hFR;cases ok with
  | true =>
   go_wp2;refine bodyPost_ret (v:=.tuple #[.agg #[.slice a4 FR.length c4],.bool true]) (by simp[results,Tryz.results58,go_sem,k2]) rfl ?_
   refine⟨_,rfl,?_,(F1.out.trans F4.out (fun _ _ q=>q)).setCell _ _ (fun h=>by have h:w.heap.size+1+1<w.heap.size:=h;omega)⟩;have eF:FR=FN:=by simpa using HFR.out
   rw[zbc,zbc,←HFN.out,←eF];exact(HN4.out.fr (Fr.set w4 ⟨w.heap.size+1+1,0,none⟩ _) (fun q hq e=>by have e:q=w.heap.size+1+1:=e;have hq:w2.heap.size≤q:=hq;have:=HZ.out;omega)).mono (fun q hq=>by have hq:w2.heap.size≤q:=hq;have:=HZ.out;omega)
  | false =>
   go_wp2;refine bodyPost_ret (v:=.tuple #[.agg #[.slice a4 FR.length c4],.bool false]) (by simp[results,Tryz.results58,go_sem,k2]) rfl ?_
   refine⟨_,rfl,?_,(F1.out.trans F4.out (fun _ _ q=>q)).setCell _ _ (fun h=>by have h:w.heap.size+1+1<w.heap.size:=h;omega)⟩;have eF:FR=[]:=by simpa using HFR.out
   rw[←eF];exact(HN4.out.fr (Fr.set w4 ⟨w.heap.size+1+1,0,none⟩ _) (fun q hq e=>by have e:q=w.heap.size+1+1:=e;have hq:w2.heap.size≤q:=hq;have:=HZ.out;omega)).mono (fun q hq=>by have hq:w2.heap.size≤q:=hq;have:=HZ.out;omega)
end Go.Proofs.YtghekfmfonoocaaGreatDoor
