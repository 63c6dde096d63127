import Derived.Test.YtghekfmfonoocaaGreatDoorZtu
/- Lemmas. -/
namespace Go.Proofs.YtghekfmfonoocaaGreatDoor
set_option linter.unusedVariables false
set_option linter.unusedSimpArgs false
open Go.RowKit
noncomputable def csC (Fi:List (List Int × List Int)):List PL:=canN (natF Fi)
noncomputable def csS (Fs:List PL)(Fi:List (List Int × List Int)):List PL:=sumN Fs (csC Fi)
open Classical in
noncomputable def zek (chk:Bool)(s:Option (List PL))(Fi:List (List Int × List Int)):Option (List PL) :=
 s.bind fun Fs=>if zbf Fi/\zf9 (i2 Fs) (i2 (csC Fi))=true/\(chk=true→zam (canN (csS Fs Fi))=true)then some (canN (csS Fs Fi))else none
noncomputable def csF (chk:Bool)(l:List (List (List Int × List Int))):Option (List PL):=l.foldl (zek chk) (some [([],[])])
noncomputable def csR (chk:Bool)(l:List (List (List Int × List Int))):Option (List PL):=if l.length≤12 then csF chk l else none
theorem ya0 (chk:Bool)(l:List (List (List Int × List Int))):l.foldl (zek chk) none=none:=by
 induction l with
 | nil=>rfl
 | cons a l ih=>rw[List.foldl_cons];exact ih
theorem ya1 {chk:Bool}{l:List (List (List Int × List Int))}{k:Nat}(hk:k<l.length):csF chk (l.take (k+1))=zek chk (csF chk (l.take k)) l[k]:=by
 unfold csF;rw[List.take_succ_eq_append_getElem hk,List.foldl_append];rfl
theorem zoy {chk:Bool}{l:List (List (List Int × List Int))}{k:Nat}(h:csF chk (l.take k)=none):csF chk l=none:=by
 unfold csF at h ⊢;rw[←List.take_append_drop k l,List.foldl_append,h,ya0]
theorem cs_bad' {chk:Bool}{Gi:List (List Int × List Int)}(hb:¬zbf Gi)(l:List (List (List Int × List Int))):∀s,Gi∈l→l.foldl (zek chk) s=none:=by
 induction l with
 | nil=>intro s h;simp at h
 | cons a l ih =>
  intro s h;rw[List.foldl_cons];rcases List.mem_cons.1 h with rfl|h
  ·have e:zek chk s Gi=none:=by
    cases s with
    | none=>rfl
    | some Fs=>exact if_neg (fun q=>hb q.1)
   rw[e,ya0]
  ·exact ih _ h
theorem yf1 {chk:Bool}{Gi:List (List Int × List Int)}{l:List (List (List Int × List Int))}(hb:¬zbf Gi)(h:Gi∈l):csF chk l=none:=cs_bad' hb l _ h
theorem zg8 {chk:Bool}{Fs:List PL}{Fi:List (List Int × List Int)}(h1:zbf Fi)(h2:zf9 (i2 Fs) (i2 (csC Fi))=true)(h3:chk=true→zam (canN (csS Fs Fi))=true):zek chk (some Fs) Fi=some (canN (csS Fs Fi)):=if_pos ⟨h1,h2,h3⟩
theorem zgz {chk:Bool}{Fs:List PL}{Fi:List (List Int × List Int)}(h:¬(zbf Fi/\zf9 (i2 Fs) (i2 (csC Fi))=true/\(chk=true→zam (canN (csS Fs Fi))=true))):zek chk (some Fs) Fi=none:=if_neg h
theorem yf2 {chk:Bool}{l:List (List (List Int × List Int))}{k:Nat}{Fi:List (List Int × List Int)}{Fs:List PL}(hFi:l[k]?=some Fi)(h:csF chk (l.take k)=some Fs):csF chk (l.take (k+1))=zek chk (some Fs) Fi:=by
 obtain⟨hk,e⟩:=List.getElem?_eq_some_iff.1 hFi
 rw[ya1 hk,h,e]
set_option maxRecDepth 4000 in
set_option maxHeartbeats 8000000 in
theorem zt0 {R:Nat→Prop}(v:Value)(FL:List (List (List Int × List Int)))(w:World)(h:FormsI R w v FL)(mr:Option (List PL))(hmr:mr=csR true FL) :
  Calls Tryz.prog 27 #[v] w fun e w'=>∃v',e=.returned (.tuple #[.agg #[v'],.bool mr.isSome])/\NodesS w.heap.size w' v' (mr.getD [])/\Fr NoM w w':=by
 obtain⟨w1,hw1⟩:∃w1,w1=w.alloc (.cells #[.slice none 0 0] 26):=⟨_,rfl⟩;have f1:Fr NoM w w1:=by rw[hw1];exact(Fr.refl NoM w).alloc _
 have hs1:w1.heap.size=w.heap.size+1:=by rw[hw1];simp
 have e0:w1.heap[w.heap.size]?=some (.cells #[.slice none 0 0] 26 (0,0)):=by rw[hw1];exact heap_alloc_new w _
 have HK:=Hh (fun(W:World) (f:Fr NoM w1 W)=>show W.cell? ⟨w.heap.size,0,none⟩=some (.slice none 0 0)/\W.frozen? ⟨w.heap.size,0,none⟩=false from by
  have h0:=f.heap e0 (fun q=>q);exact⟨by rw[cell_of_row W _ 0 _ _ _ h0];rfl,by simp[World.frozen?,h0]⟩)
 have HKs:=Hh (fun(W:World) (ob:Nat) (u:Value) (hne:ob≠w.heap.size) (f:Fr NoM w1 W)=>show(W.setCell ⟨ob,0,none⟩ u).cell? ⟨w.heap.size,0,none⟩=some (.slice none 0 0)/\(W.setCell ⟨ob,0,none⟩ u).frozen? ⟨w.heap.size,0,none⟩=false from by
  have h0:=(Fr.set W ⟨ob,0,none⟩ u).heap (f.heap e0 (fun q=>q)) (fun h=>hne h.symm);exact⟨by rw[cell_of_row _ _ 0 _ _ _ h0];rfl,by simp[World.frozen?,h0]⟩)
 have HN:=Hh (fun(W:World) (f:Fr NoM w1 W)=>((h.low.fr0 f1).fr0 f:FormsI (· < w.heap.size) W v FL));obtain⟨a,c,rfl,hl9⟩:=h.shape;have HM:=Hh hmr;have F1:=Hh f1;have HS1:=Hh hs1;clear h hmr f1 hs1 e0;obtain⟨k0,k1⟩:=HK.out w1 (Fr.refl _ _);by_cases hlen:FL.length≤12
 ·have hmm:mr=csF true FL:=by rw[HM.out];unfold csR;rw[if_pos hlen]
  have HMm:=Hh hmm;have HBack:=Hh (fun(W:World) (f:Fr NoM w1 W)=>(F1.out.trans f (fun _ _ q=>q)).setCell ⟨w.heap.size,0,none⟩ (.slice none 0 0) (fun h=>by have h:w.heap.size<w.heap.size:=h;omega));have hli:¬(12<FL.length):=by omega
  clear hmm;go_enter Tryz.func27,Tryz.ntmps27;go_wp2_with fail;rw[←hw1];clear hw1 k0 k1;refine(zp2 w1).mono ?_
  rintro e w3 ⟨v0,rfl,n0,f3⟩;obtain⟨w4,hw4⟩:∃w4,w4=w3.alloc (.cells #[v0] 26):=⟨_,rfl⟩;obtain⟨ob,hob⟩:∃ob,ob=w3.heap.size:=⟨_,rfl⟩;have f4:Fr NoM w3 w4:=by rw[hw4];exact(Fr.refl NoM w3).alloc _
  have e4:w4.heap[ob]?=some (.cells #[v0] 26 (0,0)):=by rw[hw4,hob];exact heap_alloc_new w3 _
  have hbl:w1.heap.size≤ob:=by have:=f3.size;omega
  have HF4:=Hh (f3.trans f4 (fun _ _ q=>q));have HC4:=Hh e4;have HN4:=Hh (n0.fr0 f4);have HBl:=Hh hbl;have HOb:=Hh hob;obtain⟨az,cz,rfl,zz⟩:=id n0.nodeL;clear zz n0 f3 f4 e4 hbl hli;go_upto_region 4 with fail;have hw4':w4=w3.alloc (.cells #[.slice az 1 cz] 26):=hw4;rw[←hob,←hw4'];clear hw4 hw4' hob;go_wp2_with fail;go_loopw [17] (fun t W=>∃(k:Nat) (Fm:List PL) (ov:Value),t=.int .i64 k/\k≤FL.length/\csF true (FL.take k)=some Fm/\W.heap[ob]?=some (.cells #[ov] 26 (0,0))/\NodesS w1.heap.size W ov Fm/\Fr (fun q=>q=ob) w4 W) (fun t _=>FL.length-(intOf t).toNat)
  case atStart=>exact⟨0,[([],[])],_,rfl,Nat.zero_le _,rfl,HC4.out,HN4.out,Fr.refl _ _⟩
  case round =>
   obtain⟨k,Fm,ov,rfl,hk,hm,hh,hn,hfr⟩:=hrel;obtain⟨w7,rfl⟩:∃w7,w7=wr:=⟨_,rfl⟩;have hobw:ob<w7.heap.size:=(Array.getElem?_eq_some_iff.1 hh).1;have F17:=Hh (HF4.out.trans hfr (fun q hq e=>by have h1:=HBl.out;omega));have HM7:=Hh hm;have HFr:=Hh hfr;have HOw:=Hh hobw;have HH:=Hh hh;have HN7:=Hh hn;obtain⟨va,vc,rfl,zz⟩:=id hn.nodeL;clear zz hfr hm hn hh;by_cases hkl:k<FL.length
   ·obtain⟨Fi,hFi⟩:∃Fi,FL[k]?=some Fi:=⟨_,List.getElem?_eq_getElem hkl⟩
    obtain⟨b1,o1,nv,rfl,c1,n1⟩:=(HN.out w7 F17.out).get hFi;have ix:=zmq (some ⟨b1,o1,none⟩) FL.length c k b1 o1 hkl rfl;obtain⟨g,hg⟩:=zgm Fi;obtain⟨okc,hokc⟩:∃okc,okc=(g && zam (canN (natF Fi))):=⟨_,rfl⟩;obtain⟨CN,hCN⟩:∃CN,CN=if okc=true then canN (natF Fi)else []:=⟨_,rfl⟩
    have HCa:=Hh (fun(W:World) (f:Fr NoM w7 W)=>(by
     have h:=zk9 nv Fi W (n1.fr0 f) g hg okc hokc;rw[←hCN]at h;exact h:Calls Tryz.prog 63 #[.agg #[nv]] W fun e w'=>∃v',e=.returned (.tuple #[.agg #[v'],.bool okc])/\NodesS W.heap.size w' v' CN/\Fr NoM W w'))
    have HNx:=Hh (yf2 hFi HM7.out);have HG:=Hh hg;have HOkc:=Hh hokc;have HCN:=Hh hCN;obtain⟨na,nc,rfl,zz⟩:=id n1;have hc:w7.cell? ⟨ob,0,none⟩=some (.slice va Fm.length vc):=by rw[cell_of_row _ _ 0 _ _ _ HH.out];rfl
    clear zz n1 hg hokc hCN hFi hc;go_wp2_with fail;refine(HCa.out _ ((Fr.refl NoM w7).alloc _)).mono ?_
    rintro e w9 ⟨v',rfl,hv',fc⟩;obtain⟨xa,xc,rfl,zz⟩:=id hv'.nodeL;have hv':=hv'.base (D':=w7.heap.size+1) (by simp);have fc:=((Fr.refl NoM w7).alloc (.cells #[.slice na Fi.length nc] 26)).trans fc (fun _ _ q=>q);obtain⟨wx,hwx⟩:∃wx,wx=w9.alloc (.cells #[.slice xa CN.length xc] 26):=⟨_,rfl⟩;have f9:Fr NoM w9 wx:=by rw[hwx];exact(Fr.refl NoM w9).alloc _
    have F79:=Hh (fc.trans f9 (fun _ _ q=>q));have HV9:=Hh (hv'.fr0 f9);have HE9:=Hh (show wx.heap[w9.heap.size]?=some (.cells #[.slice xa CN.length xc] 26 (0,0))from by rw[hwx];exact heap_alloc_new w9 _);clear zz hv' fc f9 c1 ix;go_upto_region 8 with fail;rw[←hwx];clear hwx;cases okc with
    | false =>
     have hn0:mr=none:=by
      rw[HMm.out];refine zoy (k:=k+1) ?_
      rw[HNx.out];refine zgz fun q=>?_
      have hg:=HG.out.2 q.1;have hC:=(zc7.1 q.2.1).2.1.1;rw[zh8]at hC;have h:=HOkc.out;rw[hg,show zam (canN (natF Fi))=true from hC]at h;cases h
     subst hn0;obtain⟨k0,k1⟩:=HK.out wx (F17.out.trans F79.out (fun _ _ q=>q));go_wp2_with fail;refine bodyPost_ret (v:=.tuple #[.agg #[.slice none 0 0],.bool false]) (by simp[results,Tryz.results27,go_sem,k0]) rfl ?_
     exact⟨_,rfl,NodesS.nil _ _,HBack.out _ (F17.out.trans F79.out (fun _ _ q=>q))⟩
    | true =>
     have hgt:g=true/\zam (canN (natF Fi))=true:=by
      have h:=HOkc.out;simp at h;exact h
     have hCNe:CN=csC Fi:=by rw[HCN.out];rfl
     have HGd:=Hh (HG.out.1 hgt.1);have HCe:=Hh hCNe;obtain⟨ok,hok⟩:∃ok,ok=zf9 (i2 Fm) (i2 CN):=⟨_,rfl⟩;obtain⟨SN,hSN⟩:∃SN,SN=if ok=true then sumN (natF (i2 Fm)) (natF (i2 CN))else []:=⟨_,rfl⟩
     have HSm:=Hh (fun(W:World) (f:Fr NoM wx W)=>(by
      have h:=zoa (.slice va Fm.length vc) (.slice xa CN.length xc) (i2 Fm) (i2 CN) W (((HN7.out.nodeL.fr0 F79.out).fr0 f).toI) ((HV9.out.nodeL.fr0 f).toI) ok hok;rw[←hSN]at h;exact h:Calls Tryz.prog 64 #[.agg #[.slice va Fm.length vc],.agg #[.slice xa CN.length xc]] W fun e w'=>∃v',e=.returned (.tuple #[.agg #[v'],.bool ok])/\NodesS W.heap.size w' v' SN/\Fr NoM W w'))
     have HOk:=Hh hok;have HSN:=Hh hSN;have q1:wx.cell? ⟨ob,0,none⟩=some (.slice va Fm.length vc):=by rw[cell_of_row _ _ 0 _ _ _ (F79.out.heap HH.out (fun q=>q))];rfl
     have q2:wx.cell? ⟨w9.heap.size,0,none⟩=some (.slice xa CN.length xc):=by rw[cell_of_row _ _ 0 _ _ _ HE9.out];rfl
     clear hgt hCNe hok hSN HOkc;go_wp2_with fail;refine(HSm.out wx (Fr.refl _ _)).mono ?_
     rintro e wy ⟨v',rfl,hv',fy⟩;obtain⟨ya,yc,rfl,zz⟩:=id hv'.nodeL;obtain⟨wz,hwz⟩:∃wz,wz=wy.alloc (.cells #[.slice ya SN.length yc] 26):=⟨_,rfl⟩;have fz:Fr NoM wy wz:=by rw[hwz];exact(Fr.refl NoM wy).alloc _
     have F7z:=Hh (F79.out.trans (fy.trans fz (fun _ _ q=>q)) (fun _ _ q=>q));have HVz:=Hh (hv'.fr0 fz);have HEz:=Hh (show wz.heap[wy.heap.size]?=some (.cells #[.slice ya SN.length yc] 26 (0,0))from by rw[hwz];exact heap_alloc_new wy _);clear zz hv' fy fz q1 q2;go_upto_region 11 with fail;rw[←hwz];clear hwz;cases ok with
     | false =>
      have hn0:mr=none:=by
       rw[HMm.out];refine zoy (k:=k+1) ?_
       rw[HNx.out];refine zgz fun q=>?_
       have h:=HOk.out;rw[HCe.out,q.2.1]at h;cases h
      subst hn0;obtain⟨k0,k1⟩:=HK.out wz (F17.out.trans F7z.out (fun _ _ q=>q));go_wp2_with fail;refine bodyPost_ret (v:=.tuple #[.agg #[.slice none 0 0],.bool false]) (by simp[results,Tryz.results27,go_sem,k0]) rfl ?_
      exact⟨_,rfl,NodesS.nil _ _,HBack.out _ (F17.out.trans F7z.out (fun _ _ q=>q))⟩
     | true =>
      have hsum:zf9 (i2 Fm) (i2 (csC Fi))=true:=by rw[←HCe.out];exact HOk.out.symm
      have hSNe:SN=csS Fm Fi:=by rw[HSN.out,if_pos rfl,zbc,zbc,HCe.out];rfl
      have hgS:zbf (i2 SN):=by
       have h:=zng hsum;rw[zbc,zbc]at h;rw[hSNe];exact h
      obtain⟨okz,hokz⟩:∃okz,okz=(true && zam (canN (natF (i2 SN)))):=⟨_,rfl⟩;obtain⟨ZN,hZN⟩:∃ZN,ZN=if okz=true then canN (natF (i2 SN))else []:=⟨_,rfl⟩
      have HCz:=Hh (fun(W:World) (f:Fr NoM wz W)=>(by
       have h:=zk9 (.slice ya SN.length yc) (i2 SN) W ((HVz.out.nodeL.fr0 f).toI) true (by simp[hgS]) okz hokz;rw[←hZN]at h;exact h:Calls Tryz.prog 63 #[.agg #[.slice ya SN.length yc]] W fun e w'=>∃v',e=.returned (.tuple #[.agg #[v'],.bool okz])/\NodesS W.heap.size w' v' ZN/\Fr NoM W w'))
      have HSu:=Hh hsum;have HSe:=Hh hSNe;have HOkz:=Hh hokz;have HZN:=Hh hZN;have q2:wz.cell? ⟨wy.heap.size,0,none⟩=some (.slice ya SN.length yc):=by rw[cell_of_row _ _ 0 _ _ _ HEz.out];rfl
      clear hsum hSNe hgS hokz hZN;go_wp2_with fail;refine(HCz.out wz (Fr.refl _ _)).mono ?_
      rintro e wu ⟨v',rfl,hv',fu⟩;obtain⟨za,zc,rfl,zz⟩:=id hv'.nodeL;have F7u:=Hh (F7z.out.trans fu (fun _ _ q=>q));have HVu:=Hh hv';have hoh:=F7u.out.heap HH.out (fun q=>q);have hoc:wu.cell? ⟨ob,0,none⟩=some (.slice va Fm.length vc):=by rw[cell_of_row _ _ 0 _ _ _ hoh];rfl
      have hoz:wu.frozen? ⟨ob,0,none⟩=false:=by simp[World.frozen?,hoh]
      have HOh:=Hh hoh;have HSzu:=Hh (show w7.heap.size≤wz.heap.size from F7z.out.size);clear zz hv' fu q2 hoh;cases okz with
      | false =>
       have hn0:mr=none:=by
        rw[HMm.out];refine zoy (k:=k+1) ?_
        rw[HNx.out];refine zgz fun q=>?_
        have h:=HOkz.out;rw[zbc,HSe.out,q.2.2 rfl]at h;cases h
       subst hn0;have hob0:ob≠w.heap.size:=by have:=HBl.out;have:=HS1.out;omega
       have HFin:=Hh (((F1.out.trans (F17.out.trans F7u.out (fun _ _ q=>q)) (fun _ _ q=>q)).setCell ⟨ob,0,none⟩ (.slice za ZN.length zc) (fun h=>by have h:ob<w.heap.size:=h;have:=HBl.out;have:=HS1.out;omega)).setCell ⟨w.heap.size,0,none⟩ (.slice none 0 0) (fun h=>by have h:w.heap.size<w.heap.size:=h;omega));obtain⟨k0,k1⟩:=HKs.out wu ob (.slice za ZN.length zc) hob0 (F17.out.trans F7u.out (fun _ _ q=>q));obtain⟨k2,k3⟩:=HK.out wu (F17.out.trans F7u.out (fun _ _ q=>q));go_wp2_with fail;refine bodyPost_ret (v:=.tuple #[.agg #[.slice none 0 0],.bool false]) (by simp[results,Tryz.results27,go_sem,k0]) rfl ?_
       exact⟨_,rfl,NodesS.nil _ _,HFin.out⟩
      | true =>
       have HNx':=Hh (show csF true (FL.take (k+1))=some ZN from by
        have hf:zam (canN (csS Fm Fi))=true:=by
         have h:=HOkz.out;rw[zbc,HSe.out]at h;simp at h;exact h
        rw[HNx.out,zg8 HGd.out HSu.out (fun _=>hf),HZN.out,if_pos rfl,zbc,HSe.out])
       have HSc:=Hh (show(wu.setCell ⟨ob,0,none⟩ (.slice za ZN.length zc)).heap[ob]?=some (.cells #[.slice za ZN.length zc] 26 (0,0))from heap_set HOh.out _);go_wp2_with fail;go_roundw
       case rel =>
        refine⟨k+1,ZN,_,by go_num,by omega,HNx'.out,HSc.out,?_,?_⟩
        ·exact(HVu.out.fr (Fr.set wu ⟨ob,0,none⟩ _) (fun q hq _ e=>by have e:q=ob:=e;have:=HOw.out;have:=HSzu.out;omega)).base (by have h1:=HOw.out;have h2:=HBl.out;have:=HSzu.out;omega)
        ·exact(HFr.out.trans F7u.out (fun _ _ q=>q.elim)).setCell _ _ (fun _=>rfl)
       case measure=>simp[intOf];omega
   ·obtain rfl:k=FL.length:=by omega
    have hmr':mr=some Fm:=by
     have h:=HM7.out;rw[List.take_length]at h;rw[HMm.out];exact h
    subst hmr';obtain⟨k0,k1⟩:=HK.out w7 F17.out;have hc:w7.cell? ⟨ob,0,none⟩=some (.slice va Fm.length vc):=by rw[cell_of_row _ _ 0 _ _ _ HH.out];rfl
    clear hk hkl;go_wp2_with fail;refine bodyPost_ret (v:=.tuple #[.agg #[.slice va Fm.length vc],.bool true]) (by simp[results,Tryz.results27,go_sem,k0]) rfl ?_
    refine⟨_,rfl,?_,(F1.out.trans F17.out (fun _ _ q=>q)).setCell _ _ (fun h=>by have h:w.heap.size<w.heap.size:=h;omega)⟩;exact(HN7.out.fr (Fr.set w7 ⟨w.heap.size,0,none⟩ _) (fun q hq _ e=>by have e:q=w.heap.size:=e;have:=HS1.out;omega)).base (by have:=HS1.out;omega)
 ·have hn:mr=none:=by rw[HM.out];unfold csR;rw[if_neg hlen]
  subst hn;have hli:12<FL.length:=by omega
  clear hlen;go_enter Tryz.func27,Tryz.ntmps27;go_wp2_with fail;rw[←hw1];refine bodyPost_ret (v:=.tuple #[.agg #[.slice none 0 0],.bool false]) (by simp[results,Tryz.results27,go_sem,k0]) rfl ?_
  exact⟨_,rfl,NodesS.nil _ _,F1.out⟩
set_option maxRecDepth 4000 in
set_option maxHeartbeats 8000000 in
theorem zsz {R:Nat→Prop}(v:Value)(FL:List (List (List Int × List Int)))(w:World)(h:FormsI R w v FL)(mr:Option (List PL))(hmr:mr=csR false FL) :
  Calls Tryz.prog 24 #[v] w fun e w'=>∃v',e=.returned (.tuple #[.agg #[v'],.bool mr.isSome])/\NodeL (fun b=>w.heap.size≤b) encN w' v' (mr.getD [])/\Fr NoM w w':=by
 obtain⟨b,hb⟩:∃b:Bool,(b=true↔zt5 FL 12):=by
  by_cases h:zt5 FL 12
  ·exact⟨true,by simp[h]⟩
  ·exact⟨false,by simp[h]⟩
 obtain⟨w1,hw1⟩:∃w1,w1=w.alloc (.cells #[.slice none 0 0] 26):=⟨_,rfl⟩;have f1:Fr NoM w w1:=by rw[hw1];exact(Fr.refl NoM w).alloc _
 have hs1:w1.heap.size=w.heap.size+1:=by rw[hw1];simp
 have e0:w1.heap[w.heap.size]?=some (.cells #[.slice none 0 0] 26 (0,0)):=by rw[hw1];exact heap_alloc_new w _
 have HK:=Hh (fun(W:World) (f:Fr NoM w1 W)=>show W.cell? ⟨w.heap.size,0,none⟩=some (.slice none 0 0)/\W.frozen? ⟨w.heap.size,0,none⟩=false from by
  have h0:=f.heap e0 (fun q=>q);exact⟨by rw[cell_of_row W _ 0 _ _ _ h0];rfl,by simp[World.frozen?,h0]⟩)
 have HAl:=Hh (zz7 v FL w1 (h.fr0 f1) b hb);have HN:=Hh (fun(W:World) (f:Fr NoM w1 W)=>((h.low.fr0 f1).fr0 f:FormsI (· < w.heap.size) W v FL));obtain⟨a,c,rfl,hl9⟩:=h.shape;have HB:=Hh hb;have HM:=Hh hmr;have F1:=Hh f1;have HS1:=Hh hs1;clear h hb hmr f1 hs1 e0;obtain⟨k0,k1⟩:=HK.out w1 (Fr.refl _ _);go_enter Tryz.func24,Tryz.ntmps24;go_wp2_with fail;rw[←hw1];clear hw1;refine HAl.out.mono ?_
 rintro e w2 ⟨rfl,f2⟩;have F2:=Hh f2;clear f2 k0 k1;obtain⟨k0,k1⟩:=HK.out w2 F2.out;cases b with
 | false =>
  have hn:mr=none:=by
   rw[HM.out];unfold csR;by_cases hl:FL.length≤12
   ·rw[if_pos hl]
    have hex:∃Fi∈FL,¬zbf Fi:=by
     refine Classical.byContradiction fun q=>?_
     have:=HB.out.2 ⟨hl,fun Fi hFi=>Classical.byContradiction fun z=>q ⟨Fi,hFi,z⟩⟩;cases this
    obtain⟨Fi,hFi,hbad⟩:=hex;exact yf1 hbad hFi
   ·rw[if_neg hl]
  subst hn;go_wp2;refine bodyPost_ret (v:=.tuple #[.agg #[.slice none 0 0],.bool false]) (by simp[results,Tryz.results24,go_sem,k0]) rfl ?_
  exact⟨_,rfl,⟨none,0,rfl,Nat.le_refl _,by decide,by simp⟩,(F1.out.trans F2.out (fun _ _ q=>q)).setCell _ _ (fun h=>by have h:w.heap.size<w.heap.size:=h;omega)⟩
 | true =>
  obtain⟨hlen,hgood⟩:=HB.out.1 rfl;have hmm:mr=csF false FL:=by rw[HM.out];unfold csR;rw[if_pos hlen]
  have HLen:=Hh hlen;have HMm:=Hh hmm;have HGoods:=Hh hgood;clear hgood hmm hlen;go_wp2_with fail;refine(zsk w2).mono ?_
  rintro e w3 ⟨v0,rfl,n0,f3⟩;obtain⟨w4,hw4⟩:∃w4,w4=w3.alloc (.cells #[v0] 26):=⟨_,rfl⟩;obtain⟨ob,hob⟩:∃ob,ob=w3.heap.size:=⟨_,rfl⟩;have f4:Fr NoM w3 w4:=by rw[hw4];exact(Fr.refl NoM w3).alloc _
  have hs4:w4.heap.size=ob+1:=by rw[hw4,hob];simp
  have e4:w4.heap[ob]?=some (.cells #[v0] 26 (0,0)):=by rw[hw4,hob];exact heap_alloc_new w3 _
  have hbl:w1.heap.size≤ob:=by have:=F2.out.size;have:=f3.size;omega
  have c4:=e4;have hn4:NodeL (fun q=>w1.heap.size≤q/\q≠ob) encN w4 v0 [([],[])]:=((n0.lowR).fr0 f4).mono (fun q hq=>by
   have h1:w2.heap.size≤q/\q<w3.heap.size:=hq;have h2:=F2.out.size;exact⟨by omega,by omega⟩)
  have HF4:=Hh (F2.out.trans (f3.trans f4 (fun _ _ q=>q)) (fun _ _ q=>q));have HC4:=Hh c4;have HN4:=Hh hn4;have HBl:=Hh hbl;have HOb:=Hh hob;have HS4:=Hh hs4;obtain⟨az,cz,rfl,zz⟩:=id n0;clear zz n0 f3 f4 hs4 e4 hbl c4 hn4 k0 k1;go_upto_region 4 with fail;have hw4':w4=w3.alloc (.cells #[.slice az 1 cz] 26):=hw4;rw[←hob,←hw4'];clear hw4 hw4' hob;go_wp2_with fail;go_loopw [5] (fun t W=>∃(k:Nat) (Fm:List PL) (ov:Value),t=.int .i64 k/\k≤FL.length/\csF false (FL.take k)=some Fm/\W.heap[ob]?=some (.cells #[ov] 26 (0,0))/\NodeL (fun q=>w1.heap.size≤q/\q≠ob) encN W ov Fm/\Fr (fun q=>q=ob) w4 W) (fun t _=>FL.length-(intOf t).toNat)
  case atStart=>exact⟨0,[([],[])],_,rfl,Nat.zero_le _,rfl,HC4.out,HN4.out,Fr.refl _ _⟩
  case round =>
   obtain⟨k,Fm,ov,rfl,hk,hm,hh,hn,hfr⟩:=hrel;obtain⟨w7,rfl⟩:∃w7,w7=wr:=⟨_,rfl⟩;have hc:w7.cell? ⟨ob,0,none⟩=some ov:=by rw[cell_of_row _ _ 0 _ _ _ hh];rfl
   have HH:=Hh hh;clear hh;have hobw:ob<w7.heap.size:=World.block_lt_of_cell? w7 _ hc;have F17:=Hh (HF4.out.trans hfr (fun q hq e=>by have h1:=HBl.out;omega));have HM7:=Hh hm;have HN7:=Hh hn;have HFr:=Hh hfr;have HOw:=Hh hobw;clear hfr;by_cases hkl:k<FL.length
   ·obtain⟨Fi,hFi⟩:∃Fi,FL[k]?=some Fi:=⟨_,List.getElem?_eq_getElem hkl⟩
    obtain⟨b1,o1,nv,rfl,c1,n1⟩:=(HN.out w7 F17.out).get hFi;have ix:=zmq (some ⟨b1,o1,none⟩) FL.length c k b1 o1 hkl rfl;have hgi:zbf Fi:=HGoods.out Fi (List.mem_of_getElem? hFi);obtain⟨Fs,hFs⟩:=zf4 hgi;obtain⟨CN,hCN⟩:∃CN,CN=csC Fi:=⟨_,rfl⟩;have hCN':zac (canC (zb0 Fs))=CN:=by rw[hCN,hFs];unfold csC canN;rw[zbc]
    have hgd:=zcg (hFs ▸ hgi);have HCa:=Hh (fun(W:World) (f:Fr NoM w7 W)=>(by
     have n1':NodeL (· < w.heap.size) encI W nv (i2 Fs):=by rw[←hFs];exact n1.fr0 f
     have h:=zmm nv Fs W n1'.ofI hgd.2.2.2.1.opts hgd.2.2.1 hgd.1 hgd.2.1;rw[hCN']at h;exact h:Calls Tryz.prog 34 #[.agg #[nv]] W fun e w'=>∃v',e=.returned (.agg #[v'])/\NodeL (fun b=>W.heap.size≤b) encN w' v' CN/\Fr NoM W w'))
    obtain⟨ok,hok⟩:∃ok,ok=zf9 (i2 Fm) (i2 CN):=⟨_,rfl⟩;obtain⟨FN,hFN⟩:∃FN,FN=if ok=true then sumN (natF (i2 Fm)) (natF (i2 CN))else []:=⟨_,rfl⟩
    have HSm:=Hh (fun(W:World) (f:Fr NoM w7 W) (S:Nat→Prop) (cv:Value) (n:NodeL S encN W cv CN)=>(by
     have h:=zo9 ov cv (i2 Fm) (i2 CN) W ((hn.fr0 f).toI) n.toI ok hok;rw[←hFN]at h;exact h:Calls Tryz.prog 58 #[.agg #[ov],.agg #[cv]] W fun e w'=>∃v',e=.returned (.tuple #[.agg #[v'],.bool ok])/\NodeL (fun b=>W.heap.size≤b) encN w' v' FN/\Fr NoM W w'))
    have HOk:=Hh hok;have HFN:=Hh hFN;have HCN:=Hh hCN;have HGi:=Hh hgi;have HNx:=Hh (yf2 hFi HM7.out);have hC:=fun(W:World) (f:Fr NoM w7 W)=>(⟨f.cell hc (fun q=>q),f.cell c1 (fun q=>q)⟩:W.cell? ⟨ob,0,none⟩=some ov/\W.cell? ⟨b1,o1+k,none⟩=some nv)
    have HC:=Hh hC;obtain⟨va,vc,rfl,zz⟩:=id hn;clear zz;obtain⟨na,nc,rfl,zz⟩:=id n1;clear zz hn n1 hok hFN hFi hC hm hgi hgd hCN hCN' hFs;go_upto_region 7 with fail;have K0:Fr NoM w7 w7.drew:=(Fr.refl NoM w7).drew;have G0:Fr NoM w7 (w7.alloc (.cells #[.slice none 0 0] 26)).drew:=((Fr.refl NoM w7).alloc _).drew;have hs:=HC.out w7 (Fr.refl _ _);clear hc c1;go_cut [6,7]from 19 to 28 (fun x y W=>∃(nb:Nat) (v':Value),x=.pointer (some ⟨nb,0,none⟩)/\y=.bool ok/\W.cell? ⟨nb,0,none⟩=some v'∧NodeL (fun q=>w7.heap.size≤q) encN W v' FN/\Fr NoM w7 W)
    case first =>
     go_region_held3 (fun(W:World)=>W.cell? ⟨ob,0,none⟩=some (.slice va Fm.length vc)/\W.cell? ⟨b1,o1+k,none⟩=some (.slice na Fi.length nc))
      (first|exact HC.out _ (by assumption)|exact HC.out _ (Fr.alloc (by assumption) _)|exact HC.out _ (Fr.setCell kb _ _ (fun h=>absurd h (Nat.lt_irrefl _)))|exact HC.out _ (Fr.setCell kb _ _ (fun h=>absurd h (Nat.not_lt.2 ka.size)))|exact HC.out _ (Fr.setCell (Fr.alloc kb _) _ _ (fun h=>absurd h (Nat.not_lt.2 kb.size))))
      (first
       | (go_at_call 34;(with_reducible refine(HCa.out _ (by assumption)).mono ?_);rintro e wa ⟨cv',rfl,nc',fa⟩;obtain⟨ca,cc,rfl,zz⟩:=id nc';clear zz;have ka:Fr NoM w7 wa:=Fr.trans (by assumption) fa (fun _ _ q=>q);(try (have hxa:wa.heap[w7.heap.size]?=some (.cells #[.slice none 0 0] 26 (0,0)):=fa.heap (heap_alloc_new w7 _) (fun q=>q))))
       | (go_at_call 58;(with_reducible refine(HSm.out wa ka _ _ nc').mono ?_);rintro e wb ⟨v',rfl,n',fb⟩;obtain⟨xa,xc,rfl,zz⟩:=id n';clear zz;have kb:Fr NoM w7 wb:=Fr.trans ka fb (fun _ _ q=>q);(try (have hx:wb.heap[w7.heap.size]?=some (.cells #[.slice none 0 0] 26 (0,0)):=fb.heap hxa (fun q=>q);have hx1:wb.cell? ⟨w7.heap.size,0,none⟩=some (.slice none 0 0):=(by rw[cell_of_row wb _ 0 _ _ _ hx];rfl);have hx2:wb.frozen? ⟨w7.heap.size,0,none⟩=false:=(by simp[World.frozen?,hx]))))
       | (go_at_call 58;(with_reducible refine(HSm.out (wa.alloc (.cells #[.slice none 0 0] 26)) (ka.alloc _) _ _ (nc'.fr0 ((Fr.refl NoM wa).alloc _))).mono ?_);rintro e wb ⟨v',rfl,n',fb⟩;obtain⟨xa,xc,rfl,zz⟩:=id n';clear zz;have kb:Fr NoM w7 wb:=Fr.trans (ka.alloc _) fb (fun _ _ q=>q);have hy:wb.heap[wa.heap.size]?=some (.cells #[.slice none 0 0] 26 (0,0)):=fb.heap (heap_alloc_new wa _) (fun q=>q);have hy1:wb.cell? ⟨wa.heap.size,0,none⟩=some (.slice none 0 0):=(by rw[cell_of_row wb _ 0 _ _ _ hy];rfl);have hy2:wb.frozen? ⟨wa.heap.size,0,none⟩=false:=(by simp[World.frozen?,hy]))
       | fail)
     all_goals
      have hka:=ka.size;have hkb:=kb.size;go_wp2_with fail;go_meet
      case rel=>first
       | exact⟨_,_,rfl,rfl,by rw[cell_of_row _ _ 0 _ _ _ (heap_alloc_new wb _)];rfl,(n'.fr0 ((Fr.refl NoM wb).alloc _)).mono (fun q hq=>by(try simp only[World.size_drew,World.size_alloc]at hq);omega),kb.alloc _⟩
       | exact⟨_,_,rfl,rfl,by rw[cell_of_row _ _ 0 _ _ _ (heap_set hy _)];rfl,(n'.fr (Fr.set wb ⟨wa.heap.size,0,none⟩ _) (fun q hq e=>by have e:q=wa.heap.size:=e;(try simp only[World.size_drew,World.size_alloc]at hq);omega)).mono (fun q hq=>by(try simp only[World.size_drew,World.size_alloc]at hq);omega),Fr.setCell kb _ _ (fun h=>absurd h (Nat.not_lt.2 hka))⟩
       | exact⟨_,_,rfl,rfl,by rw[cell_of_row _ _ 0 _ _ _ (heap_set hx _)];rfl,(n'.fr (Fr.set wb ⟨w7.heap.size,0,none⟩ _) (fun q hq e=>by have e:q=w7.heap.size:=e;have hz:=fa.size;(try simp only[World.size_drew,World.size_alloc]at hq hz);omega)).mono (fun q hq=>by(try simp only[World.size_drew,World.size_alloc]at hq);omega),Fr.setCell kb _ _ (fun h=>absurd h (Nat.lt_irrefl _))⟩
    case rest =>
    obtain⟨nb,v',rfl,rfl,hnb,hv',fc⟩:=hcut;obtain⟨w9,rfl⟩:∃w9,w9=wc:=⟨_,rfl⟩;obtain⟨xa,xc,rfl,zz⟩:=id hv';have HV9:=Hh hv';have F79:=Hh fc;have hoh:=fc.heap HH.out (fun q=>q);have hoc:w9.cell? ⟨ob,0,none⟩=some (.slice va Fm.length vc):=by rw[cell_of_row _ _ 0 _ _ _ hoh];rfl
    have hoz:w9.frozen? ⟨ob,0,none⟩=false:=by simp[World.frozen?,hoh]
    have HOh:=Hh hoh;clear zz hv' fc hs K0 G0 hoh;cases ok with
    | false =>
     have hn0:mr=none:=by
      rw[HMm.out];refine zoy (k:=k+1) ?_
      rw[HNx.out];refine zgz fun q=>?_
      have h:=HOk.out;rw[HCN.out,q.2.1]at h;cases h
     subst hn0;obtain⟨k0,k1⟩:=HK.out w9 (F17.out.trans F79.out (fun _ _ q=>q));clear hnb hoc hoz;go_wp2_with fail;refine bodyPost_ret (v:=.tuple #[.agg #[.slice none 0 0],.bool false]) (by simp[results,Tryz.results24,go_sem,k0]) rfl ?_
     exact⟨_,rfl,⟨none,0,rfl,Nat.le_refl _,by decide,by simp⟩,(F1.out.trans (F17.out.trans F79.out (fun _ _ q=>q)) (fun _ _ q=>q)).setCell _ _ (fun h=>by have h:w.heap.size<w.heap.size:=h;omega)⟩
    | true =>
     have hsum:zf9 (i2 Fm) (i2 (csC Fi))=true:=by rw[←HCN.out];exact HOk.out.symm
     have hFNe:FN=csS Fm Fi:=by rw[HFN.out,if_pos rfl,zbc,zbc,HCN.out];rfl
     have hgS:zbf (i2 FN):=by
      have h:=zng hsum;rw[zbc,zbc]at h;rw[hFNe];exact h
     have hgd:=zcg hgS;obtain⟨ZN,hZN⟩:∃ZN,ZN=canN FN:=⟨_,rfl⟩;have HCz:=Hh (fun(W:World) (f:Fr NoM w9 W)=>(by
      have h:=zmm (.slice xa FN.length xc) FN W (HV9.out.fr0 f) hgd.2.2.2.1.opts hgd.2.2.1 hgd.1 hgd.2.1;rw[show zac (canC (zb0 FN))=ZN from by rw[hZN];rfl]at h;exact h:Calls Tryz.prog 34 #[.agg #[.slice xa FN.length xc]] W fun e w'=>∃v',e=.returned (.agg #[v'])/\NodeL (fun b=>W.heap.size≤b) encN w' v' ZN/\Fr NoM W w'))
     have HNx':=Hh (show csF false (FL.take (k+1))=some ZN from by rw[HNx.out,zg8 HGi.out hsum (fun h=>by cases h),hZN,hFNe]);clear hsum hFNe hgS hgd hZN hoc hoz;go_wp2_with fail;(with_reducible refine(HCz.out w9 (Fr.refl _ _)).mono ?_);rintro e wu ⟨v',rfl,hv',fu⟩;obtain⟨za,zc,rfl,zz⟩:=id hv';have hoh:=fu.heap HOh.out (fun q=>q);have hoc:wu.cell? ⟨ob,0,none⟩=some (.slice va Fm.length vc):=by rw[cell_of_row _ _ 0 _ _ _ hoh];rfl
     have hoz:wu.frozen? ⟨ob,0,none⟩=false:=by simp[World.frozen?,hoh]
     have F7u:=Hh (F79.out.trans fu (fun _ _ q=>q));have HVu:=Hh hv';have HSc:=Hh (show(wu.setCell ⟨ob,0,none⟩ (.slice za ZN.length zc)).heap[ob]?=some (.cells #[.slice za ZN.length zc] 26 (0,0))from heap_set hoh _);have HS9:=Hh (show w7.heap.size≤w9.heap.size from F79.out.size);clear zz hv' fu hoh;go_wp2_with fail;go_roundw
     case rel =>
      refine⟨k+1,ZN,_,by go_num,by omega,HNx'.out,HSc.out,?_,?_⟩
      ·exact(HVu.out.fr (Fr.set wu ⟨ob,0,none⟩ _) (fun q hq e=>by have e:q=ob:=e;have hq:w9.heap.size≤q:=hq;have:=HOw.out;have:=HS9.out;omega)).mono (fun q hq=>by have hq:w9.heap.size≤q:=hq;have h1:=HOw.out;have h2:=HBl.out;have:=HS9.out;exact⟨by omega,by omega⟩)
      ·exact(HFr.out.trans F7u.out (fun _ _ q=>q.elim)).setCell _ _ (fun _=>rfl)
     case measure=>simp[intOf];omega
   ·obtain rfl:k=FL.length:=by omega
    have hmr':mr=some Fm:=by
     have h:=HM7.out;rw[List.take_length]at h;rw[HMm.out];exact h
    subst hmr';obtain⟨k0,k1⟩:=HK.out w7 F17.out;obtain⟨va,vc,rfl,zz⟩:=id hn;have HNn:=Hh hn;clear zz hn hk hkl hm;go_wp2_with fail;refine bodyPost_ret (v:=.tuple #[.agg #[.slice va Fm.length vc],.bool true]) (by simp[results,Tryz.results24,go_sem,k0]) rfl ?_
    refine⟨_,rfl,?_,(F1.out.trans F17.out (fun _ _ q=>q)).setCell _ _ (fun h=>by have h:w.heap.size<w.heap.size:=h;omega)⟩;exact(HNn.out.fr (Fr.set w7 ⟨w.heap.size,0,none⟩ _) (fun q hq e=>by have e:q=w.heap.size:=e;have:=HS1.out;have:=hq.1;omega)).mono (fun q hq=>by have:=HS1.out;have:=hq.1;omega)
end Go.Proofs.YtghekfmfonoocaaGreatDoor
