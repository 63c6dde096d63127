import Derived.RegionTactic
import Derived.Test.YtghekfmfonoocaaGreatDoorZtt
/- Lemmas. -/
namespace Go.Proofs.YtghekfmfonoocaaGreatDoor
set_option linter.unusedVariables false
set_option linter.unusedSimpArgs false
open Go.RowKit
def risP (last below:Int):List Int→Bool
 | []=>true
 | x::l=>decide (last<x) && (decide (x<below) && risP x below l)
set_option maxHeartbeats 1000000 in
theorem zmu (lv:Value)(L:List Int)(n:Nat)(w:World)(hL:Ints w lv L) :
  Calls Tryz.prog 82 #[lv,.int .i64 (n:Int)] w fun e w'=>e=.returned (.bool (decide (L.length≤24) && risP (-1) n L))/\w'=w:=by
 obtain⟨la,lc,rfl,hlc,hlcm,hL⟩:=hL;have HL:=Hh hL;clear hL;by_cases hbig:24<L.length
 ·have hr:(decide (L.length≤24) && risP (-1) n L)=false:=by rw[decide_eq_false (by omega)];rfl
  rw[hr];clear hr;go_enter Tryz.func82,Tryz.ntmps82;go_wp2;go_ret;exact⟨rfl,rfl⟩
 ·have hr:(decide (L.length≤24) && risP (-1) n L)=risP (-1) n L:=by rw[decide_eq_true (by omega)];rfl
  rw[hr];clear hr;obtain⟨res,hres⟩:∃res,res=risP (-1) n L:=⟨_,rfl⟩;rw[←hres];have HRes:=Hh hres;clear hres;go_enter Tryz.func82,Tryz.ntmps82;go_wp2;go_loop [5,13] (fun l i=>∃(k:Nat) (last:Int),k≤L.length/\l=.int .i64 last/\i=.int .i64 k/\res=risP last n (L.drop k)) (fun _ i=>L.length-(intOf i).toNat)
  case atStart=>exact⟨0,-1,by omega,rfl,rfl,HRes.out⟩
  case round =>
   obtain⟨k,last,hk,rfl,rfl,hr⟩:=hrel;by_cases hlt:k<L.length
   ·obtain⟨b1,o1,ha1,hc1⟩:=HL.out k L[k] (by simp)
    have ix1:=zaa la L.length lc k b1 o1 hlt ha1;have hd:L.drop k=L[k]::L.drop (k+1):=List.drop_eq_getElem_cons hlt;rw[hd]at hr;simp only[risP]at hr;obtain⟨x,hx⟩:∃x,x=L[k]:=⟨_,rfl⟩;replace hc1:w.cell? ⟨b1,o1+k,none⟩=some (.int .i64 x):=by rw[hx];exact hc1
    rw[←hx]at hr;clear hd ha1 hx;by_cases h1:x≤last
    ·have hn:res=false:=by rw[hr,decide_eq_false (by omega)];rfl
     have HN:=Hh hn;clear hn hr;go_wp2;go_ret;exact⟨by rw[HN.out];rfl,rfl⟩
    ·by_cases h2:(n:Int)≤x
     ·have hn:res=false:=by rw[hr,decide_eq_false (p:=x<(n:Int)) (by omega)];simp
      have HN:=Hh hn;clear hn hr;go_wp2;go_ret;exact⟨by rw[HN.out];rfl,rfl⟩
     ·have hn:res=risP x n (L.drop (k+1)):=by rw[hr,decide_eq_true (p:=last<x) (by omega),decide_eq_true (p:=x<(n:Int)) (by omega)];simp
      have HN:=Hh hn;clear hn hr;go_wp2;go_round
      case rel=>exact⟨k+1,x,by omega,rfl,by go_num,HN.out⟩
      case measure=>simp[intOf];omega
   ·have hk':k=L.length:=by omega
    have hn:res=true:=by rw[hr,hk',List.drop_length];rfl
    have HN:=Hh hn;clear hn hr hk';go_wp2;go_ret;exact⟨by rw[HN.out];rfl,rfl⟩
theorem ydh (n:Nat)(L:List Int):∀last:Int,-1≤last→risP last n L=zaq 0 ((n:Int)-1) (if last=-1 then none else some last) L:=by
 induction L with
 | nil=>intro last _;split <;> rfl
 | cons x l ih =>
  intro last hl;by_cases hx:last<x
  ·have hxne:¬x=-1:=by omega
   have e:=ih x (by omega);rw[if_neg hxne]at e;simp only[risP,e];by_cases hxn:x<(n:Int)
   ·have hb:betw x 0 ((n:Int)-1)=true:=by unfold betw;rw[decide_eq_true_eq];omega
    split
    ·simp[zaq,hx,hxn,hb]
    ·simp[zaq,hx,hxn,hb]
   ·have hb:betw x 0 ((n:Int)-1)=false:=by unfold betw;rw[decide_eq_false_iff_not];omega
    split
    ·simp[zaq,hxn,hb]
    ·simp[zaq,hxn,hb]
  ·simp only[risP,decide_eq_false hx,Bool.false_and]
   split
   ·have hb:betw x 0 ((n:Int)-1)=false:=by unfold betw;rw[decide_eq_false_iff_not];omega
    simp[zaq,hb]
   ·simp[zaq,hx]
theorem zfq (lv:Value)(L:List Int)(n:Nat)(w:World)(hL:Ints w lv L) :
  Calls Tryz.prog 82 #[lv,.int .i64 (n:Int)] w fun e w'=>e=.returned (.bool (decide (L.length≤24) && zaq 0 ((n:Int)-1) none L))/\w'=w:=by
 have h:=zmu lv L n w hL;rw[ydh n L (-1) (by omega),if_pos rfl]at h;exact h
theorem yc3 {α:Type}(X:List α)(m:Nat)(v z:α):(X++List.replicate (m+1) z).set X.length v=(X ++ [v])++List.replicate m z:=by
 rw[List.set_append_right _ _ (Nat.le_refl _),Nat.sub_self,List.replicate_succ,List.set_cons_zero];simp
set_option maxHeartbeats 1000000 in
theorem zm8 (lv av:Value)(L A:List Nat)(w:World)(hL:Nats w lv L)(hA:Nats w av A)(hlt:∀x∈L,x<A.length)(hl:L.length<1000000000) :
  Calls Tryz.prog 138 #[lv,av] w fun e w'=>e=.returned (.slice (some ⟨w.heap.size,0,none⟩) L.length L.length)/\RowIs 3 encN w' w.heap.size (za1 A L)/\Fr NoM w w':=by
 obtain⟨la,lc,rfl,hlc,hlcm,hL⟩:=hL;obtain⟨aa,ac,rfl,hac,hacm,hA⟩:=hA;have HL:=Hh hL;have HA:=Hh hA;have HLt:=Hh hlt;clear hL hA hlt;have mk:=fun W=>zop L.length W hl
 go_enter Tryz.func138,Tryz.ntmps138;go_wp2;go_loopw [13] (fun i W=>∃k:Nat,i=.int .i64 k/\k≤L.length/\RowIs 3 encN W w.heap.size (za1 A (L.take k)++List.replicate (L.length-k) 0)/\Fr NoM w W) (fun i _=>L.length-(intOf i).toNat)
 case atStart=>exact⟨0,rfl,Nat.zero_le _,RowIs.made 3 encN w 0 L.length,(Fr.refl NoM w).alloc _⟩
 case round =>
  obtain⟨k,rfl,hk,hrow,hfr⟩:=hrel;obtain⟨w7,rfl⟩:∃w7,w7=wr:=⟨_,rfl⟩;by_cases hkl:k<L.length
  ·obtain⟨b1,o1,ha1,hc1⟩:=HL.out k L[k] (by simp)
   have hx:=HLt.out L[k] (List.getElem_mem _);obtain⟨b2,o2,ha2,hc2⟩:=HA.out L[k] A[L[k]] (by simp);have ix1:=zaa la L.length lc k b1 o1 hkl ha1;have ix2:=zaa aa A.length ac L[k] b2 o2 hx ha2;have ix3:=zdm w.heap.size L.length L.length k hkl;replace hc1:w7.cell? ⟨b1,o1+k,none⟩=some (.int .i64 (L[k]:Int)):=hfr.cell hc1 (fun q=>q)
   replace hc2:w7.cell? ⟨b2,o2+L[k],none⟩=some (.int .i64 (A[L[k]]:Int)):=hfr.cell hc2 (fun q=>q)
   have k3:=hrow.cell k (by simp[za1];omega);have hXl:(za1 A (L.take k)).length=k:=by simp[za1];omega
   have hn1:L.length-k=(L.length-(k+1))+1:=by omega
   have z3:=hrow.frozen k;have hnew:=hrow.set k A[L[k]];have hset:(za1 A (L.take k)++List.replicate (L.length-k) 0).set k A[L[k]]=za1 A (L.take (k+1))++List.replicate (L.length-(k+1)) 0:=by
    have h:=yc3 (za1 A (L.take k)) (L.length-(k+1)) A[L[k]] 0;rw[hXl,←hn1]at h;rw[h,zo4 A L k hkl hx]
   rw[hset]at hnew;have hfr2:=hfr.setCell ⟨w.heap.size,k,none⟩ (encN A[L[k]]) (fun h=>absurd h (Nat.lt_irrefl _));have HNew:=Hh hnew;have HF2:=Hh hfr2;clear hset hnew hfr2 hrow hfr ha1 ha2 hn1 hXl;go_wp2;go_roundw
   case rel=>exact⟨k+1,by go_num,by omega,HNew.out,HF2.out⟩
   case measure=>simp[intOf];omega
  ·have hk':k=L.length:=by omega
   subst hk';rw[List.take_length,Nat.sub_self,List.replicate_zero,List.append_nil]at hrow;have HRow:=Hh hrow;have HFr:=Hh hfr;clear hrow hfr;go_wp2;go_ret;exact⟨rfl,HRow.out,HFr.out⟩
theorem zt2 (Fs:List PL)(i:Nat)(h:i<Fs.length):zb9 (Fs.take (i+1))=zb9 (Fs.take i) ++ [zah (zb9 (Fs.take i)) (zah (zb9 (Fs.take i)) 0 Fs[i].1) Fs[i].2]:=by
 rw[List.take_succ_eq_append_getElem h,zeb]
theorem ya7 (Fs:List PL):OptsOK Fs→∀(j x:Nat),(zb9 Fs)[j]?=some x→x≤j:=by
 induction Fs using zde with
 | h0=>intro _ j x h;simp[zb9]at h
 | h1 l a ih =>
  intro ho j x hx;have hl:=zd2 l;rw[zeb]at hx;rcases zgn hx with ⟨hj,hx⟩|⟨rfl,rfl⟩
  ·exact ih ho.cut j x hx
  ·obtain⟨o1,o2⟩:=ho l.length a (by simp)
   rw[hl];exact zkt _ (ih ho.cut) _ _ _ (zkt _ (ih ho.cut) _ _ _ (Nat.zero_le _) o1) o2
theorem OptsOK.take {Fs:List PL}(ho:OptsOK Fs)(i:Nat):OptsOK (Fs.take i):=fun j y hy=>ho j y (by
 rw[List.getElem?_take]at hy;split at hy
 ·exact hy
 ·cases hy)
theorem zrf (B L:List Nat)(m0 n j i x bx:Nat)(hi:B.length=i)(hx:L[j]?=some x)(hbx:B[x]?=some bx) :
  (B++zah B m0 (L.take j)::List.replicate n 0).set i (max (zah B m0 (L.take j)) (bx+1))=B++zah B m0 (L.take (j+1))::List.replicate n 0:=by
 subst hi;obtain⟨hj,rfl⟩:=List.getElem?_eq_some_iff.1 hx
 obtain⟨hb,rfl⟩:=List.getElem?_eq_some_iff.1 hbx
 have h:=zda B m0 L j hj hb;rw[List.set_append_right _ _ (Nat.le_refl _),Nat.sub_self,List.set_cons_zero];congr 2
 omega
theorem zzf (m bx:Nat):(if (m:Int)<(bx:Int)+1 then (bx:Int)+1 else (m:Int))=((max m (bx+1):Nat):Int):=by split <;> omega
theorem RowIs.at {α:Type}{e:TypeId}{enc:α→Value}{w:World}{g:Nat}{L:List α}(h:RowIs e enc w g L){i:Nat}{x:α}(hx:L[i]?=some x):w.cell? ⟨g,i,none⟩=some (enc x):=by
 obtain⟨hi,rfl⟩:=List.getElem?_eq_some_iff.1 hx
 exact h.cell i hi
set_option maxRecDepth 4000 in
set_option maxHeartbeats 4000000 in
theorem zx8 {R:Nat→Prop}(nv:Value)(Fs:List PL)(w:World)(h:NodeL R encN w nv Fs)(ho:OptsOK Fs)(hn:Fs.length<1000000000) :
  Calls Tryz.prog 83 #[nv] w fun e w'=>e=.returned (.slice (some ⟨w.heap.size,0,none⟩) Fs.length Fs.length)/\RowIs 3 encN w' w.heap.size (zb9 Fs)/\Fr NoM w w':=by
 obtain⟨na,nc,rfl,hnc,hncm,hN⟩:=h;have mk:=fun W=>zop Fs.length W hn
 have HN:=Hh hN;have HO:=Hh ho;clear hN ho;go_enter Tryz.func83,Tryz.ntmps83;go_wp2;clear mk;go_loopw [15] (fun t W=>∃i:Nat,t=.int .i64 i/\i≤Fs.length/\RowIs 3 encN W w.heap.size (zb9 (Fs.take i)++List.replicate (Fs.length-i) 0)/\Fr NoM w W) (fun t _=>Fs.length-(intOf t).toNat)
 case atStart=>exact⟨0,rfl,Nat.zero_le _,RowIs.made 3 encN w 0 Fs.length,(Fr.refl NoM w).alloc _⟩
 case round =>
  obtain⟨i,rfl,hi,hrow,hfr⟩:=hrel;obtain⟨w7,rfl⟩:∃w7,w7=wr:=⟨_,rfl⟩;by_cases hlt:i<Fs.length
  ·obtain⟨b1,o1,lv,rv,ha1,_,c1,c2,s1,s2,_,_⟩:=HN.out i Fs[i] (List.getElem?_eq_getElem _)
   obtain⟨p1,p2⟩:=HO.out i Fs[i] (List.getElem?_eq_getElem _);have hle:=ya7 (Fs.take i) (HO.out.take i);have ix1:=zbe na Fs.length nc i b1 o1 hlt ha1;obtain⟨y,hy⟩:∃y,y=Fs[i]:=⟨_,rfl⟩;obtain⟨B,hB⟩:∃B,B=zb9 (Fs.take i):=⟨_,rfl⟩;have hBl:B.length=i:=by rw[hB,zd2];simp;omega
   have hnext:=zt2 Fs i hlt;rw[←hB]at hrow hnext hle;rw[←hy]at s1 s2 p1 p2 hnext;obtain⟨la,lc,rfl,hlc⟩:=zem s1;obtain⟨ra,rc,rfl,hrc⟩:=zem s2;have d1:=hfr.cell c1 (fun q=>q);have d2:=hfr.cell c2 (fun q=>q);have hsz:w.heap.size<w7.heap.size:=(Array.getElem?_eq_some_iff.1 hrow).1;obtain⟨n1,hn1⟩:∃n1,Fs.length-i=n1+1:=⟨Fs.length-i-1,by omega⟩;have hL9:y.1.length≤9223372036854775807:=by obtain⟨a,c,_,h1,h2,_⟩:=s1;omega
   have hR9:y.2.length≤9223372036854775807:=by obtain⟨a,c,_,h1,h2,_⟩:=s2;omega
   have hBb:∀x∈B,x<1000000000:=fun x hx=>by
    obtain⟨j,hj,rfl⟩:=List.getElem_of_mem hx;have:=hle j _ (List.getElem?_eq_getElem hj);omega
   rw[hn1,List.replicate_succ]at hrow;have HRow:=Hh hrow;have HFr:=Hh hfr;have HLc:=Hh hlc;have HRc:=Hh hrc;have HP1:=Hh p1;have HP2:=Hh p2;have HBl:=Hh hBl;have HNext:=Hh hnext;have HN1:=Hh hn1;have HSz:=Hh hsz;have HBb:=Hh hBb;clear hrow hfr hlc hrc p1 p2 hBl hnext hn1 hsz hBb hle ha1 c1 c2 s1 s2 hy hB;go_wp2;obtain⟨w8,hw8⟩:∃w8,w8=w7.alloc (.cells #[.slice la y.1.length lc,.slice ra y.2.length rc] 85):=⟨_,rfl⟩;have hf8:Fr NoM w7 w8:=by rw[hw8];exact(Fr.refl NoM w7).alloc _
   have hb8:w8.heap[w7.heap.size]?=some (.cells #[.slice la y.1.length lc,.slice ra y.2.length rc] 85 (0,0)):=by rw[hw8];exact heap_alloc_new w7 _
   rw[←hw8];have HF8:=Hh hf8;have HB8:=Hh hb8;clear hf8 hb8 hw8 d1 d2;go_loopw [23] (fun t W=>∃j:Nat,t=.int .i64 j/\j≤y.1.length/\RowIs 3 encN W w.heap.size (B++zah B 0 (y.1.take j)::List.replicate n1 0)/\Fr (fun q=>q=w.heap.size) w8 W) (fun t _=>y.1.length-(intOf t).toNat)
   case atStart=>exact⟨0,rfl,Nat.zero_le _,HRow.out.fr HF8.out (fun q=>q),Fr.refl _ _⟩
   case round =>
    obtain⟨j,rfl,hj,hrow,hfr⟩:=hrel;obtain⟨w9,rfl⟩:∃w9,w9=wr:=⟨_,rfl⟩;have f9:Fr (fun q=>q=w.heap.size) w w9:=((HFr.out.trans HF8.out (fun _ _ q=>q)).any).trans hfr (fun _ _ q=>q);by_cases hjl:j<y.1.length
    ·obtain⟨x,hxx⟩:∃x,y.1[j]?=some x:=⟨_,List.getElem?_eq_getElem hjl⟩
     have hx:=HP1.out x (List.mem_of_getElem? hxx);have hBl:=HBl.out;obtain⟨bx,hbx⟩:∃bx,B[x]?=some bx:=⟨_,List.getElem?_eq_getElem (by omega)⟩;obtain⟨b2,o2,ha2,e2⟩:=HLc.out j x hxx;have hb2:=World.block_lt_of_cell? w _ e2;replace e2:w9.cell? ⟨b2,o2+j,none⟩=some (.int .i64 (x:Int)):=f9.cell e2 (fun q=>by have q:b2=w.heap.size:=q;have hb2:b2<w.heap.size:=hb2;omega)
     have ix2:=zaa la y.1.length lc j b2 o2 hjl ha2;have ix3:=zdm w.heap.size Fs.length Fs.length i hlt;have ix4:=zdm w.heap.size Fs.length Fs.length x (by omega);have k1:w9.cell? ⟨w.heap.size,i,none⟩=some (.int .i64 ((zah B 0 (y.1.take j):Nat):Int)):=hrow.at (by rw[List.getElem?_append_right (by omega),hBl,Nat.sub_self];rfl);have k2:w9.cell? ⟨w.heap.size,x,none⟩=some (.int .i64 (bx:Int)):=hrow.at (by rw[List.getElem?_append_left (by omega)];exact hbx);have z1:=hrow.frozen i;have hmb:bx<1000000000:=HBb.out _ (List.mem_of_getElem? hbx);have hnew:=hrow.set i (max (zah B 0 (y.1.take j)) (bx+1));rw[zrf B y.1 0 n1 j i x bx hBl hxx hbx]at hnew;obtain⟨m,hm⟩:∃m,m=zah B 0 (y.1.take j):=⟨_,rfl⟩;rw[←hm]at k1 hnew;have HNew:=Hh hnew;have HFr9:=Hh hfr;clear hnew hrow hfr f9 ha2 hb2 hx hBl hbx hxx hm;go_wp2_with fail;go_region;all_goals
      go_wp2;go_roundw
      case rel =>
       refine⟨j+1,by go_num,by omega,?_,?_⟩
       ·(first|rw[zzf m bx]|rw[show max (m:Int) ((bx:Int)+1)=((max m (bx+1):Nat):Int)from by omega]);exact HNew.out.fr ((Fr.refl NoM _).drew) (fun q=>q)
       ·exact(HFr9.out.setCell _ _ (fun _=>rfl)).drew
      case measure=>simp[intOf];omega
    ·have hj':j=y.1.length:=by omega
     subst hj';rw[List.take_length]at hrow;have hne:¬w7.heap.size=w.heap.size:=by have:=HSz.out;omega
     have d9:w9.cell? ⟨w7.heap.size,1,none⟩=some (.slice ra y.2.length rc):=by rw[cell_of_row w9 _ 1 _ _ _ (hfr.heap HB8.out hne)];rfl
     obtain⟨m0,hm0⟩:∃m0,m0=zah B 0 y.1:=⟨_,rfl⟩;rw[←hm0]at hrow;have HRow9:=Hh hrow;have F9:=Hh f9;have HM0:=Hh hm0;clear hrow hfr f9 hne hm0;go_wp2;clear d9;go_loopw [44] (fun t W=>∃j:Nat,t=.int .i64 j/\j≤y.2.length/\RowIs 3 encN W w.heap.size (B++zah B m0 (y.2.take j)::List.replicate n1 0)/\Fr (fun q=>q=w.heap.size) w W) (fun t _=>y.2.length-(intOf t).toNat)
     case atStart=>exact⟨0,rfl,Nat.zero_le _,HRow9.out,F9.out⟩
     case round =>
      obtain⟨j,rfl,hj,hrow,hfr⟩:=hrel;obtain⟨w10,rfl⟩:∃w10,w10=wr:=⟨_,rfl⟩;by_cases hjl:j<y.2.length
      ·obtain⟨x,hxx⟩:∃x,y.2[j]?=some x:=⟨_,List.getElem?_eq_getElem hjl⟩
       have hx:=HP2.out x (List.mem_of_getElem? hxx);have hBl:=HBl.out;obtain⟨bx,hbx⟩:∃bx,B[x]?=some bx:=⟨_,List.getElem?_eq_getElem (by omega)⟩;obtain⟨b2,o2,ha2,e2⟩:=HRc.out j x hxx;have hb2:=World.block_lt_of_cell? w _ e2;replace e2:w10.cell? ⟨b2,o2+j,none⟩=some (.int .i64 (x:Int)):=hfr.cell e2 (fun q=>by have q:b2=w.heap.size:=q;have hb2:b2<w.heap.size:=hb2;omega)
       have ix2:=zaa ra y.2.length rc j b2 o2 hjl ha2;have ix3:=zdm w.heap.size Fs.length Fs.length i hlt;have ix4:=zdm w.heap.size Fs.length Fs.length x (by omega);have k1:w10.cell? ⟨w.heap.size,i,none⟩=some (.int .i64 ((zah B m0 (y.2.take j):Nat):Int)):=hrow.at (by rw[List.getElem?_append_right (by omega),hBl,Nat.sub_self];rfl);have k2:w10.cell? ⟨w.heap.size,x,none⟩=some (.int .i64 (bx:Int)):=hrow.at (by rw[List.getElem?_append_left (by omega)];exact hbx);have z1:=hrow.frozen i;have hmb:bx<1000000000:=HBb.out _ (List.mem_of_getElem? hbx);have hnew:=hrow.set i (max (zah B m0 (y.2.take j)) (bx+1));rw[zrf B y.2 m0 n1 j i x bx hBl hxx hbx]at hnew;obtain⟨m,hm⟩:∃m,m=zah B m0 (y.2.take j):=⟨_,rfl⟩;rw[←hm]at k1 hnew;have HNew:=Hh hnew;have HFr9:=Hh hfr;clear hnew hrow hfr ha2 hb2 hx hBl hbx hxx hm;go_wp2_with fail;go_region;all_goals
        go_wp2;go_roundw
        case rel =>
         refine⟨j+1,by go_num,by omega,?_,?_⟩
         ·(first|rw[zzf m bx]|rw[show max (m:Int) ((bx:Int)+1)=((max m (bx+1):Nat):Int)from by omega]);exact HNew.out.fr ((Fr.refl NoM _).drew) (fun q=>q)
         ·exact(HFr9.out.setCell _ _ (fun _=>rfl)).drew
        case measure=>simp[intOf];omega
      ·have hj':j=y.2.length:=by omega
       subst hj';rw[List.take_length,HM0.out]at hrow;have hrow':RowIs 3 encN w10 w.heap.size (zb9 (Fs.take (i+1))++List.replicate (Fs.length-(i+1)) 0):=by
        rw[HNext.out,List.append_assoc,show Fs.length-(i+1)=n1 from by have:=HN1.out;omega];exact hrow
       have HRow10:=Hh hrow';have HFr10:=Hh hfr;clear hrow hrow' hfr;go_wp2;go_roundw
       case rel=>exact⟨i+1,by go_num,by omega,HRow10.out,HFr10.out.mono (fun q hq e=>absurd e (by omega))⟩
       case measure=>simp[intOf];omega
  ·have hi':i=Fs.length:=by omega
   subst hi';rw[List.take_length,Nat.sub_self,List.replicate_zero,List.append_nil]at hrow;have HRow:=Hh hrow;have HFr:=Hh hfr;clear hrow hfr;go_wp2;go_ret;exact⟨rfl,HRow.out,HFr.out⟩
def zo7 (Fs:List PL)(n root:Nat):List Bool:=zc9 Fs (root+1) ((List.replicate n false).set root true)
set_option maxRecDepth 4000 in
set_option maxHeartbeats 4000000 in
theorem yah {R:Nat→Prop}(nv:Value)(root:Nat)(NL:List PL)(w:World)(hN:NodeL R encN w nv NL)(hr:root<NL.length)(hopt:OptsOK NL)(hn:NL.length<1000000000) :
  Calls Tryz.prog 88 #[nv,.int .i64 (root:Int)] w fun e w'=>e=.returned (.slice (some ⟨w.heap.size,0,none⟩) NL.length NL.length)/\RowIs 4 encB w' w.heap.size (zo7 NL NL.length root)/\Fr NoM w w':=by
 obtain⟨na,nc,rfl,hnc,hncm,hnn⟩:=hN;have hmk:∀W:World,(Instr.makeSlice 111 (.int .i64 (NL.length:Int)) (.int .i64 (NL.length:Int))).run Tryz.prog W=.ok (.slice (some ⟨W.heap.size,0,none⟩) NL.length NL.length) (W.alloc (.cells (ze9 encB false NL.length) 4)):=by
  intro W;obtain⟨i0,hi,hz0,hz1,hz2⟩:=info_parts zuf;have h:=run_make (P:=Tryz.prog) W 111 4 i0 (.bool false) Tryz.underlying111 hi hz0 .i64 .i64 (NL.length:Int) (NL.length:Int) (by omega) (by omega) (by rw[hz2];omega) (by omega);rw[h,hz1,show((NL.length:Int)).toNat=NL.length from by omega,Nat.mul_one];have:madeCells (Value.cells (.bool false)) NL.length=(ze9 encB false NL.length):=by
   apply Array.ext'
   unfold ze9;rw[List.toList_toArray,madeCells,Array.toList_map,Array.toList_range];refine(List.eq_replicate_iff.2 ⟨by simp,fun b hb=>?_⟩:_=List.replicate NL.length (Value.bool false)).trans (by simp[encB]);obtain⟨y,_,rfl⟩:=List.mem_map.1 hb;simp[Value.cells,Nat.mod_one]
  rw[this]
 have ix0:=fun W=>zmr w.heap.size NL.length NL.length root hr W
 have HNn:=Hh hnn;have Hopt:=Hh hopt;have r0:=RowIs.made 4 encB w false NL.length;have z0:=r0.frozen root;have k0:=r0.cell root (by simpa using hr);have R0:=Hh r0;clear hnn hopt r0;go_enter Tryz.func88,Tryz.ntmps88;go_wp2;go_loopw [6] (fun i wr=>∃(n:Nat) (m:List Bool),i=.int .i64 ((n:Int)-1)/\n≤root+1/\m.length=NL.length/\RowIs 4 encB wr w.heap.size m/\zc9 NL n m=zo7 NL NL.length root/\Fr NoM w wr) (fun i _=>(intOf i+1).toNat)
 case atStart=>exact⟨root+1,(List.replicate NL.length false).set root true,by go_num,Nat.le_refl _,by simp,RowIs.made1 4 encB w false true NL.length root,rfl,(Fr.refl NoM w).alloc _⟩
 case round =>
  obtain⟨n,m,rfl,hn',hm,hrow,hre,hfr⟩:=hrel;cases n with
  | zero =>
   have HRow:=Hh hrow;have HRe:=Hh hre;have HFr:=Hh hfr;clear hrow hre hfr;go_wp2;go_ret;refine⟨by simp,?_,HFr.out⟩;rw[←HRe.out];exact HRow.out
  | succ k =>
   rw[show(((k+1:Nat):Int)-1)=(k:Int)from by omega];have hkm:k<m.length:=by omega
   have hkN:k<NL.length:=by omega
   have ixm:=fun(j:Nat) (hj:j<NL.length) W=>zmr w.heap.size NL.length NL.length j hj W
   have ixk:=ixm k (by omega);have d0:=hrow.cell k hkm;have hstep:zct NL m k=if m[k]=true then zbu (zbu m NL[k].1) NL[k].2 else m:=by
    simp only[zct,List.getD_eq_getElem?_getD,List.getElem?_eq_getElem hkm,List.getElem?_eq_getElem hkN,Option.getD_some]
   unfold zc9 at hre;rw[hstep]at hre;have HIx:=Hh ixm;have HRow:=Hh hrow;have HRe:=Hh hre;have HFr:=Hh hfr;have HM:=Hh hm;clear ixm hrow hre hfr hm hstep;by_cases hmk:m[k]=true
   ·have hre:=HRe.out
    rw[if_pos hmk]at hre;rw[hmk]at d0;unfold encB at d0;have HRe1:=Hh hre;clear HRe hre hmk;obtain⟨b1,o1,lv,rv,ha1,_,e1,e2,n1,n2,_,_⟩:=HNn.out k NL[k] (List.getElem?_eq_getElem _);obtain⟨x1,x2⟩:=Hopt.out k NL[k] (List.getElem?_eq_getElem _);have ix:=zbe na NL.length nc k b1 o1 hkN ha1;have hL9:NL[k].1.length≤9223372036854775807:=by obtain⟨a,c,_,h1,h2,_⟩:=n1;omega
    have hR9:NL[k].2.length≤9223372036854775807:=by obtain⟨a,c,_,h1,h2,_⟩:=n2;omega
    obtain⟨la,lc,rfl,hlc⟩:=zem n1;obtain⟨ra,rc,rfl,hrc⟩:=zem n2;have HE1:=Hh e1;have HE2:=Hh e2;have HLc:=Hh hlc;have HRc:=Hh hrc;have HX1:=Hh x1;have HX2:=Hh x2;clear e1 e2 hlc hrc x1 x2 n1 n2 ha1;have e1:=HFr.out.cell HE1.out (fun q=>q);go_wp2;clear e1;go_loopw [33] (fun i wq=>∃j:Nat,i=.int .i64 j/\j≤NL[k].1.length/\RowIs 4 encB wq w.heap.size (zbu m (NL[k].1.take j))/\Fr NoM w wq) (fun i _=>NL[k].1.length-(intOf i).toNat)
    case atStart=>exact⟨0,rfl,Nat.zero_le _,HRow.out,HFr.out⟩
    case round =>
     obtain⟨j,rfl,hj,hrow,hfr⟩:=hrel;by_cases hlt:j<NL[k].1.length
     ·have hx:=HX1.out NL[k].1[j] (List.getElem_mem _)
      obtain⟨b2,o2,ha2,d2⟩:=HLc.out j NL[k].1[j] (by simp);have d2':=hfr.cell d2 (fun q=>q);unfold encN at d2';have ix2:=zaa la NL[k].1.length lc j b2 o2 hlt ha2;have ix3:=HIx.out NL[k].1[j] (by omega);have hml:(zbu m (NL[k].1.take j)).length=NL.length:=by rw[zb5];exact HM.out
      have k1:=hrow.cell NL[k].1[j] (by omega);have z1:=hrow.frozen NL[k].1[j];have hset:(zbu m (NL[k].1.take j)).set NL[k].1[j] true=zbu m (NL[k].1.take (j+1)):=by rw[List.take_succ_eq_append_getElem hlt,zgi]
      have hnew:=hrow.set NL[k].1[j] true;rw[hset]at hnew;have hfr2:=hfr.setCell ⟨w.heap.size,NL[k].1[j],none⟩ (encB true) (fun h=>absurd h (Nat.lt_irrefl _));have HNew:=Hh hnew;have HF2:=Hh hfr2;clear hset hnew hfr2 hrow hfr d2 ha2;go_wp2;go_roundw
      case rel=>exact⟨j+1,by go_num,by omega,HNew.out,HF2.out⟩
      case measure=>simp[intOf];omega
     ·have hj':j=NL[k].1.length:=by omega
      subst hj';rw[List.take_length]at hrow;have HRow1:=Hh hrow;have HFr1:=Hh hfr;clear hrow hfr HRow HFr;have e2:=HFr1.out.cell HE2.out (fun q=>q);go_wp2;clear e2;go_loopw [47] (fun i wq=>∃j:Nat,i=.int .i64 j/\j≤NL[k].2.length/\RowIs 4 encB wq w.heap.size (zbu (zbu m NL[k].1) (NL[k].2.take j))/\Fr NoM w wq) (fun i _=>NL[k].2.length-(intOf i).toNat)
      case atStart=>exact⟨0,rfl,Nat.zero_le _,HRow1.out,HFr1.out⟩
      case round =>
       clear HRow1 HFr1;obtain⟨j,rfl,hj,hrow,hfr⟩:=hrel;by_cases hlt:j<NL[k].2.length
       ·have hx:=HX2.out NL[k].2[j] (List.getElem_mem _)
        obtain⟨b2,o2,ha2,d2⟩:=HRc.out j NL[k].2[j] (by simp);have d2':=hfr.cell d2 (fun q=>q);unfold encN at d2';have ix2:=zaa ra NL[k].2.length rc j b2 o2 hlt ha2;have ix3:=HIx.out NL[k].2[j] (by omega);have hml:(zbu (zbu m NL[k].1) (NL[k].2.take j)).length=NL.length:=by rw[zb5,zb5];exact HM.out
        have k1:=hrow.cell NL[k].2[j] (by omega);have z1:=hrow.frozen NL[k].2[j];have hset:(zbu (zbu m NL[k].1) (NL[k].2.take j)).set NL[k].2[j] true=zbu (zbu m NL[k].1) (NL[k].2.take (j+1)):=by rw[List.take_succ_eq_append_getElem hlt,zgi]
        have hnew:=hrow.set NL[k].2[j] true;rw[hset]at hnew;have hfr2:=hfr.setCell ⟨w.heap.size,NL[k].2[j],none⟩ (encB true) (fun h=>absurd h (Nat.lt_irrefl _));have HNew:=Hh hnew;have HF2:=Hh hfr2;clear hset hnew hfr2 hrow hfr d2 ha2;go_wp2;go_roundw
        case rel=>exact⟨j+1,by go_num,by omega,HNew.out,HF2.out⟩
        case measure=>simp[intOf];omega
       ·have hj':j=NL[k].2.length:=by omega
        subst hj';rw[List.take_length]at hrow;have HRow2:=Hh hrow;have HFr2:=Hh hfr;have HM2:=Hh (show(zbu (zbu m NL[k].1) NL[k].2).length=NL.length by rw[zb5,zb5];exact HM.out);clear hrow hfr;go_wp2;go_roundw
        case rel=>exact⟨k,_,by go_num,by omega,HM2.out,HRow2.out,HRe1.out,HFr2.out⟩
        case measure=>simp[intOf]
   ·have hre:=HRe.out
    rw[if_neg hmk]at hre;have hmk':m[k]=false:=by simpa using hmk
    rw[hmk']at d0;unfold encB at d0;have HRe1:=Hh hre;clear HRe hre hmk hmk';go_wp2;go_roundw
    case rel=>exact⟨k,m,by go_num,by omega,HM.out,HRow.out,HRe1.out,HFr.out⟩
    case measure=>simp[intOf]
structure OrdR (w:World) (ob bb kb:Nat) (NL:List PL) (K:List Nat):Prop where
 o0:w.cell? ⟨ob,0,none⟩=some (.pointer (some ⟨bb,0,none⟩))
 o1:w.cell? ⟨ob,1,none⟩=some (.slice (some ⟨kb,0,none⟩) (NL.length*NL.length) (NL.length*NL.length))
 nv:∃v,w.cell? ⟨bb,0,none⟩=some v/\NodeL (·≠kb) encN w v NL
 n1:ob≠kb
 n2:bb≠kb
 row:RowIs 3 encN w kb K
 len:K.length=NL.length*NL.length
theorem OrdR.fr {w w':World}{ob bb kb:Nat}{NL:List PL}{K K':List Nat}(h:OrdR w ob bb kb NL K)(hf:Fr (fun q=>q=kb) w w')(hr:RowIs 3 encN w' kb K')(hl:K'.length=NL.length*NL.length):OrdR w' ob bb kb NL K':=by
 obtain⟨v,hv,hn⟩:=h.nv;exact⟨hf.cell h.o0 h.n1,hf.cell h.o1 h.n1,⟨v,hf.cell hv h.n2,hn.fr hf (fun k hk=>hk)⟩,h.n1,h.n2,hr,hl⟩
theorem OrdR.fr0 {w w':World}{ob bb kb:Nat}{NL:List PL}{K:List Nat}(h:OrdR w ob bb kb NL K)(hf:Fr NoM w w'):OrdR w' ob bb kb NL K:=h.fr hf.any (h.row.fr hf (fun q=>q)) h.len
def KOK (C:List Nat)(N n:Nat)(K:List Nat):Prop :=
 ∀i j,i<N→j<N→i+j<n→K.getD (i*N+j) 0=0∨(K.getD (i*N+j) 0=1/\geV C i j=true)∨(K.getD (i*N+j) 0=2/\geV C i j=false)
def KSame (N n:Nat)(K K':List Nat):Prop:=∀i j,i<N→j<N→n≤i+j→K'.getD (i*N+j) 0=K.getD (i*N+j) 0
theorem zme {N i j x y:Nat}(hj:j<N)(hy:y<N)(h:i*N+j=x*N+y):i=x/\j=y:=by
 have h1:(i*N+j)%N=j:=by rw[Nat.mul_comm,Nat.mul_add_mod,Nat.mod_eq_of_lt hj]
 have h2:(x*N+y)%N=y:=by rw[Nat.mul_comm,Nat.mul_add_mod,Nat.mod_eq_of_lt hy]
 have hjy:j=y:=by rw[←h1,←h2,h]
 subst hjy;have h3:i*N=x*N:=by omega
 exact⟨Nat.eq_of_mul_eq_mul_right (by omega) h3,rfl⟩
theorem ydn {N x y:Nat}(hx:x<N)(hy:y<N):x*N+y<N*N:=by
 have:x*N+N≤N*N:=by
  have:=Nat.mul_le_mul_right N (show x+1≤N from hx);rwa [Nat.succ_mul]at this
 omega
theorem KOK.mono {C K:List Nat}{N n m:Nat}(h:KOK C N n K)(hm:m≤n):KOK C N m K:=fun i j hi hj hl=>h i j hi hj (by omega)
theorem KOK.step {C K K':List Nat}{N n m:Nat}(h:KOK C N n K)(h':KOK C N m K')(hs:KSame N m K K'):KOK C N n K':=fun i j hi hj hl=>by
 by_cases hm:i+j<m
 ·exact h' i j hi hj hm
 ·rw[hs i j hi hj (by omega)];exact h i j hi hj hl
theorem KSame.trans {N n m:Nat}{K K' K'':List Nat}(h:KSame N n K K')(h':KSame N m K' K'')(hm:m≤n):KSame N n K K'':=fun i j hi hj hl=>(h' i j hi hj (by omega)).trans (h i j hi hj hl)
theorem zgp (K:List Nat)(a b v:Nat):(K.set a v).getD b 0=if a=b/\a<K.length then v else K.getD b 0:=by
 rw[List.getD_eq_getElem?_getD,List.getD_eq_getElem?_getD,List.getElem?_set];by_cases e:a=b
 ·subst e
  by_cases h:a<K.length
  ·simp[h]
  ·simp[h]
 ·simp[e]
def yf6 (C:List Nat)(NL:List PL)(ob bb kb x y:Nat):Prop:=∀(K:List Nat) (w:World),OrdR w ob bb kb NL K→KOK C NL.length (x+y+1) K →
  Calls Tryz.prog 158 #[.pointer (some ⟨ob,0,none⟩),.int .i64 (x:Int),.int .i64 (y:Int)] w fun e w'=>e=.returned (.bool (geV C x y))/\∃K',OrdR w' ob bb kb NL K'∧KOK C NL.length (x+y+1) K'∧KSame NL.length (x+y+1) K K'∧Fr (fun q=>q=kb) w w'
set_option maxHeartbeats 4000000 in
theorem ybn {C:List Nat}{NL:List PL}(B:BookC NL C)(ob bb kb x y:Nat)(hx:x<NL.length)(hy:y<NL.length)(hN:NL.length<1000)
  (ih:∀a b,a+b<x+y→a<NL.length→b<NL.length→yf6 C NL ob bb kb a b) (K:List Nat) (w:World) (hO:OrdR w ob bb kb NL K) (hK:KOK C NL.length (x+y) K) :
  Calls Tryz.prog 172 #[.pointer (some ⟨ob,0,none⟩),.int .i64 (x:Int),.int .i64 (y:Int)] w fun e w'=>e=.returned (.bool (geV C x y))/\∃K',OrdR w' ob bb kb NL K'∧KOK C NL.length (x+y) K'∧KSame NL.length (x+y) K K'∧Fr (fun q=>q=kb) w w':=by
 obtain⟨res,hres⟩:∃res,res=geV C x y:=⟨_,rfl⟩;rw[←hres];have hge:=zzk B hx hy;rw[←hres]at hge;obtain⟨v,hv,hn⟩:=hO.nv;obtain⟨na,nc,rfl,hnc,hncm,hn⟩:=hn;obtain⟨b1,o1,l1,r1,hna,hb1,c1,c2,s1,s2,q1,q2⟩:=hn x _ (za7 hx);obtain⟨b2,o2,l2,r2,hnb,hb2,d1,d2,t1,t2,p1,p2⟩:=hn y _ (za7 hy);obtain⟨u1,u2⟩:=B.opts x _ (za7 hx);obtain⟨v1,v2⟩:=B.opts y _ (za7 hy);have ixx:=zbe na NL.length nc x b1 o1 hx hna;have ixy:=zbe na NL.length nc y b2 o2 hy hnb;obtain⟨R,hR⟩:∃R,R=(za6 NL x).2:=⟨_,rfl⟩;obtain⟨L,hL⟩:∃L,L=(za6 NL y).1:=⟨_,rfl⟩;rw[←hR]at s2 q2 u2 hge;rw[←hL]at t1 p1 v1 hge;have o0:=hO.o0;have ob1:=hO.n1;have bb1:=hO.n2;have HRd:=Hh (fun(W:World) (f:Fr (fun q=>q=kb) w W)=>show W.cell? ⟨ob,0,none⟩=some (.pointer (some ⟨bb,0,none⟩))/\W.cell? ⟨bb,0,none⟩=some (.slice na NL.length nc)/\W.cell? ⟨b1,o1+x*2+1,none⟩=some r1/\W.cell? ⟨b2,o2+y*2,none⟩=some l2/\Nats W r1 R/\Nats W l2 L from
  ⟨f.cell o0 ob1,f.cell hv bb1,f.cell c2 hb1,f.cell d1 hb2,s2.fr f q2,t1.fr f p1⟩)
 obtain⟨ra,rc,rfl,z⟩:=id s2;clear z;obtain⟨la,lc,rfl,z⟩:=id t1;clear z;have HGe:=Hh hge;have HO:=Hh hO;have HK:=Hh hK;have HIh:=Hh ih;have HU:=Hh u2;have HV:=Hh v1;have hR9:R.length≤9223372036854775807:=by obtain⟨a,c,_,h1,h2,_⟩:=s2;omega
 have hL9:L.length≤9223372036854775807:=by obtain⟨a,c,_,h1,h2,_⟩:=t1;omega
 clear hge hO hK ih u1 u2 v1 v2 hres hv hn hna hnb hb1 hb2 c1 c2 d1 d2 s1 s2 t1 t2 q1 q2 p1 p2 hR hL o0;go_enter Tryz.func172,Tryz.ntmps172;go_wp2_with fail;go_loopw [7] (fun t W=>∃(k:Nat) (K':List Nat),t=.int .i64 k/\k≤R.length/\(∀r∈R.take k,geV C y r=false)/\OrdR W ob bb kb NL K'∧KOK C NL.length (x+y) K'∧KSame NL.length (x+y) K K'∧Fr (fun q=>q=kb) w W) (fun t _=>R.length-(intOf t).toNat)
 case atStart=>exact⟨0,K,rfl,Nat.zero_le _,by simp,HO.out,HK.out,fun _ _ _ _ _=>rfl,Fr.refl _ _⟩
 case round =>
  obtain⟨k,K1,rfl,hk,hall,hO1,hK1,hS1,hf1⟩:=hrel;obtain⟨w7,rfl⟩:∃w7,w7=wr:=⟨_,rfl⟩;obtain⟨e0,e1,e2,e3,e4,e5⟩:=HRd.out w7 hf1;have HAll:=Hh hall;have HO1:=Hh hO1;have HK1:=Hh hK1;have HS1:=Hh hS1;have HF1:=Hh hf1;clear hall hO1 hK1 hS1 hf1;by_cases hkl:k<R.length
  ·obtain⟨r,hr⟩:∃r,R[k]?=some r:=⟨_,List.getElem?_eq_getElem hkl⟩
   have hrx:=HU.out r (List.mem_of_getElem? hr);obtain⟨a',c',ee,_,_,hcc⟩:=e4;cases ee
   obtain⟨b3,o3,ha3,c3⟩:=hcc k r hr;have c3':w7.cell? ⟨b3,o3+k,none⟩=some (.int .i64 (r:Int)):=c3;have ix3:=zaa ra R.length rc k b3 o3 hkl ha3;have hgq:=HIh.out y r (by omega) hy (by omega) K1 w7 HO1.out (HK1.out.mono (by omega));have HGq:=Hh hgq;have HR':=Hh hr;clear hgq hr hcc ha3 c3 e5 e3;go_wp2_with fail;refine HGq.out.mono ?_
   rintro e w8 ⟨rfl,K2,hO2,hK2,hS2,hf2⟩;have HO2:=Hh hO2;have HK2:=Hh (HK1.out.step hK2 hS2);have HS2:=Hh (HS1.out.trans hS2 (by omega));have HF2:=Hh (HF1.out.trans hf2 (fun _ _ q=>q));clear hO2 hK2 hS2 hf2;obtain⟨gb,hgb⟩:∃gb,gb=geV C y r:=⟨_,rfl⟩;rw[←hgb];have HGb:=Hh hgb;clear hgb;cases gb with
   | true =>
    have hn:res=false:=by
     cases hc:res with
     | false=>rfl
     | true=>have:=(HGe.out.1 hc).1 r (List.mem_of_getElem? HR'.out);rw[←HGb.out]at this;cases this
    have HN:=Hh hn;clear hn;go_wp2_with fail;go_ret;exact⟨by rw[HN.out];rfl,K2,HO2.out,HK2.out,HS2.out,HF2.out⟩
   | false =>
    go_wp2_with fail;go_roundw
    case rel=>exact⟨k+1,K2,by go_num,by omega,fun r' hr'=>by
     obtain⟨hkl',ee⟩:=List.getElem?_eq_some_iff.1 HR'.out
     rw[List.take_succ_eq_append_getElem hkl',List.mem_append,List.mem_singleton]at hr';rcases hr' with hr'|hr'
     ·exact HAll.out r' hr'
     ·rw[hr',ee];exact HGb.out.symm,HO2.out,HK2.out,HS2.out,HF2.out⟩
    case measure=>simp[intOf];omega
  ·have hk':k=R.length:=by omega
   subst hk';have hallR:∀r∈R,geV C y r=false:=by have:=HAll.out;rwa [List.take_length]at this
   have HAllR:=Hh hallR;clear hallR HAll e3 e4 e5;go_wp2_with fail;clear e0 e1 e2;go_loopw [8] (fun t W=>∃(k:Nat) (K':List Nat),t=.int .i64 k/\k≤L.length/\(∀l∈L.take k,geV C l x=false)/\OrdR W ob bb kb NL K'∧KOK C NL.length (x+y) K'∧KSame NL.length (x+y) K K'∧Fr (fun q=>q=kb) w W) (fun t _=>L.length-(intOf t).toNat)
   case atStart=>exact⟨0,K1,rfl,Nat.zero_le _,by simp,HO1.out,HK1.out,HS1.out,HF1.out⟩
   case round =>
    clear HO1 HK1 HS1 HF1;obtain⟨k,K1,rfl,hk,hall,hO1,hK1,hS1,hf1⟩:=hrel;obtain⟨w7,rfl⟩:∃w7,w7=wr:=⟨_,rfl⟩;obtain⟨e0,e1,e2,e3,e4,e5⟩:=HRd.out w7 hf1;have HAll:=Hh hall;have HO1:=Hh hO1;have HK1:=Hh hK1;have HS1:=Hh hS1;have HF1:=Hh hf1;clear hall hO1 hK1 hS1 hf1;by_cases hkl:k<L.length
    ·obtain⟨r,hr⟩:∃r,L[k]?=some r:=⟨_,List.getElem?_eq_getElem hkl⟩
     have hrx:=HV.out r (List.mem_of_getElem? hr);obtain⟨a',c',ee,_,_,hcc⟩:=e5;cases ee
     obtain⟨b3,o3,ha3,c3⟩:=hcc k r hr;have c3':w7.cell? ⟨b3,o3+k,none⟩=some (.int .i64 (r:Int)):=c3;have ix3:=zaa la L.length lc k b3 o3 hkl ha3;have hgq:=HIh.out r x (by omega) (by omega) hx K1 w7 HO1.out (HK1.out.mono (by omega));have HGq:=Hh hgq;have HR':=Hh hr;clear hgq hr hcc ha3 c3 e4 e2;go_wp2_with fail;refine HGq.out.mono ?_
     rintro e w8 ⟨rfl,K2,hO2,hK2,hS2,hf2⟩;have HO2:=Hh hO2;have HK2:=Hh (HK1.out.step hK2 hS2);have HS2:=Hh (HS1.out.trans hS2 (by omega));have HF2:=Hh (HF1.out.trans hf2 (fun _ _ q=>q));clear hO2 hK2 hS2 hf2;obtain⟨gb,hgb⟩:∃gb,gb=geV C r x:=⟨_,rfl⟩;rw[←hgb];have HGb:=Hh hgb;clear hgb;cases gb with
     | true =>
      have hn:res=false:=by
       cases hc:res with
       | false=>rfl
       | true=>have:=(HGe.out.1 hc).2 r (List.mem_of_getElem? HR'.out);rw[←HGb.out]at this;cases this
      have HN:=Hh hn;clear hn;go_wp2_with fail;go_ret;exact⟨by rw[HN.out];rfl,K2,HO2.out,HK2.out,HS2.out,HF2.out⟩
     | false =>
      go_wp2_with fail;go_roundw
      case rel=>exact⟨k+1,K2,by go_num,by omega,fun r' hr'=>by
       obtain⟨hkl',ee⟩:=List.getElem?_eq_some_iff.1 HR'.out
       rw[List.take_succ_eq_append_getElem hkl',List.mem_append,List.mem_singleton]at hr';rcases hr' with hr'|hr'
       ·exact HAll.out r' hr'
       ·rw[hr',ee];exact HGb.out.symm,HO2.out,HK2.out,HS2.out,HF2.out⟩
      case measure=>simp[intOf];omega
    ·have hk':k=L.length:=by omega
     subst hk';have hn:res=true:=HGe.out.2 ⟨HAllR.out,by have:=HAll.out;rwa [List.take_length]at this⟩;have HN:=Hh hn;clear hn e4;go_wp2_with fail;go_ret;exact⟨by rw[HN.out];rfl,K1,HO1.out,HK1.out,HS1.out,HF1.out⟩
theorem zy1 {w:World}{g N:Nat}{K:List Nat}(h:RowIs 3 encN w g K){p:Nat}(hp:p<K.length):w.cell? ⟨g,p,none⟩=some (.int .i64 ((K.getD p 0:Nat):Int))/\w.frozen? ⟨g,p,none⟩=false:=by
 refine⟨?_,h.frozen p⟩;rw[h.cell p hp,List.getD_eq_getElem?_getD,List.getElem?_eq_getElem hp];rfl
theorem KOK.put {C K:List Nat}{N x y n v:Nat}(hy:y<N)(h:KOK C N n K)(hv:n≤x+y∨(v=1/\geV C x y=true)∨(v=2/\geV C x y=false)):KOK C N n (K.set (x*N+y) v):=fun i j hi hj hl=>by
 rw[zgp];split
 ·rename_i e
  obtain⟨rfl,rfl⟩:=zme hy hj e.1;rcases hv with hv|hv|hv
  ·omega
  ·exact .inr (.inl hv)
  ·exact .inr (.inr hv)
 ·exact h i j hi hj hl
theorem KSame.put {K:List Nat}{N x y n v:Nat}(hy:y<N)(hv:x+y<n):KSame N n K (K.set (x*N+y) v):=fun i j hi hj hl=>by
 rw[zgp,if_neg];rintro⟨e,_⟩;obtain⟨rfl,rfl⟩:=zme hy hj e;omega
set_option maxHeartbeats 4000000 in
theorem ye6 {C:List Nat}{NL:List PL}(B:BookC NL C)(ob bb kb:Nat)(hN:NL.length<1000):∀n x y,x+y<n→x<NL.length→y<NL.length→yf6 C NL ob bb kb x y:=by
 intro n;induction n with
 | zero=>intro x y h;omega
 | succ n ih =>
  intro x y hn hx hy K w hO hK;have HLook:=Hh (fun K w h1 h2=>ybn B ob bb kb x y hx hy hN (fun a b hab ha hb=>ih a b (by omega) ha hb) K w h1 h2);have hlt:=ydn hx hy;have hNN:NL.length*NL.length<1000000:=by
   have h1:=Nat.mul_le_mul (show NL.length≤999 by omega) (show NL.length≤999 by omega);omega
  obtain⟨v,hv,hnn⟩:=hO.nv;obtain⟨na,nc,rfl,hnc,hncm,z⟩:=id hnn;clear z hnn;obtain⟨q,hq⟩:∃q,q=x*NL.length:=⟨_,rfl⟩;obtain⟨N2,hN2⟩:∃N2,N2=NL.length*NL.length:=⟨_,rfl⟩;obtain⟨p,hp⟩:∃p,p=q+y:=⟨_,rfl⟩;have hpe:x*NL.length+y=p:=by rw[hp,hq]
  have hm:(x:Int)*(NL.length:Int)=(q:Int):=by rw[hq];exact(Int.natCast_mul _ _).symm
  have hpl:p<N2:=by omega
  have hqb:q<1000000:=by omega
  have hO1:=hO.o1;rw[←hN2]at hO1;have hkl:=hO.len;rw[←hN2]at hkl;have ix:∀W:World,(Instr.indexAt 82 (.slice (some ⟨kb,0,none⟩) N2 N2) (.int .i64 ((q:Int)+(y:Int)))).run Tryz.prog W=.ok (.pointer (some ⟨kb,p,none⟩)) W:=by
   intro W;have h:=zdm kb N2 N2 p hpl W;rw[show((p:Nat):Int)=(q:Int)+(y:Int)from by omega]at h;exact h
  have hob:=hO.n1;have hbb:=hO.n2;have ho0:=hO.o0;have HRd:=Hh (fun(W:World) (f:Fr (fun q=>q=kb) w W)=>show W.cell? ⟨ob,0,none⟩=some (.pointer (some ⟨bb,0,none⟩))/\W.cell? ⟨ob,1,none⟩=some (.slice (some ⟨kb,0,none⟩) N2 N2)/\W.cell? ⟨bb,0,none⟩=some (.slice na NL.length nc)from
   ⟨f.cell ho0 hob,f.cell hO1 hob,f.cell hv hbb⟩)
  obtain⟨res,hres⟩:∃res,res=geV C x y:=⟨_,rfl⟩;rw[←hres];obtain⟨c0,z0⟩:=zy1 (N:=N2) hO.row (p:=p) (by omega);obtain⟨e0,e1,e2⟩:=HRd.out w (Fr.refl _ _);obtain⟨c,hc⟩:∃c,c=K.getD p 0:=⟨_,rfl⟩;rw[←hc]at c0;have hkp:=hK x y hx hy (by omega);rw[hpe,←hc,←hres]at hkp;have HO:=Hh hO;have HK:=Hh hK;have HP:=Hh hpe;have HKl:=Hh hkl;have HRes:=Hh hres;have HC:=Hh hc;have HN2:=Hh hN2;have HPl:=Hh hpl;have hdr:=Fr.setCell (Fr.refl (fun q=>q=kb) w) ⟨kb,p,none⟩ (encN 2) (fun _=>rfl);have hro:=hO.row.set p 2;have HDr:=Hh hdr;have HRo:=Hh hro;clear hO hK hpe hkl hres hc hN2 hpl hv hO1 ho0 hq hp hdr hro ih;by_cases hc0:c=0
  ·have hcb:((c:Int) == 0)=true:=by rw[hc0];rfl
   have HC0:=Hh hc0;clear hkp hc0;go_enter Tryz.func158,Tryz.ntmps158;go_wp2_with fail;have hO1:OrdR (w.setCell ⟨kb,p,none⟩ (encN 2)) ob bb kb NL (K.set p 2):=HO.out.fr HDr.out HRo.out (by rw[List.length_set];exact HO.out.len);have hK1:KOK C NL.length (x+y) (K.set p 2):=by rw[←HP.out];exact(HK.out.mono (by omega)).put hy (.inl (Nat.le_refl _))
   refine(HLook.out (K.set p 2) _ hO1 hK1).mono ?_
   rintro e w2 ⟨rfl,K2,hO2,hK2,hS2,hf2⟩;rw[←HRes.out];have hf02:Fr (fun q=>q=kb) w w2:=HDr.out.trans hf2 (fun _ _ q=>q);obtain⟨d0,d1,d2⟩:=HRd.out w2 hf02;have hl2:K2.length=N2:=by rw[hO2.len,HN2.out]
   obtain⟨c2,z2⟩:=zy1 (N:=N2) hO2.row (p:=p) (by have:=HPl.out;omega);have hk2:K2.getD p 0=2:=by
    have h:=hS2 x y hx hy (Nat.le_refl _);rw[HP.out,zgp,if_pos ⟨rfl,by have:=HPl.out;have:=HKl.out;omega⟩]at h;exact h
   rw[hk2]at c2;have hS02:KSame NL.length (x+y+1) K K2:=by
    have h:=KSame.put (K:=K) (x:=x) (n:=x+y+1) (v:=2) hy (Nat.lt_succ_self _);rw[HP.out]at h;exact h.trans hS2 (by omega)
   have hK02:KOK C NL.length (x+y) K2:=hK2;have hKs:∀i j,i<NL.length→j<NL.length→i+j=x+y→¬(i=x/\j=y)→K2.getD (i*NL.length+j) 0=0∨(K2.getD (i*NL.length+j) 0=1/\geV C i j=true)∨(K2.getD (i*NL.length+j) 0=2/\geV C i j=false):=fun i j hi hj he hne=>by
    rw[hS2 i j hi hj (by omega),zgp,if_neg (fun q=>hne (zme hj hy (by rw[HP.out];exact q.1.symm)))];exact HK.out i j hi hj (by omega)
   have hdr:=Fr.setCell (Fr.refl (fun q=>q=kb) w2) ⟨kb,p,none⟩ (encN 1) (fun _=>rfl);have hro:=hO2.row.set p 1;have HDr2:=Hh hdr;have HRo2:=Hh hro;have HO2:=Hh hO2;have HK2:=Hh hK02;have HS02:=Hh hS02;have HKs:=Hh hKs;have HF02:=Hh hf02;have HKv:=Hh hk2;have HL2:=Hh hl2;clear hO1 hK1 hdr hro hO2 hK02 hK2 hS02 hS2 hKs hf02 hf2 hk2 hl2 e0 e1 e2 c0 z0;cases hrc:res with
   | true =>
    have HT:=Hh (show geV C x y=true from by rw[←HRes.out,hrc]);have HRc:=Hh hrc;clear hrc;have k3:(w2.setCell ⟨kb,p,none⟩ (.int .i64 1)).cell? ⟨kb,p,none⟩=some (.int .i64 1):=by
     have h:=(HRo2.out.at (i:=p) (x:=1) (by rw[List.getElem?_set];simp;have:=HPl.out;have:=HL2.out;omega));exact h
    go_wp2_with fail;go_ret;refine⟨by rw[HRc.out];rfl,K2.set p 1,HO2.out.fr HDr2.out HRo2.out (by rw[List.length_set];exact HO2.out.len),fun i j hi hj hl=>?_,fun i j hi hj hl=>?_,HF02.out.trans HDr2.out (fun _ _ q=>q)⟩
    ·rw[zgp]
     split
     ·rename_i e
      obtain⟨rfl,rfl⟩:=zme hy hj (by rw[HP.out];exact e.1);exact .inr (.inl ⟨rfl,HT.out⟩)
     ·rename_i e
      by_cases he:i+j<x+y
      ·exact HK2.out i j hi hj he
      ·refine HKs.out i j hi hj (by omega) (fun q=>e ?_)
       rw[q.1,q.2,HP.out];exact⟨rfl,by have:=HPl.out;have:=HL2.out;omega⟩
    ·rw[zgp,if_neg,HS02.out i j hi hj hl]
     rintro⟨e,_⟩;obtain⟨rfl,rfl⟩:=zme hy hj (by rw[HP.out];exact e);omega
   | false =>
    have HT:=Hh (show geV C x y=false from by rw[←HRes.out,hrc]);have HRc:=Hh hrc;clear hrc;go_wp2_with fail;go_ret;refine⟨by rw[HRc.out];rfl,K2,HO2.out,fun i j hi hj hl=>?_,HS02.out,HF02.out⟩;by_cases he:i+j<x+y
    ·exact HK2.out i j hi hj he
    ·by_cases hxy:i=x/\j=y
     ·obtain⟨rfl,rfl⟩:=hxy
      rw[HP.out,HKv.out];exact .inr (.inr ⟨rfl,HT.out⟩)
     ·exact HKs.out i j hi hj (by omega) hxy
  ·have hcb:((c:Int) == 0)=false:=by rw[beq_eq_false_iff_ne];omega
   have hc1:((c:Int) == 1)=res:=by
    rcases hkp with h|⟨h1,h2⟩|⟨h1,h2⟩
    ·omega
    ·rw[h1,h2];rfl
    ·rw[h1,h2];rfl
   clear hkp hc0;go_enter Tryz.func158,Tryz.ntmps158;go_wp2_with fail;go_ret;exact⟨rfl,K,HO.out,HK.out,fun _ _ _ _ _=>rfl,Fr.refl _ _⟩
theorem zkr {C:List Nat}{NL:List PL}(B:BookC NL C)(ob bb kb x y:Nat)(hN:NL.length<1000)(hx:x<NL.length)(hy:y<NL.length)(K:List Nat)(w:World)(hO:OrdR w ob bb kb NL K)(hK:KOK C NL.length (2*NL.length) K) :
  Calls Tryz.prog 158 #[.pointer (some ⟨ob,0,none⟩),.int .i64 (x:Int),.int .i64 (y:Int)] w fun e w'=>e=.returned (.bool (geV C x y))/\∃K',OrdR w' ob bb kb NL K'∧KOK C NL.length (2*NL.length) K'∧Fr (fun q=>q=kb) w w':=by
 refine(ye6 B ob bb kb hN _ x y (Nat.lt_succ_self _) hx hy K w hO (hK.mono (by omega))).mono ?_
 rintro e w' ⟨rfl,K',h1,h2,h3,h4⟩;exact⟨rfl,K',h1,hK.step h2 h3,h4⟩
set_option maxHeartbeats 1000000 in
theorem zmp (v:Value)(L:List Nat)(n:Nat)(w:World)(hL:Nats w v L):Calls Tryz.prog 157 #[v,.int .i64 (n:Int)] w fun e w'=>e=.returned (.bool (decide (n∈L)))/\w'=w:=by
 obtain⟨a,c,rfl,h1,h2,hL⟩:=hL;have HL:=Hh hL;clear hL;obtain⟨res,hres⟩:∃res,res=decide (n∈L):=⟨_,rfl⟩;rw[←hres];have HR:=Hh hres;clear hres;go_enter Tryz.func157,Tryz.ntmps157;go_wp2;go_loop [5] (fun i=>∃k:Nat,i=.int .i64 k/\k≤L.length/\n ∉ L.take k) (fun i=>L.length-(intOf i).toNat)
 case atStart=>exact⟨0,rfl,Nat.zero_le _,by simp⟩
 case round =>
  obtain⟨k,rfl,hk,hno⟩:=hrel;have HNo:=Hh hno;clear hno;by_cases hkl:k<L.length
  ·obtain⟨x,hx⟩:∃x,L[k]?=some x:=⟨_,List.getElem?_eq_getElem hkl⟩
   obtain⟨b1,o1,ha,hc⟩:=HL.out k x hx;have ix:=zaa a L.length c k b1 o1 hkl ha;have hc1:w.cell? ⟨b1,o1+k,none⟩=some (.int .i64 (x:Int)):=hc;have HX:=Hh hx;clear hx ha hc;by_cases he:x=n
   ·have hb:((x:Int) == (n:Int))=true:=by rw[he];exact beq_self_eq_true _
    have hr:res=true:=by rw[HR.out];exact decide_eq_true (he ▸ List.mem_of_getElem? HX.out)
    have HRt:=Hh hr;clear hr he;go_wp2;go_ret;exact⟨by rw[HRt.out];rfl,rfl⟩
   ·have hb:((x:Int) == (n:Int))=false:=by rw[beq_eq_false_iff_ne];omega
    have HE:=Hh he;clear he;go_wp2;go_round
    case rel=>exact⟨k+1,by go_num,by omega,fun h=>by
     obtain⟨hkl,e⟩:=List.getElem?_eq_some_iff.1 HX.out
     rw[List.take_succ_eq_append_getElem hkl,List.mem_append,List.mem_singleton]at h;rcases h with h|h
     ·exact HNo.out h
     ·exact HE.out (by rw[h,e])⟩
    case measure=>simp[intOf];omega
  ·have hk':k=L.length:=by omega
   have hr:res=false:=by rw[HR.out];exact decide_eq_false (by have:=HNo.out;rwa [hk',List.take_length]at this)
   have HRf:=Hh hr;clear hr hk';go_wp2;go_ret;exact⟨by rw[HRf.out];rfl,rfl⟩
set_option maxHeartbeats 2000000 in
theorem zhq (lv pv:Value)(L P:List Nat)(w:World)(hL:Nats w lv L)(hP:Nats w pv P)(hl:L.length<1000000000000) :
  Calls Tryz.prog 128 #[lv,pv] w fun e w'=>∃v',e=.returned v'∧w'.ownsRow w.heap.size 3 1 v' (zai L P).length ((zai L P).map encN)/\Fr NoM w w':=by
 have HP:=Hh (fun(W:World) (f:Fr NoM w W)=>hP.fr0 f);obtain⟨la,lc,rfl,hlc,hlcm,hL⟩:=hL;obtain⟨pa,pc,rfl,_,_,_⟩:=hP;have HL:=Hh hL;clear hL;have Hl:=Hh hl;clear hl;go_enter Tryz.func128,Tryz.ntmps128;go_wp2_with fail;go_loopw [5,6] (fun v i wr=>∃k:Nat,k≤L.length/\i=.int .i64 k/\wr.ownsRow w.heap.size 3 1 v (zai (L.take k) P).length ((zai (L.take k) P).map encN)/\Fr NoM w wr) (fun _ i _=>L.length-(intOf i).toNat)
 case atStart=>exact⟨0,by omega,rfl,World.ownsRow_made w #[] 0 (by omega) (by decide) (by simp[zai]),(Fr.refl _ _).alloc _⟩
 case round =>
  obtain⟨k,hk,rfl,hown,hfr⟩:=hrel;obtain⟨w7,rfl⟩:∃w7,w7=wr:=⟨_,rfl⟩;by_cases hlt':k<L.length
  ·obtain⟨b1,o1,ha1,hc1⟩:=HL.out k L[k] (by simp)
   have hc1':=hfr.cell hc1 (fun q=>q);have ix1:=zaa la L.length lc k b1 o1 hlt' ha1;unfold encN at hc1';have hnext:=zha L P k hlt';have hcall:=zmp _ P k w7 (HP.out w7 hfr);have hlen:=zci (L.take k) P;have HO:=Hh hown;have HFr:=Hh hfr;have HLen:=Hh hlen;clear hc1 ha1 hown hfr hlen;by_cases hm:k∈P
   ·rw[if_pos hm]at hnext
    rw[decide_eq_true hm]at hcall;have HN:=Hh hnext;have HC:=Hh hcall;clear hnext hcall hm;go_wp2_with fail;refine HC.out.mono ?_
    rintro e w8 ⟨rfl,rfl⟩;go_wp2_with fail;go_roundw
    case rel=>exact⟨k+1,by omega,by go_num,by rw[HN.out];exact HO.out,HFr.out⟩
    case measure=>simp[intOf];omega
   ·rw[if_neg hm]at hnext
    rw[decide_eq_false hm]at hcall;have hnx:(zai (L.take k) P).map encN ++ [encN L[k]]=(zai (L.take (k+1)) P).map encN:=by rw[hnext,List.map_append];rfl
    have hnl:(zai (L.take k) P).length+1=(zai (L.take (k+1)) P).length:=by rw[hnext,List.length_append];rfl
    have HN:=Hh hnx;have HC:=Hh hcall;have HNl:=Hh hnl;clear hnext hcall hm hnx hnl;go_wp2_with fail;refine HC.out.mono ?_
    rintro e w8 ⟨rfl,rfl⟩;go_wp2_with (at_builtin;refine zbn (enc:=encN) w (HFr.out.alloc _) rfl _ _ 82 rfl 3 (.int .i64 0) 8 Tryz.underlying82 za9 rfl _ (zai (L.take k) P).length _ rfl (HO.out.alloc _) _ rfl [L[k]] (SliceOf.one encN w8 L[k] 3) (fun _=>rfl) ?c1 (by decide) ?_)
    case c1=>have:=HLen.out;have:=Hl.out;simp at *;omega
    intro v' w' h1 h2;rw[HN.out]at h1;have h1:w'.ownsRow w.heap.size 3 1 v' (zai (L.take (k+1)) P).length ((zai (L.take (k+1)) P).map encN):=by rw[←HNl.out];exact h1
    have H1:=Hh h1;have H2:=Hh h2;clear h1 h2;go_wp2_with fail;go_roundw
    case rel=>exact⟨k+1,by omega,by go_num,H1.out,H2.out⟩
    case measure=>simp[intOf];omega
  ·have hk':k=L.length:=by omega
   have HK:=Hh hk';have HO:=Hh hown;have HFr:=Hh hfr;clear hk' hown hfr;go_wp2_with fail;go_ret;exact⟨_,rfl,by have h:=HO.out;rw[HK.out,List.take_length]at h;exact h,HFr.out⟩
theorem zy6 {L:List Nat}{n:Nat}(hu:L.Pairwise (· < ·))(h:n∈L):putN L n=L :=
 zgt (zic n hu) hu fun x=>by
  rw[zgf];constructor
  ·rintro(h1|rfl)
   ·exact h1
   ·exact h
  ·exact .inl
def zd4 (g:Nat→Nat→Bool)(L:List Nat)(i k:Nat):List Nat:=((List.range i).filter fun m=>(List.range L.length).any (domP g L m))++if (List.range k).any (domP g L i)=true then [i]else []
theorem zup (g:Nat→Nat→Bool)(L:List Nat)(i k:Nat):(zd4 g L i k).Pairwise (· < ·):=by
 unfold zd4;refine List.pairwise_append.2 ⟨List.pairwise_lt_range.filter _,by split <;> simp,fun a ha b hb=>?_⟩;have h1:=List.mem_range.1 (List.mem_filter.1 ha).1;split at hb
 ·rw[List.mem_singleton]at hb;omega
 ·cases hb
theorem zo1 {g:Nat→Nat→Bool}{L:List Nat}{i k:Nat}(h:domP g L i k=false):zd4 g L i (k+1)=zd4 g L i k:=by
 unfold zd4;rw[List.range_succ,List.any_append,List.any_cons,List.any_nil,h,Bool.or_false,Bool.or_false]
theorem zo0 {g:Nat→Nat→Bool}{L:List Nat}{i k:Nat}(h:domP g L i k=true):putN (zd4 g L i k) i=zd4 g L i (k+1):=by
 have hu:=zup g L i k;have h1:zd4 g L i (k+1)=((List.range i).filter fun m=>(List.range L.length).any (domP g L m)) ++ [i]:=by
  unfold zd4;rw[List.range_succ,List.any_append,List.any_cons,h,Bool.true_or,Bool.or_true,if_pos rfl]
 rw[h1];unfold zd4 at hu ⊢;by_cases hp:(List.range k).any (domP g L i)=true
 ·rw[if_pos hp]at hu ⊢
  exact zy6 hu (by simp)
 ·rw[if_neg hp,List.append_nil]
  exact ztq _ _ fun x hx=>List.mem_range.1 (List.mem_filter.1 hx).1
theorem zgq (g:Nat→Nat→Bool)(L:List Nat)(i:Nat):zd4 g L i L.length=zd4 g L (i+1) 0:=by
 unfold zd4;rw[List.range_succ,List.filter_append];by_cases hp:(List.range L.length).any (domP g L i)=true
 ·rw[if_pos hp];simp[hp]
 ·rw[if_neg hp];simp[hp]
theorem zra (g:Nat→Nat→Bool)(L:List Nat):zd4 g L L.length 0=domB g L:=by simp[zd4,domB]
theorem zr9 (g:Nat→Nat→Bool)(L:List Nat)(i k:Nat):(zd4 g L i k).length≤i+1:=by
 have:=zp5 (zup g L i k) (n:=i+1) fun x hx=>by
  rcases List.mem_append.1 hx with hx|hx
  ·have:=List.mem_range.1 (List.mem_filter.1 hx).1;omega
  ·split at hx
   ·rw[List.mem_singleton]at hx;omega
   ·cases hx
 exact this
set_option maxRecDepth 4000 in
set_option maxHeartbeats 4000000 in
theorem zvn {C:List Nat} {NL:List PL} (B:BookC NL C) (ob bb kb:Nat) (hN:NL.length < 1000) (lv:Value) (L K:List Nat) (w:World) (hO:OrdR w ob bb kb NL K) (hK:KOK C NL.length (2 * NL.length) K) (hL:Nats w lv L) (hLb:L≠[]→∀ q,lv.ownBlock=some q→q≠kb) (hLt:∀ x∈L,x < NL.length) (hl:L.length < 1000000) :
    Calls Tryz.prog 129 #[.pointer (some ⟨ob,0,none⟩),lv,.bool true] w fun e w'=>∃ (v':Value) (K':List Nat),e=.returned v'∧Nats w' v' (domB (gL C) L)∧(∀ q,v'.ownBlock=some q→w.heap.size≤q)∧OrdR w' ob bb kb NL K'∧KOK C NL.length (2 * NL.length) K'∧Fr (fun q=>q=kb) w w':=by
  have hkb:kb < w.heap.size:=(Array.getElem?_eq_some_iff.1 hO.row).1;have HL:=Hh (fun (W:World) (f:Fr (fun q=>q=kb) w W)=>show Nats W lv L from hL.fr f hLb);obtain ⟨la,lc,rfl,hlc,hlcm,z⟩:=hL;have HO:=Hh hO;have HK:=Hh hK;have HLt:=Hh hLt;have Hl:=Hh hl;have HGq:=Hh (fun x y hx hy K w=>zkr B ob bb kb x y hN hx hy K w);clear hO hK hLt hl z hLb;go_enter Tryz.func129,Tryz.ntmps129;go_wp2_with fail;go_loopw [7,8] (fun o t W=>∃ (i:Nat) (K':List Nat),t=.int .i64 i∧i≤L.length∧Nats W o (zd4 (gL C) L i 0)∧(∀ q,o.ownBlock=some q→w.heap.size≤q)∧OrdR W ob bb kb NL K'∧KOK C NL.length (2 * NL.length) K'∧Fr (fun q=>q=kb) w W) (fun _ t _=>L.length - (intOf t).toNat)
  case atStart=>exact ⟨0,K,rfl,Nat.zero_le _,⟨_,0,rfl,Nat.le_refl _,by decide,by simp [zd4]⟩,fun q hq=>by cases hq;exact Nat.le_refl _,HO.out.fr0 ((Fr.refl NoM w).alloc _),HK.out,(Fr.refl _ w).alloc _⟩
  case round =>
    obtain ⟨i,K1,rfl,hi,hn,hb,hO1,hK1,hf1⟩:=hrel;obtain ⟨w6,rfl⟩:∃ w6,w6=wr:=⟨_,rfl⟩;by_cases hil:i < L.length
    · have HNo := Hh hn; have HB := Hh hb; have HO1 := Hh hO1; have HK1 := Hh hK1; have HF1 := Hh hf1
      clear hn hb hO1 hK1 hf1;go_wp2_with fail;go_loopw [7,9] (fun o t W=>∃ (k:Nat) (K':List Nat),t=.int .i64 k∧k≤L.length∧Nats W o (zd4 (gL C) L i k)∧(∀ q,o.ownBlock=some q→w.heap.size≤q)∧OrdR W ob bb kb NL K'∧KOK C NL.length (2 * NL.length) K'∧Fr (fun q=>q=kb) w W) (fun _ t _=>L.length - (intOf t).toNat)
      case atStart=>exact ⟨0,K1,rfl,Nat.zero_le _,HNo.out,HB.out,HO1.out,HK1.out,HF1.out⟩
      case round =>
        clear HNo HB HO1 HK1 HF1;obtain ⟨k,K2,rfl,hk,hn,hb,hO2,hK2,hf2⟩:=hrel;obtain ⟨w7,rfl⟩:∃ w7,w7=wr:=⟨_,rfl⟩;obtain ⟨oa,oc,rfl,z⟩:=id hn;clear z;have HNo:=Hh hn;have HB:=Hh hb;have HF2:=Hh hf2;have HK2:=Hh hK2;have HO2:=Hh (fun (W:World) (f:Fr NoM w7 W)=>hO2.fr0 f);clear hn hb hO2 hK2 hf2;by_cases hkl:k < L.length
        · obtain ⟨x, hx⟩ : ∃ x, L[i]? = some x := ⟨_, List.getElem?_eq_getElem hil⟩
          obtain ⟨y,hy⟩:∃ y,L[k]?=some y:=⟨_,List.getElem?_eq_getElem hkl⟩;have hxl:=HLt.out x (List.mem_of_getElem? hx);have hyl:=HLt.out y (List.mem_of_getElem? hy);obtain ⟨_,_,ee,_,_,hcc⟩:=HL.out w7 HF2.out;cases ee
          obtain ⟨b1,o1,ha1,d1⟩:=hcc i x hx;obtain ⟨b2,o2,ha2,d2⟩:=hcc k y hy;have ix1:=zaa la L.length lc i b1 o1 hil ha1;have ix2:=zaa la L.length lc k b2 o2 hkl ha2;have d1':w7.cell? ⟨b1,o1 + i,none⟩=some (.int .i64 (x:Int)):=d1;have d2':w7.cell? ⟨b2,o2 + k,none⟩=some (.int .i64 (y:Int)):=d2;have HS:=Hh (fun (W:World) (f:Fr (fun q=>q=kb) w7 W)=>show W.cell? ⟨b1,o1 + i,none⟩=some (.int .i64 (x:Int))∧W.cell? ⟨b2,o2 + k,none⟩=some (.int .i64 (y:Int)) from by
            obtain ⟨_,_,ee,_,_,hcc⟩:=HL.out W (HF2.out.trans f (fun _ _ q=>q));cases ee
            obtain ⟨b3,o3,ha3,e1⟩:=hcc i x hx;obtain ⟨b4,o4,ha4,e2⟩:=hcc k y hy;rw [ha1] at ha3;cases ha3
            rw [ha2] at ha4;cases ha4
            exact ⟨e1,e2⟩)
          obtain ⟨g1,hg1⟩:∃ g1,g1=geV C y x:=⟨_,rfl⟩;obtain ⟨g2,hg2⟩:∃ g2,g2=geV C x y:=⟨_,rfl⟩;have hdom:domP (gL C) L i k=(decide (k≠i) && (g1 && (!g2 || decide (k < i)))):=by
            unfold domP gL;rw [List.getD_eq_getElem?_getD,List.getD_eq_getElem?_getD,hx,hy];show (decide (k≠i) && (geV C y x && (!geV C x y || decide (k < i))))=_
            rw [hg1,hg2]
          have HG1:=Hh (fun K W=>HGq.out y x hyl hxl K W);have HG2:=Hh (fun K W=>HGq.out x y hxl hyl K W);rw [← hg1] at HG1;rw [← hg2] at HG2;have HDom:=Hh hdom;have F0:Fr NoM w7 w7.drew:=(Fr.refl NoM w7).drew;have G0:Fr (fun q=>q=kb) w7 w7.drew:=F0.any;clear hx hy hcc ha1 ha2 d1 d2 hg1 hg2 hdom;go_upto_region 8 with fail;go_region_held3 (fun (W:World)=>W.cell? ⟨b1,o1 + i,none⟩=some (.int .i64 (x:Int))∧W.cell? ⟨b2,o2 + k,none⟩=some (.int .i64 (y:Int)))
            (first | exact HS.out _ (by assumption))
            (first
              | (go_at_call 158;(with_reducible refine (HG1.out K2 _ (HO2.out _ (by assumption)) HK2.out).mono ?_);rintro e w8 ⟨rfl,K3,hO3,hK3,hf3⟩;have G8:Fr (fun q=>q=kb) w7 w8:=Fr.trans (by assumption) hf3 (fun _ _ q=>q))
              | (go_at_call 158;(with_reducible refine (HG2.out K3 _ (by assumption) (by assumption)).mono ?_);rintro e w9 ⟨rfl,K4,hO4,hK4,hf4⟩;have G9:Fr (fun q=>q=kb) w7 w9:=Fr.trans (by assumption) hf4 (fun _ _ q=>q))
              | fail)
          all_goals
            have HO4:=Hh hO4;have HK4:=Hh hK4;have HG9:=Hh G9;have hNo9:Nats w9 (.slice oa (zd4 (gL C) L i k).length oc) (zd4 (gL C) L i k):=HNo.out.fr G9 (fun _ q hq e=>by have:=HB.out q hq;omega);have HNo9:=Hh hNo9;clear hO4 hK4 G9 hf4 hO3 hK3 hf3 G8 F0 G0 d1' d2' ix1 ix2 hNo9;go_upto_region 11 with fail;obtain ⟨db,hdb⟩:∃ db,db=domP (gL C) L i k:=⟨_,rfl⟩;have HDb:=Hh hdb;clear hdb;go_cut [63] from 49 to 63 (fun c W=>c=.bool db∧W=w9)
            case first =>
              by_cases hki:k=i
              · have hd : db = false := by rw [HDb.out, HDom.out, hki]; simp
                have HD:=Hh hd;have hb1:((k:Int) != (i:Int))=false:=by rw [hki];simp
                clear hd hki;go_wp2_with fail;go_meet
                case rel=>exact ⟨by rw [HD.out],rfl⟩
              · have hb1 : ((k : Int) != (i : Int)) = true := by rw [bne_iff_ne]; omega
                by_cases hlt:k < i
                · have hd : db = g1 := by rw [HDb.out, HDom.out, decide_eq_true hlt, decide_eq_true hki]; simp
                  have HD:=Hh hd;clear hd hki;cases g1 <;> cases g2 <;>
                    (go_wp2_with fail
                     go_meet
                     case rel=>exact ⟨by rw [HD.out] <;> rfl,rfl⟩)
                · have hd : db = (g1 && !g2) := by rw [HDb.out, HDom.out, decide_eq_false hlt, decide_eq_true hki]; simp
                  have HD:=Hh hd;clear hd hki;cases g1 <;> cases g2 <;>
                    (go_wp2_with fail
                     go_meet
                     case rel=>exact ⟨by rw [HD.out] <;> rfl,rfl⟩)
            case rest =>
              obtain ⟨rfl,rfl⟩:=hcut;have hd:=HDb.out;cases db with
              | true =>
                have hst:=zo0 hd.symm;have HSt:=Hh hst;clear hst hd;go_wp2_with fail;refine (ze5 _ (zd4 (gL C) L i k) i wc HNo9.out (by have:=zr9 (gL C) L i k;have:=Hl.out;omega)).mono ?_
                rintro e w5 ⟨v5,rfl,hn5,hf5,hb5⟩;rw [HSt.out] at hn5;have HN5:=Hh hn5;have HF5:=Hh hf5;have HB5:=Hh (show ∀ q,v5.ownBlock=some q→w.heap.size≤q from fun q hq=>by
                  rcases hb5 q hq with h | h
                  · exact HB.out q h
                  · have h1 := HF2.out.size
                    have h2:=HG9.out.size;omega)
                clear hn5 hf5 hb5;go_wp2_with fail;go_roundw
                case rel=>exact ⟨k + 1,K4,by go_num,by omega,HN5.out,HB5.out,HO4.out.fr0 HF5.out,HK4.out,(HF2.out.trans HG9.out (fun _ _ q=>q)).trans HF5.out (fun _ _ q=>q.elim)⟩
                case measure=>simp [intOf];omega
              | false =>
                have hst:=zo1 hd.symm;have HSt:=Hh hst;clear hst hd;go_wp2_with fail;go_roundw
                case rel=>exact ⟨k + 1,K4,by go_num,by omega,by rw [HSt.out];exact HNo9.out,HB.out,HO4.out,HK4.out,HF2.out.trans HG9.out (fun _ _ q=>q)⟩
                case measure=>simp [intOf];omega
        · have hk' : k = L.length := by omega
          subst hk';have hnx:=HNo.out;rw [zgq] at hnx;have HNx:=Hh hnx;have HO2':=Hh (HO2.out w7 (Fr.refl _ _));have hln:=zgq (gL C) L i;have HLn:=Hh hln;clear hnx hln;go_wp2_with fail;go_roundw
          case rel=>exact ⟨i + 1,K2,by go_num,by omega,by have h:=HNo.out;rw [HLn.out] at h;first | exact h | (rw [HLn.out];exact h),HB.out,HO2'.out,HK2.out,HF2.out⟩
          case measure=>simp [intOf];omega
    · have hi' : i = L.length := by omega
      subst hi';obtain ⟨oa,oc,rfl,z⟩:=id hn;clear z;rw [zra] at hn hb ⊢;have HNo:=Hh hn;have HB:=Hh hb;have HO1:=Hh hO1;have HK1:=Hh hK1;have HF1:=Hh hf1;clear hn hb hO1 hK1 hf1;go_wp2_with fail;go_ret;exact ⟨_,K1,rfl,HNo.out,HB.out,HO1.out,HK1.out,HF1.out⟩
set_option maxRecDepth 4000 in
set_option maxHeartbeats 4000000 in
theorem zvm {C:List Nat} {NL:List PL} (B:BookC NL C) (ob bb kb:Nat) (hN:NL.length < 1000) (lv:Value) (L K:List Nat) (w:World) (hO:OrdR w ob bb kb NL K) (hK:KOK C NL.length (2 * NL.length) K) (hL:Nats w lv L) (hLb:L≠[]→∀ q,lv.ownBlock=some q→q≠kb) (hLt:∀ x∈L,x < NL.length) (hl:L.length < 1000000) :
    Calls Tryz.prog 129 #[.pointer (some ⟨ob,0,none⟩),lv,.bool false] w fun e w'=>∃ (v':Value) (K':List Nat),e=.returned v'∧Nats w' v' (domB (gR C) L)∧(∀ q,v'.ownBlock=some q→w.heap.size≤q)∧OrdR w' ob bb kb NL K'∧KOK C NL.length (2 * NL.length) K'∧Fr (fun q=>q=kb) w w':=by
  have hkb:kb < w.heap.size:=(Array.getElem?_eq_some_iff.1 hO.row).1;have HL:=Hh (fun (W:World) (f:Fr (fun q=>q=kb) w W)=>show Nats W lv L from hL.fr f hLb);obtain ⟨la,lc,rfl,hlc,hlcm,z⟩:=hL;have HO:=Hh hO;have HK:=Hh hK;have HLt:=Hh hLt;have Hl:=Hh hl;have HGq:=Hh (fun x y hx hy K w=>zkr B ob bb kb x y hN hx hy K w);clear hO hK hLt hl z hLb;go_enter Tryz.func129,Tryz.ntmps129;go_wp2_with fail;go_loopw [7,8] (fun o t W=>∃ (i:Nat) (K':List Nat),t=.int .i64 i∧i≤L.length∧Nats W o (zd4 (gR C) L i 0)∧(∀ q,o.ownBlock=some q→w.heap.size≤q)∧OrdR W ob bb kb NL K'∧KOK C NL.length (2 * NL.length) K'∧Fr (fun q=>q=kb) w W) (fun _ t _=>L.length - (intOf t).toNat)
  case atStart=>exact ⟨0,K,rfl,Nat.zero_le _,⟨_,0,rfl,Nat.le_refl _,by decide,by simp [zd4]⟩,fun q hq=>by cases hq;exact Nat.le_refl _,HO.out.fr0 ((Fr.refl NoM w).alloc _),HK.out,(Fr.refl _ w).alloc _⟩
  case round =>
    obtain ⟨i,K1,rfl,hi,hn,hb,hO1,hK1,hf1⟩:=hrel;obtain ⟨w6,rfl⟩:∃ w6,w6=wr:=⟨_,rfl⟩;by_cases hil:i < L.length
    · have HNo := Hh hn; have HB := Hh hb; have HO1 := Hh hO1; have HK1 := Hh hK1; have HF1 := Hh hf1
      clear hn hb hO1 hK1 hf1;go_wp2_with fail;go_loopw [7,9] (fun o t W=>∃ (k:Nat) (K':List Nat),t=.int .i64 k∧k≤L.length∧Nats W o (zd4 (gR C) L i k)∧(∀ q,o.ownBlock=some q→w.heap.size≤q)∧OrdR W ob bb kb NL K'∧KOK C NL.length (2 * NL.length) K'∧Fr (fun q=>q=kb) w W) (fun _ t _=>L.length - (intOf t).toNat)
      case atStart=>exact ⟨0,K1,rfl,Nat.zero_le _,HNo.out,HB.out,HO1.out,HK1.out,HF1.out⟩
      case round =>
        clear HNo HB HO1 HK1 HF1;obtain ⟨k,K2,rfl,hk,hn,hb,hO2,hK2,hf2⟩:=hrel;obtain ⟨w7,rfl⟩:∃ w7,w7=wr:=⟨_,rfl⟩;obtain ⟨oa,oc,rfl,z⟩:=id hn;clear z;have HNo:=Hh hn;have HB:=Hh hb;have HF2:=Hh hf2;have HK2:=Hh hK2;have HO2:=Hh (fun (W:World) (f:Fr NoM w7 W)=>hO2.fr0 f);clear hn hb hO2 hK2 hf2;by_cases hkl:k < L.length
        · obtain ⟨x, hx⟩ : ∃ x, L[i]? = some x := ⟨_, List.getElem?_eq_getElem hil⟩
          obtain ⟨y,hy⟩:∃ y,L[k]?=some y:=⟨_,List.getElem?_eq_getElem hkl⟩;have hxl:=HLt.out x (List.mem_of_getElem? hx);have hyl:=HLt.out y (List.mem_of_getElem? hy);obtain ⟨_,_,ee,_,_,hcc⟩:=HL.out w7 HF2.out;cases ee
          obtain ⟨b1,o1,ha1,d1⟩:=hcc i x hx;obtain ⟨b2,o2,ha2,d2⟩:=hcc k y hy;have ix1:=zaa la L.length lc i b1 o1 hil ha1;have ix2:=zaa la L.length lc k b2 o2 hkl ha2;have d1':w7.cell? ⟨b1,o1 + i,none⟩=some (.int .i64 (x:Int)):=d1;have d2':w7.cell? ⟨b2,o2 + k,none⟩=some (.int .i64 (y:Int)):=d2;have HS:=Hh (fun (W:World) (f:Fr (fun q=>q=kb) w7 W)=>show W.cell? ⟨b1,o1 + i,none⟩=some (.int .i64 (x:Int))∧W.cell? ⟨b2,o2 + k,none⟩=some (.int .i64 (y:Int)) from by
            obtain ⟨_,_,ee,_,_,hcc⟩:=HL.out W (HF2.out.trans f (fun _ _ q=>q));cases ee
            obtain ⟨b3,o3,ha3,e1⟩:=hcc i x hx;obtain ⟨b4,o4,ha4,e2⟩:=hcc k y hy;rw [ha1] at ha3;cases ha3
            rw [ha2] at ha4;cases ha4
            exact ⟨e1,e2⟩)
          obtain ⟨g1,hg1⟩:∃ g1,g1=geV C y x:=⟨_,rfl⟩;obtain ⟨g2,hg2⟩:∃ g2,g2=geV C x y:=⟨_,rfl⟩;have hdom:domP (gR C) L i k=(decide (k≠i) && (g2 && (!g1 || decide (k < i)))):=by
            unfold domP gR;rw [List.getD_eq_getElem?_getD,List.getD_eq_getElem?_getD,hx,hy];show (decide (k≠i) && (geV C x y && (!geV C y x || decide (k < i))))=_
            rw [hg1,hg2]
          have HG1:=Hh (fun K W=>HGq.out y x hyl hxl K W);have HG2:=Hh (fun K W=>HGq.out x y hxl hyl K W);rw [← hg1] at HG1;rw [← hg2] at HG2;have HDom:=Hh hdom;have F0:Fr NoM w7 w7.drew:=(Fr.refl NoM w7).drew;have G0:Fr (fun q=>q=kb) w7 w7.drew:=F0.any;clear hx hy hcc ha1 ha2 d1 d2 hg1 hg2 hdom;go_upto_region 8 with fail;go_region_held3 (fun (W:World)=>W.cell? ⟨b1,o1 + i,none⟩=some (.int .i64 (x:Int))∧W.cell? ⟨b2,o2 + k,none⟩=some (.int .i64 (y:Int)))
            (first | exact HS.out _ (by assumption))
            (first
              | (go_at_call 158;(with_reducible refine (HG1.out K2 _ (HO2.out _ (by assumption)) HK2.out).mono ?_);rintro e w8 ⟨rfl,K3,hO3,hK3,hf3⟩;have G8:Fr (fun q=>q=kb) w7 w8:=Fr.trans (by assumption) hf3 (fun _ _ q=>q))
              | (go_at_call 158;(with_reducible refine (HG2.out K3 _ (by assumption) (by assumption)).mono ?_);rintro e w9 ⟨rfl,K4,hO4,hK4,hf4⟩;have G9:Fr (fun q=>q=kb) w7 w9:=Fr.trans (by assumption) hf4 (fun _ _ q=>q))
              | fail)
          all_goals
            have HO4:=Hh hO4;have HK4:=Hh hK4;have HG9:=Hh G9;have hNo9:Nats w9 (.slice oa (zd4 (gR C) L i k).length oc) (zd4 (gR C) L i k):=HNo.out.fr G9 (fun _ q hq e=>by have:=HB.out q hq;omega);have HNo9:=Hh hNo9;clear hO4 hK4 G9 hf4 hO3 hK3 hf3 G8 F0 G0 d1' d2' ix1 ix2 hNo9;go_upto_region 11 with fail;obtain ⟨db,hdb⟩:∃ db,db=domP (gR C) L i k:=⟨_,rfl⟩;have HDb:=Hh hdb;clear hdb;go_cut [63] from 49 to 63 (fun c W=>c=.bool db∧W=w9)
            case first =>
              by_cases hki:k=i
              · have hd : db = false := by rw [HDb.out, HDom.out, hki]; simp
                have HD:=Hh hd;have hb1:((k:Int) != (i:Int))=false:=by rw [hki];simp
                clear hd hki;go_wp2_with fail;go_meet
                case rel=>exact ⟨by rw [HD.out],rfl⟩
              · have hb1 : ((k : Int) != (i : Int)) = true := by rw [bne_iff_ne]; omega
                by_cases hlt:k < i
                · have hd : db = g2 := by rw [HDb.out, HDom.out, decide_eq_true hlt, decide_eq_true hki]; simp
                  have HD:=Hh hd;clear hd hki;cases g1 <;> cases g2 <;>
                    (go_wp2_with fail
                     go_meet
                     case rel=>exact ⟨by rw [HD.out] <;> rfl,rfl⟩)
                · have hd : db = (g2 && !g1) := by rw [HDb.out, HDom.out, decide_eq_false hlt, decide_eq_true hki]; simp
                  have HD:=Hh hd;clear hd hki;cases g1 <;> cases g2 <;>
                    (go_wp2_with fail
                     go_meet
                     case rel=>exact ⟨by rw [HD.out] <;> rfl,rfl⟩)
            case rest =>
              obtain ⟨rfl,rfl⟩:=hcut;have hd:=HDb.out;cases db with
              | true =>
                have hst:=zo0 hd.symm;have HSt:=Hh hst;clear hst hd;go_wp2_with fail;refine (ze5 _ (zd4 (gR C) L i k) i wc HNo9.out (by have:=zr9 (gR C) L i k;have:=Hl.out;omega)).mono ?_
                rintro e w5 ⟨v5,rfl,hn5,hf5,hb5⟩;rw [HSt.out] at hn5;have HN5:=Hh hn5;have HF5:=Hh hf5;have HB5:=Hh (show ∀ q,v5.ownBlock=some q→w.heap.size≤q from fun q hq=>by
                  rcases hb5 q hq with h | h
                  · exact HB.out q h
                  · have h1 := HF2.out.size
                    have h2:=HG9.out.size;omega)
                clear hn5 hf5 hb5;go_wp2_with fail;go_roundw
                case rel=>exact ⟨k + 1,K4,by go_num,by omega,HN5.out,HB5.out,HO4.out.fr0 HF5.out,HK4.out,(HF2.out.trans HG9.out (fun _ _ q=>q)).trans HF5.out (fun _ _ q=>q.elim)⟩
                case measure=>simp [intOf];omega
              | false =>
                have hst:=zo1 hd.symm;have HSt:=Hh hst;clear hst hd;go_wp2_with fail;go_roundw
                case rel=>exact ⟨k + 1,K4,by go_num,by omega,by rw [HSt.out];exact HNo9.out,HB.out,HO4.out,HK4.out,HF2.out.trans HG9.out (fun _ _ q=>q)⟩
                case measure=>simp [intOf];omega
        · have hk' : k = L.length := by omega
          subst hk';have hnx:=HNo.out;rw [zgq] at hnx;have HNx:=Hh hnx;have HO2':=Hh (HO2.out w7 (Fr.refl _ _));have hln:=zgq (gR C) L i;have HLn:=Hh hln;clear hnx hln;go_wp2_with fail;go_roundw
          case rel=>exact ⟨i + 1,K2,by go_num,by omega,by have h:=HNo.out;rw [HLn.out] at h;first | exact h | (rw [HLn.out];exact h),HB.out,HO2'.out,HK2.out,HF2.out⟩
          case measure=>simp [intOf];omega
    · have hi' : i = L.length := by omega
      subst hi';obtain ⟨oa,oc,rfl,z⟩:=id hn;clear z;rw [zra] at hn hb ⊢;have HNo:=Hh hn;have HB:=Hh hb;have HO1:=Hh hO1;have HK1:=Hh hK1;have HF1:=Hh hf1;clear hn hb hO1 hK1 hf1;go_wp2_with fail;go_ret;exact ⟨_,K1,rfl,HNo.out,HB.out,HO1.out,HK1.out,HF1.out⟩
theorem zmq (a:Option Addr)(n c k b off:Nat)(hk:k<n)(ha:a=some ⟨b,off,none⟩)(w:World) :
  (Instr.indexAt 53 (.slice a n c) (.int .i64 (k:Int))).run Tryz.prog w=.ok (.pointer (some ⟨b,off+k,none⟩)) w:=by
 subst ha;go_simp
def FormsL (R:Nat→Prop)(w:World)(v:Value)(FL:List (List PL)):Prop :=
 ∃VS:List Value,Vals w v VS/\VS.length=FL.length/\∀(j:Nat) (nv:Value) (Fm:List PL),VS[j]?=some nv→FL[j]?=some Fm→NodeL R encN w nv Fm
theorem NodeL.low {α:Type}{R:Nat→Prop}{enc:α→Value}{w:World}{v:Value}{NL:List (List α × List α)}(h:NodeL R enc w v NL):NodeL (· < w.heap.size) enc w v NL:=by
 obtain⟨a,c,rfl,h1,h2,h3⟩:=h;refine⟨a,c,rfl,h1,h2,fun j y hy=>?_⟩;obtain⟨b,off,lv,rv,ha,hb,c1,c2,s1,s2,r1,r2⟩:=h3 j y hy;refine⟨b,off,lv,rv,ha,World.block_lt_of_cell? w _ c1,c1,c2,s1,s2,fun hne q hq=>?_,fun hne q hq=>?_⟩
 ·obtain⟨b',hb',hl⟩:=s1.block hne;rw[hq]at hb';cases hb';exact hl
 ·obtain⟨b',hb',hl⟩:=s2.block hne;rw[hq]at hb';cases hb';exact hl
structure Mk (w1 W:World) (bb:Nat) (s:List PL × List Nat) (S1:Nat→Prop) (v:Value) (A:List Nat) (u:Value) (B:List Nat):Prop where
 book:BookS S1 W bb s.1 s.2
 sub:∀q,S1 q→w1.heap.size≤q/\q<W.heap.size
 own1:W.ownsRow w1.heap.size 3 1 v A.length (A.map encN)
 own2:W.ownsRow w1.heap.size 3 1 u B.length (B.map encN)
 no1:∀b,v.ownBlock=some b→¬S1 b
 no2:∀b,u.ownBlock=some b→¬S1 b
 sep:∀b,v.ownBlock=some b→u.ownBlock≠some b
 fr:Fr NoM w1 W
theorem Mk.swap {w1 W:World}{bb:Nat}{s:List PL × List Nat}{S1:Nat→Prop}{v u:Value}{A B:List Nat}(h:Mk w1 W bb s S1 v A u B):Mk w1 W bb s S1 u B v A :=
 ⟨h.book,h.sub,h.own2,h.own1,h.no2,h.no1,fun b h1 h2=>h.sep b h2 h1,h.fr⟩
theorem Mk.root {w1 W W':World}{bb:Nat}{s s':List PL × List Nat}{S1 S':Nat→Prop}{v u:Value}{A B:List Nat}(h:Mk w1 W bb s S1 v A u B)(hb:BookS S' W' bb s'.1 s'.2)(hs:∀k,S' k→S1 k∨W.heap.size≤k)(hf:Fr S1 W W'):Mk w1 W' bb s' (fun k=>S' k/\k<W'.heap.size) v A u B:=by
 have key:∀b,(¬S1 b/\b<W.heap.size)→¬(S' b/\b<W'.heap.size):=fun b ⟨h1,h2⟩ ⟨h3,_⟩=>by
  rcases hs b h3 with h|h
  ·exact h1 h
  ·omega
 exact⟨hb.cut,fun q hq=>⟨by
   rcases hs q hq.1 with h1|h1
   ·exact(h.sub q h1).1
   ·exact Nat.le_trans h.fr.size h1,hq.2⟩,za3 h.own1 hf (fun b hb=>h.no1 b hb),za3 h.own2 hf (fun b hb=>h.no2 b hb),fun b hb=>key b ⟨h.no1 b hb,(h.own1.lt b hb).2⟩,fun b hb=>key b ⟨h.no2 b hb,(h.own2.lt b hb).2⟩,h.sep,
  h.fr.trans hf (fun q hq hS=>by have:=(h.sub q hS).1;omega)⟩
theorem Mk.app {w1 W Wa W4:World}{bb:Nat}{s:List PL × List Nat}{S1:Nat→Prop}{v v4 u:Value}{A B:List Nat}{x:Nat}(h:Mk w1 W bb s S1 v A u B)(ha:Fr NoM W Wa)(ho:W4.ownsRow w1.heap.size 3 1 v4 (A.length+1) (A.map encN ++ [x].map encN))(hf:Fr (Own1 v) Wa W4)(hq:v4.ownBlock=v.ownBlock∨∃b,v4.ownBlock=some b/\Wa.heap.size≤b):Mk w1 W4 bb s S1 v4 (A ++ [x]) u B:=by
 have hfa:Fr (Own1 v) W W4:=ha.any.trans hf (fun q _ e=>e);have hlt:∀b,v4.ownBlock=some b→v.ownBlock=some b∨W.heap.size≤b:=fun b hb=>by
  rcases hq with h1|⟨b',h1,h2⟩
  ·rw[h1]at hb;exact .inl hb
  ·rw[h1]at hb;cases hb;exact .inr (Nat.le_trans ha.size h2)
 exact⟨h.book.fr hfa (fun k hk e=>h.no1 k e hk),fun q hq=>⟨(h.sub q hq).1,Nat.lt_of_lt_of_le (h.sub q hq).2 hfa.size⟩,by rw[List.length_append,List.map_append];exact ho,za3 h.own2 hfa (fun b hb e=>h.sep b e hb),
  fun b hb hS=>by
   rcases hlt b hb with h1|h1
   ·exact h.no1 b h1 hS
   ·have:=(h.sub b hS).2;omega,
  h.no2,fun b hb hu=>by
   rcases hlt b hb with h1|h1
   ·exact h.sep b h1 hu
   ·have:=(h.own2.lt b hu).2;omega,
  h.fr.trans hfa (fun q hq e=>by have:=(h.own1.lt q e).1;omega)⟩
theorem BookS.made {w:World}{bb:Nat}(h:w.heap[bb]?=some (.cells #[.slice none 0 0,.slice none 0 0] 109 (0,0))):BookS (fun q=>q=bb) w bb [] [] :=
 ⟨.slice none 0 0,.slice none 0 0,[],⟨h,World.ownsRow_nil _ _ _ _,World.ownsRow_nil _ _ _ _,rfl,rfl,by simp,by simp[Value.ownBlock],by simp[Value.ownBlock],by simp[Value.ownBlock]⟩,fun k hk=>by
  rcases (zbv h).1 hk with h|h|h
  ·exact h
  ·simp[Value.ownBlock]at h
  ·simp[Value.ownBlock]at h,by intro j x y hx;simp at hx⟩
theorem yat {FL:List (List PL)}:∀ {n:Nat}{s:List PL × List Nat × List Nat},RootsOK n s→(∀Fm∈FL,GoodF Fm)→s.1.length≤(FL.foldl zbd s).1.length:=by
 induction FL with
 | nil=>intro n s _ _;exact Nat.le_refl _
 | cons f l ih =>
  intro n s h hF;have hf:=hF f List.mem_cons_self;have h1:=ih (h.step hf) (fun g hg=>hF g (List.mem_cons_of_mem _ hg));have h2:=(zgb h.ok f hf.opts).2.2.2.2.length_le;rw[List.foldl_cons];exact Nat.le_trans h2 h1
theorem RootsOK.start:RootsOK 0 ([],[],[]):=⟨BookOK.nil,BookUp.nil,by simp,by simp⟩
theorem znk {NL:List PL}{BL:List Nat}{FL:List (List PL)}{j:Nat}(hj:j<FL.length):zbp NL BL (FL.take (j+1))=zbd (zbp NL BL (FL.take j)) FL[j]:=by
 rw[List.take_succ_eq_append_getElem hj,zrv]
set_option maxHeartbeats 4000000 in
theorem zvr {R:Nat→Prop}(lv rv:Value)(FL FR:List (List PL))(w:World)(hL:FormsL R w lv FL)(hR:FormsL R w rv FR)(gL:∀Fm∈FL,GoodF Fm)(gR:∀Fm∈FR,GoodF Fm)(nL:FL.length≤1000)(nR:FR.length≤1000) :
  Calls Tryz.prog 99 #[lv,rv] w fun e w'=>∃v',e=.returned (.agg #[v'])/\NodeOwn w.heap.size w' v' (zg1 FL FR)/\Fr NoM w w':=by
 obtain⟨VL,hvl,hll,hfl⟩:=hL;obtain⟨VR,hvr,hlr,hfr⟩:=hR;obtain⟨al,cl,rfl,zl1,zl2,hcl⟩:=hvl;obtain⟨ar,cr,rfl,zr1,zr2,hcr⟩:=hvr;rw[hll,hlr];have HFl:=Hh hfl;have HFr:=Hh hfr;have HCl:=Hh hcl;have HCr:=Hh hcr;have GL:=Hh gL;have GR:=Hh gR;have HLl:=Hh hll;have HLr:=Hh hlr;clear hfl hfr hcl hcr gL gR hll hlr zl1 zl2 zr1 zr2;go_enter Tryz.func99,Tryz.ntmps99;go_wp2_with fail;obtain⟨w1,hw1⟩:∃w1,w1=w.alloc (.cells #[.slice none 0 0] 26):=⟨_,rfl⟩;have hs1:w1.heap.size=w.heap.size+1:=by rw[hw1];simp
 have hf1:Fr NoM w w1:=by rw[hw1];exact(Fr.refl NoM w).alloc _
 have hb1:w1.heap[w.heap.size]?=some (.cells #[.slice none 0 0] 26 (0,0)):=by rw[hw1];exact heap_alloc_new w _
 rw[←hw1];obtain⟨bb,hbb⟩:∃bb,bb=w.heap.size+1:=⟨_,rfl⟩;obtain⟨w4,hw4⟩:∃w4,w4=((w1.alloc (.cells #[.slice none 0 0,.slice none 0 0] 109)).alloc (.cells #[] 3)).alloc (.cells #[] 3):=⟨_,rfl⟩;have hmk:Mk w1 w4 bb ([],[]) (fun q=>q=bb) (.slice (some ⟨bb+1,0,none⟩) 0 0) [] (.slice (some ⟨bb+1+1,0,none⟩) 0 0) []:=by
  rw[hbb];have hF:Fr NoM w1 w4:=by rw[hw4];exact(((Fr.refl NoM w1).alloc _).alloc _).alloc _
  have hsz:w4.heap.size=w.heap.size+4:=by rw[hw4];simp[hs1]
  have k0:w4.heap[w.heap.size+1]?=some (.cells #[.slice none 0 0,.slice none 0 0] 109 (0,0)):=by
   have h:=heap_alloc_new w1 (.cells #[.slice none 0 0,.slice none 0 0] 109);rw[hs1]at h;rw[hw4];exact(((Fr.refl NoM _).alloc _).alloc _).heap h (fun q=>q)
  have o1:w4.ownsRow w1.heap.size 3 1 (.slice (some ⟨w.heap.size+1+1,0,none⟩) 0 0) 0 []:=by
   have h:=World.ownsRow_made (base:=w1.heap.size) (e:=3) (size:=1) (w1.alloc (.cells #[.slice none 0 0,.slice none 0 0] 109)) #[] 0 (by simp) (by decide) (by simp);simp only[World.size_alloc,hs1]at h;rw[hw4,hs1];exact za3 h ((Fr.refl NoM _).alloc _) (fun _ _ q=>q)
  have o2:w4.ownsRow w1.heap.size 3 1 (.slice (some ⟨w.heap.size+1+1+1,0,none⟩) 0 0) 0 []:=by
   have h:=World.ownsRow_made (base:=w1.heap.size) (e:=3) (size:=1) ((w1.alloc (.cells #[.slice none 0 0,.slice none 0 0] 109)).alloc (.cells #[] 3)) #[] 0 (by simp;omega) (by decide) (by simp);simp only[World.size_alloc,hs1]at h;rw[hw4,hs1];exact h
  refine⟨BookS.made k0,fun q hq=>⟨by omega,by omega⟩,o1,o2,fun b hb e=>?_,fun b hb e=>?_,fun b hb e=>?_,hF⟩
  ·have hb:w.heap.size+1+1=b:=Option.some.inj hb
   omega
  ·have hb:w.heap.size+1+1+1=b:=Option.some.inj hb
   omega
  ·have hb:w.heap.size+1+1=b:=Option.some.inj hb
   have e:w.heap.size+1+1+1=b:=Option.some.inj e;omega
 rw[←hw4];have HMk:=Hh hmk;have HF1:=Hh hf1;have HB1:=Hh hb1;have HS1:=Hh hs1;clear hmk hf1 hb1 hs1 hw4 hw1;rw[←hbb];have HBb:=Hh hbb;clear hbb;go_loopw [6,8] (fun v0 i W=>∃(j:Nat) (S1:Nat→Prop) (v:Value),v=v0/\i=.int .i64 j/\j≤FL.length/\Mk w1 W bb ((zbp [] [] (FL.take j)).1,(zbp [] [] (FL.take j)).2.1) S1 v (zbp [] [] (FL.take j)).2.2 (.slice (some ⟨bb+1+1,0,none⟩) 0 0) []) (fun _ i _=>FL.length-(intOf i).toNat)
 case atStart=>exact⟨0,_,_,rfl,rfl,Nat.zero_le _,HMk.out⟩
 case round =>
  obtain⟨j,S1,v,rfl,rfl,hj,hm⟩:=hrel;obtain⟨w7,rfl⟩:∃w7,w7=wr:=⟨_,rfl⟩;by_cases hlt:j<FL.length
  ·have hro:=zeg (FL:=FL.take j) RootsOK.start (fun Fm h=>GL.out Fm (List.mem_of_mem_take h))
   have hnx:=znk (NL:=[]) (BL:=[]) hlt;have hg:=GL.out FL[j] (List.getElem_mem _);obtain⟨Fm,hFm⟩:∃Fm,Fm=FL[j]:=⟨_,rfl⟩;have hFe:FL[j]?=some Fm:=by rw[hFm];exact List.getElem?_eq_getElem _
   obtain⟨nv,hnv⟩:∃nv,VL[j]?=some nv:=⟨VL[j]'(by rw[HLl.out];exact hlt),List.getElem?_eq_getElem _⟩;have hN:=(HFl.out j nv Fm hnv hFe).low;obtain⟨an,cn,rfl,z⟩:=id hN;clear z;obtain⟨b1,o1,rfl,c1⟩:=HCl.out j _ hnv;have ix:=zmq (some ⟨b1,o1,none⟩) FL.length cl j b1 o1 hlt rfl;rw[←hFm]at hg hnx;have hro:RootsOK (0+120*(FL.take j).length) (zbp [] [] (FL.take j)):=hro;obtain⟨⟨NLk,BLk,A⟩,hA⟩:∃s,zbp [] [] (FL.take j)=s:=⟨_,rfl⟩;rw[hA]at hm hro hnx;have hwf:=HF1.out.trans hm.fr (fun _ _ q=>q);have d1:w7.cell? ⟨b1,o1+j,none⟩=some (.slice an Fm.length cn):=hwf.cell c1 (fun q=>q);have hlen:NLk.length≤120*j:=by have h1:=hro.len;rw[List.length_take,Nat.min_eq_left (by omega)]at h1;have h1:NLk.length≤0+120*j:=h1;omega
   have hal:A.length=j:=by
    have h1:=zge (FL.take j) ([],[],[]);have h1:(zbp [] [] (FL.take j)).2.2.length=0+(FL.take j).length:=h1;rw[hA,List.length_take,Nat.min_eq_left (by omega)]at h1;have h1:A.length=0+j:=h1;omega
   have hroot:=zog (R:=(· < w.heap.size)) bb (.slice an Fm.length cn) NLk Fm BLk w7 hm.book hro.ok (hN.fr0 hwf) (fun k hk hS=>by have h1:k<w.heap.size:=hk;have:=(hm.sub k hS).1;have:=HS1.out;omega) hg.opts (by have:=hg.le;omega) (fun y hy=>by have:=hg.lens y hy;omega) hg.pos;have HRoot:=Hh hroot;have HM:=Hh hm;have HNx:=Hh hnx;have HAl:=Hh hal;have HA:=Hh hA;clear hroot hm hnx hal hA hro hlen hN hg hFm hFe hnv c1 hwf;go_wp2_with fail;refine HRoot.out.mono ?_
   rintro e w8 ⟨S',rfl,b8,s8,f8⟩;have hM8:=HM.out.root (s':=((addB NLk BLk Fm).1,(addB NLk BLk Fm).2.1)) b8 s8 f8;obtain⟨x,hx⟩:∃x,x=zfa NLk BLk Fm:=⟨_,rfl⟩;rw[←hx];have HM8:=Hh hM8;have HX:=Hh hx;clear hM8 b8 s8 f8 hx d1 ix;go_wp2_with (at_builtin;refine zag (enc:=encN) _ rfl (.tmp 20) (.tmp 27) 82 rfl w1.heap.size 3 (.int .i64 0) 8 Tryz.underlying82 za9 rfl v A.length (A.map encN) rfl (za3 HM8.out.own1 ((Fr.refl NoM w8).alloc _) (fun _ _ q=>q)) (.slice (some ⟨w8.heap.size,0,none⟩) 1 1) rfl [x] (SliceOf.one encN w8 x 3) (fun _=>rfl) (by have:=HAl.out;simp;omega) (by decide) (by have:=HM8.out.fr.size;rw[World.size_alloc];omega) ?_);intro v9 w9 h9 f9 q9;have hM9:=HM8.out.app ((Fr.refl NoM w8).alloc _) h9 f9 (by rw[World.size_alloc];exact q9);have HM9:=Hh hM9;clear hM9 h9 f9 q9;go_wp2;go_roundw
   case rel =>
    refine⟨j+1,fun k=>S' k/\k<w8.heap.size,v9,rfl,by go_num,by omega,?_⟩;have h:=HM9.out;rw[HNx.out];rw[HX.out]at h;exact h
   case measure=>simp[intOf];omega
  ·have hje:j=FL.length:=by omega
   subst hje;rw[List.take_length]at hm;clear hlt hj;have hro:=zeg (FL:=FL) RootsOK.start GL.out;have hro:RootsOK (0+120*FL.length) (zbp [] [] FL):=hro;have hal:=zge FL ([],[],[]);have hal:(zbp [] [] FL).2.2.length=0+FL.length:=hal;obtain⟨⟨NL1,BL1,A1⟩,hA1⟩:∃s,zbp [] [] FL=s:=⟨_,rfl⟩;rw[hA1]at hm hro hal;have hal:A1.length=FL.length:=by have h1:A1.length=0+FL.length:=hal;omega
   have hst:RootsOK (120*FL.length) (NL1,BL1,[]):=⟨hro.ok,hro.up,by have h1:NL1.length≤0+120*FL.length:=hro.len;show NL1.length≤120*FL.length;omega,by simp⟩;have HM:=Hh hm.swap;have HRo:=Hh hro;have HAl1:=Hh hal;have HA1:=Hh hA1;have HSt:=Hh hst;clear hm hro hal hA1 hst;go_wp2_with fail;go_loopw [7,9] (fun v0 i W=>∃(j:Nat) (S2:Nat→Prop) (u:Value),u=v0/\i=.int .i64 j/\j≤FR.length/\Mk w1 W bb ((zbp NL1 BL1 (FR.take j)).1,(zbp NL1 BL1 (FR.take j)).2.1) S2 u (zbp NL1 BL1 (FR.take j)).2.2 v A1) (fun _ i _=>FR.length-(intOf i).toNat)
   case atStart=>exact⟨0,_,_,rfl,rfl,Nat.zero_le _,HM.out⟩
   case round =>
    obtain⟨j,S2,u,rfl,rfl,hj,hm⟩:=hrel;obtain⟨w17,rfl⟩:∃w17,w17=wr:=⟨_,rfl⟩;by_cases hlt:j<FR.length
    ·have hro:=zeg (FL:=FR.take j) HSt.out (fun Fm h=>GR.out Fm (List.mem_of_mem_take h))
     have hnx:=znk (NL:=NL1) (BL:=BL1) hlt;have hg:=GR.out FR[j] (List.getElem_mem _);obtain⟨Fm,hFm⟩:∃Fm,Fm=FR[j]:=⟨_,rfl⟩;have hFe:FR[j]?=some Fm:=by rw[hFm];exact List.getElem?_eq_getElem _
     obtain⟨nv,hnv⟩:∃nv,VR[j]?=some nv:=⟨VR[j]'(by rw[HLr.out];exact hlt),List.getElem?_eq_getElem _⟩;have hN:=(HFr.out j nv Fm hnv hFe).low;obtain⟨an,cn,rfl,z⟩:=id hN;clear z;obtain⟨b1,o1,rfl,c1⟩:=HCr.out j _ hnv;have ix:=zmq (some ⟨b1,o1,none⟩) FR.length cr j b1 o1 hlt rfl;rw[←hFm]at hg hnx;have hro:RootsOK (120*FL.length+120*(FR.take j).length) (zbp NL1 BL1 (FR.take j)):=hro;obtain⟨⟨NLk,BLk,A⟩,hA⟩:∃s,zbp NL1 BL1 (FR.take j)=s:=⟨_,rfl⟩;rw[hA]at hm hro hnx;have hwf:=HF1.out.trans hm.fr (fun _ _ q=>q);have d1:w17.cell? ⟨b1,o1+j,none⟩=some (.slice an Fm.length cn):=hwf.cell c1 (fun q=>q);have hlen:NLk.length≤120*FL.length+120*j:=by have h1:=hro.len;rw[List.length_take,Nat.min_eq_left (by omega)]at h1;exact h1
     have hal:A.length=j:=by
      have h1:=zge (FR.take j) (NL1,BL1,[]);have h1:(zbp NL1 BL1 (FR.take j)).2.2.length=0+(FR.take j).length:=h1;rw[hA,List.length_take,Nat.min_eq_left (by omega)]at h1;have h1:A.length=0+j:=h1;omega
     have hroot:=zog (R:=(· < w.heap.size)) bb (.slice an Fm.length cn) NLk Fm BLk w17 hm.book hro.ok (hN.fr0 hwf) (fun k hk hS=>by have h1:k<w.heap.size:=hk;have:=(hm.sub k hS).1;have:=HS1.out;omega) hg.opts (by have:=hg.le;omega) (fun y hy=>by have:=hg.lens y hy;omega) hg.pos;have HRoot:=Hh hroot;have HM2:=Hh hm;have HNx:=Hh hnx;have HAl:=Hh hal;have HA:=Hh hA;clear hroot hm hnx hal hA hro hlen hN hg hFm hFe hnv c1 hwf;go_wp2_with fail;refine HRoot.out.mono ?_
     rintro e w18 ⟨S',rfl,b8,s8,f8⟩;have hM8:=HM2.out.root (s':=((addB NLk BLk Fm).1,(addB NLk BLk Fm).2.1)) b8 s8 f8;obtain⟨x,hx⟩:∃x,x=zfa NLk BLk Fm:=⟨_,rfl⟩;rw[←hx];have HM8:=Hh hM8;have HX:=Hh hx;clear hM8 b8 s8 f8 hx d1 ix;go_wp2_with (at_builtin;refine zag (enc:=encN) _ rfl (.tmp 35) (.tmp 42) 82 rfl w1.heap.size 3 (.int .i64 0) 8 Tryz.underlying82 za9 rfl u A.length (A.map encN) rfl (za3 HM8.out.own1 ((Fr.refl NoM w18).alloc _) (fun _ _ q=>q)) (.slice (some ⟨w18.heap.size,0,none⟩) 1 1) rfl [x] (SliceOf.one encN w18 x 3) (fun _=>rfl) (by have:=HAl.out;simp;omega) (by decide) (by have:=HM8.out.fr.size;rw[World.size_alloc];omega) ?_);intro v9 w9 h9 f9 q9;have hM9:=HM8.out.app ((Fr.refl NoM w18).alloc _) h9 f9 (by rw[World.size_alloc];exact q9);have HM9:=Hh hM9;clear hM9 h9 f9 q9;go_wp2;go_roundw
     case rel =>
      refine⟨j+1,fun k=>S' k/\k<w18.heap.size,v9,rfl,by go_num,by omega,?_⟩;have h:=HM9.out;rw[HNx.out];rw[HX.out]at h;exact h
     case measure=>simp[intOf];omega
    ·have hje:j=FR.length:=by omega
     subst hje;rw[List.take_length]at hm;clear hlt hj;have hro:=zeg (FL:=FR) HSt.out GR.out;have hle:=yat (FL:=FR) HSt.out GR.out;have hro:RootsOK (120*FL.length+120*FR.length) (zbp NL1 BL1 FR):=hro;have hle:NL1.length≤(zbp NL1 BL1 FR).1.length:=hle;have hal:=zge FR (NL1,BL1,[]);have hal:(zbp NL1 BL1 FR).2.2.length=0+FR.length:=hal;obtain⟨⟨NL2,BL2,A2⟩,hA2⟩:∃s,zbp NL1 BL1 FR=s:=⟨_,rfl⟩;rw[hA2]at hm hro hal hle;have hlen:NL2.length≤120*FL.length+120*FR.length:=hro.len;have hA1l:∀x∈A1,x<NL2.length:=fun x hx=>Nat.lt_of_lt_of_le (HRo.out.lt x hx) hle
     have hA2l:∀x∈A2,x<NL2.length:=fun x hx=>hro.lt x hx
     have hal:A2.length=FR.length:=by have h1:A2.length=0+FR.length:=hal;omega
     obtain⟨k1,k2,k3,k4,k5⟩:=zy9 hro.ok A1 A2 hA1l hA2l;have hup:=zy8 (BL:=BL2) hro.up A1 A2;have hfin:zg1 FL FR=zd3 (putB NL2 BL2 A1 A2).1 (putB NL2 BL2 A1 A2).2.1 (putB NL2 BL2 A1 A2).2.2:=by
      unfold zg1;simp only[HA1.out,hA2]
     have hput:=zfu bb v u NL2 BL2 A1 A2 w17 hm.book (SliceOf.of_owns hm.own2 rfl) (SliceOf.of_owns hm.own1 rfl) (fun j x hx=>hA1l x (List.mem_of_getElem? hx)) (fun j x hx=>hA2l x (List.mem_of_getElem? hx)) (by have:=HAl1.out;omega) (by omega) (by omega)
      (fun x hx=>by have:=hro.ok.lt NL2.length (Nat.le_refl _) x hx;omega)
     have hlens:=hup.lens k1;have HPut:=Hh hput;have HM2:=Hh hm;have HFin:=Hh hfin;have HK:=Hh (And.intro k1 (And.intro k2 (And.intro k3 hlens)));have HLen:=Hh hlen;clear hput hm hfin k1 k2 k3 k4 k5 hlens hlen hup hA1l hA2l hal hle hro hA2;go_wp2_with fail;refine HPut.out.mono ?_
     rintro e w18 ⟨rfl,b8,f8⟩;obtain⟨x,hx⟩:∃x,x=(putB NL2 BL2 A1 A2).2.2:=⟨_,rfl⟩;have hform:=zuh bb x _ _ w18 b8 HK.out.1 (by rw[hx];exact HK.out.2.1) (by have:=HK.out.2.2.1;have:=HLen.out;omega) (fun y hy=>by have:=HK.out.2.2.2 y hy;have:=HK.out.2.2.1;have:=HLen.out;omega);have hf8:Fr NoM w1 w18:=HM2.out.fr.trans f8 (fun q hq e=>by
      have h1:=(HM2.out.sub q (HM2.out.book.m q e)).1;omega)
     rw[←hx];have HForm:=Hh hform;have HF8:=Hh hf8;have HX:=Hh hx;clear hform hf8 b8 f8 hx;go_wp2_with fail;refine HForm.out.mono ?_
     rintro e w19 ⟨v',rfl,n9,f9⟩;obtain⟨av,cv,rfl,z⟩:=id n9.nodeL;clear z;have hb9:=(HF8.out.trans f9 (fun _ _ q=>q)).heap HB1.out (fun q=>q);have k9:w19.cell? ⟨w.heap.size,0,none⟩=some (.slice none 0 0):=by rw[cell_of_row w19 _ 0 _ _ _ hb9];rfl
     have z9:w19.frozen? ⟨w.heap.size,0,none⟩=false:=by simp[World.frozen?,hb9]
     have HN9:=Hh n9;have HF9:=Hh f9;clear n9 f9 hb9;go_wp2;refine bodyPost_ret (v:=.agg #[.slice av (zd3 (putB NL2 BL2 A1 A2).1 (putB NL2 BL2 A1 A2).2.1 x).length cv]) (by simp[results,Tryz.results99,go_sem,k9]) rfl ?_
     have hlow:w.heap.size<w18.heap.size:=by have:=HF8.out.size;have:=HS1.out;omega
     refine⟨_,rfl,?_,(((HF1.out.trans HF8.out (fun _ _ q=>q)).trans HF9.out (fun _ _ q=>q))).setCell _ _ (fun h=>absurd h (Nat.lt_irrefl _))⟩;rw[HFin.out,←HX.out];refine(HN9.out.fr (Fr.set w19 ⟨w.heap.size,0,none⟩ _) (fun q hq e=>?_)).mono (Nat.le_of_lt hlow);have e:q=w.heap.size:=e;omega
theorem znv {R:Nat→Prop}(lv rv:Value)(FL FR:List (List PL))(w:World)(hL:FormsL R w lv FL)(hR:FormsL R w rv FR)(gL:∀Fm∈FL,GoodF Fm)(gR:∀Fm∈FR,GoodF Fm)(nL:FL.length≤1000)(nR:FR.length≤1000) :
  Calls Tryz.prog 99 #[lv,rv] w fun e w'=>∃v',e=.returned (.agg #[v'])/\NodeL (fun b=>w.heap.size≤b) encN w' v' (zg1 FL FR)/\Fr NoM w w':=by
 refine(zvr lv rv FL FR w hL hR gL gR nL nR).mono ?_
 rintro e w' ⟨v',rfl,h,f⟩;exact⟨v',rfl,h.nodeL,f⟩
theorem SliceOf.unmap {α β:Type}{enc:α→Value}{enc':β→Value}{w:World}{v:Value}{L:List α}{f:α→β}(h:SliceOf enc' w v (L.map f))(hf:∀x,enc' (f x)=enc x):SliceOf enc w v L:=by
 obtain⟨a,c,rfl,h1,h2,h3⟩:=h;refine⟨a,c,by simp,by simpa using h1,h2,fun j x hx=>?_⟩;obtain⟨b,off,ha,hc⟩:=h3 j (f x) (by rw[List.getElem?_map,hx];rfl);exact⟨b,off,ha,by rw[←hf];exact hc⟩
theorem NodeL.toI {R:Nat→Prop}{w:World}{v:Value}{Fm:List PL}(h:NodeL R encN w v Fm):NodeL R encI w v (i2 Fm):=by
 obtain⟨a,c,rfl,h1,h2,h3⟩:=h;refine⟨a,c,by rw[zcv],by rw[zcv];exact h1,h2,fun j y hy=>?_⟩;obtain⟨x,hx,rfl⟩:=yd3 hy;obtain⟨b,off,lv,rv,ha,hb,c1,c2,s1,s2,r1,r2⟩:=h3 j x hx;exact⟨b,off,lv,rv,ha,hb,c1,c2,Nats.ints s1,Nats.ints s2,fun hne=>r1 (fun e=>hne (by rw[e];rfl)),fun hne=>r2 (fun e=>hne (by rw[e];rfl))⟩
theorem NodeL.ofI {R:Nat→Prop}{w:World}{v:Value}{Fm:List PL}(h:NodeL R encI w v (i2 Fm)):NodeL R encN w v Fm:=by
 obtain⟨a,c,rfl,h1,h2,h3⟩:=h;rw[zcv]at h1 ⊢;refine⟨a,c,rfl,h1,h2,fun j x hx=>?_⟩;obtain⟨b,off,lv,rv,ha,hb,c1,c2,s1,s2,r1,r2⟩:=h3 j (ints x.1,ints x.2) (by unfold i2;rw[List.getElem?_map,hx];rfl);have hne:∀L:List Nat,L≠[]→ints L≠[]:=fun L h e=>h (by unfold ints at e;simpa using e)
 exact⟨b,off,lv,rv,ha,hb,c1,c2,SliceOf.unmap s1 (fun _=>rfl),SliceOf.unmap s2 (fun _=>rfl),fun h=>r1 (hne _ h),fun h=>r2 (hne _ h)⟩
theorem ybv {Fm:List PL}(h:zam Fm=true)(ho:∀(j:Nat) (y:PL),Fm[j]?=some y→(∀i∈y.1,i<j)/\∀i∈y.2,i<j):GoodF Fm:=by
 obtain⟨h1,h2,h3⟩:=of_decide_eq_true h;exact⟨by omega,h1,ho,fun y hy=>by have:=h3 y hy;omega⟩
set_option maxRecDepth 4000 in
set_option maxHeartbeats 4000000 in
theorem zvs {R:Nat→Prop}(nv:Value)(Fi:List (List Int × List Int))(w:World)(h:NodeL R encI w nv Fi) :
  Calls Tryz.prog 32 #[.agg #[nv]] w fun e w'=>∃b,e=.returned (.bool b)/\(b=true↔zbf Fi)/\Fr NoM w w':=by
 have hN:=h.low;obtain⟨a,c,rfl,h1,h2,h3⟩:=id h;clear h h1 h2;obtain⟨w1,hw1⟩:∃w1,w1=w.alloc (.cells #[.slice a Fi.length c] 26):=⟨_,rfl⟩;have hf1:Fr NoM w w1:=by rw[hw1];exact(Fr.refl NoM w).alloc _
 have hb1:w1.heap[w.heap.size]?=some (.cells #[.slice a Fi.length c] 26 (0,0)):=by rw[hw1];exact heap_alloc_new w _
 have HK:=Hh (fun(W:World) (f:Fr NoM w1 W)=>show W.cell? ⟨w.heap.size,0,none⟩=some (.slice a Fi.length c)from by rw[cell_of_row W _ 0 _ _ _ (f.heap hb1 (fun q=>q))];rfl);have HRd:=Hh (fun(k:Nat) (hk:k<Fi.length) (W:World) (f:Fr NoM w1 W)=>show ∃b off al cl ar cr,a=some ⟨b,off,none⟩/\W.cell? ⟨b,off+k*2,none⟩=some (.slice al Fi[k].1.length cl)/\W.cell? ⟨b,off+k*2+1,none⟩=some (.slice ar Fi[k].2.length cr)/\Ints W (.slice al Fi[k].1.length cl) Fi[k].1/\Ints W (.slice ar Fi[k].2.length cr) Fi[k].2 from by
  obtain⟨b,off,lv,rv,ha,_,c1,c2,s1,s2,_,_⟩:=h3 k Fi[k] (List.getElem?_eq_getElem hk);have f0:=hf1.trans f (fun _ _ q=>q);have s1:=s1.fr0 f0;have s2:=s2.fr0 f0;obtain⟨al,cl,rfl,_⟩:=id s1;obtain⟨ar,cr,rfl,_⟩:=id s2;exact⟨b,off,al,cl,ar,cr,ha,f0.cell c1 (fun q=>q),f0.cell c2 (fun q=>q),s1,s2⟩)
 have HN:=Hh hN;have HF1:=Hh hf1;have HB1:=Hh hb1;have hk1:=HK.out w1 (Fr.refl _ _);clear hN hf1 hb1 h3;go_enter Tryz.func32,Tryz.ntmps32;go_wp2_with fail;rw[←hw1];clear hw1;refine(znx (.slice a Fi.length c) Fi w1 (HN.out.fr0 HF1.out)).mono ?_
 rintro e w2 ⟨rfl,f2⟩;have F2:=Hh f2;clear f2 hk1;cases hfit:zam Fi with
 | false =>
  have HFit:=Hh hfit;clear hfit;go_wp2;go_ret;exact⟨false,rfl,⟨fun e=>(by cases e),fun e=>by have:=e.1;rw[HFit.out]at this;cases this⟩,HF1.out.trans F2.out (fun _ _ q=>q)⟩
 | true =>
  have HFit:=Hh hfit;clear hfit;go_wp2_with fail;go_loopw [3] (fun i W=>∃k:Nat,i=.int .i64 k/\k≤Fi.length/\risI Fi k/\Fr NoM w1 W) (fun i _=>Fi.length-(intOf i).toNat)
  case atStart=>exact⟨0,rfl,Nat.zero_le _,fun j y hj=>by omega,F2.out⟩
  case round =>
   obtain⟨k,rfl,hk,hris,hfr⟩:=hrel;obtain⟨w3,rfl⟩:∃w3,w3=wr:=⟨_,rfl⟩;have HRis:=Hh hris;have HFr:=Hh hfr;have HKl:=Hh hk;clear hris hfr hk;have k3:=HK.out w3 HFr.out;have hfl:Fi.length≤120:=(of_decide_eq_true HFit.out).1;by_cases hlt:k<Fi.length
   ·obtain⟨b,off,al,cl,ar,cr,ha,c1,c2,s1,s2⟩:=HRd.out k hlt w3 HFr.out
    subst ha;have ix:=zbe (some ⟨b,off,none⟩) Fi.length c k b off hlt rfl;have hc1:=zk3 (.slice al Fi[k].1.length cl) Fi[k].1 0 ((k:Int)-1) w3 s1;obtain⟨b1,hb1⟩:∃b1,b1=zaq 0 ((k:Int)-1) none Fi[k].1:=⟨_,rfl⟩;obtain⟨b2,hb2⟩:∃b2,b2=zaq 0 ((k:Int)-1) none Fi[k].2:=⟨_,rfl⟩;have HC2:=Hh (fun(W:World) (f:Fr NoM w3 W)=>zk3 (.slice ar Fi[k].2.length cr) Fi[k].2 0 ((k:Int)-1) W (s2.fr0 f));rw[←hb1]at hc1;rw[←hb2]at HC2;have HCell:=Hh (fun(W:World) (f:Fr NoM w3 W)=>show W.cell? ⟨w.heap.size,0,none⟩=some (.slice (some ⟨b,off,none⟩) Fi.length c)/\W.cell? ⟨b,off+k*2+1,none⟩=some (.slice ar Fi[k].2.length cr)from⟨f.cell k3 (fun q=>q),f.cell c2 (fun q=>q)⟩);have HC1:=Hh hc1;have HB1':=Hh hb1;have HB2':=Hh hb2;clear hc1 hb1 hb2 s1 s2 c2;go_wp2_with fail;refine HC1.out.mono ?_
    rintro e w4 ⟨rfl,q,hw4⟩;have hf4:Fr NoM w3 w4:=by rw[hw4];exact⟨rfl,rfl,rfl,Nat.le_refl _,fun _ _ _=>rfl⟩
    obtain⟨k4,c4⟩:=HCell.out w4 hf4;have hc2:=HC2.out w4 hf4;have HC2':=Hh hc2;have HF4:=Hh hf4;clear hc2 hf4 hw4 k3 c1;cases hb:b1 with
    | false =>
     have HBad:=Hh (show zaq 0 ((k:Int)-1) none Fi[k].1=false from by rw[←HB1'.out,hb]);subst hb;go_wp2;go_ret;exact⟨false,rfl,⟨fun e=>(by cases e),fun e=>by have h1:=(e.2.1 k Fi[k] hlt (List.getElem?_eq_getElem hlt)).1;rw[HBad.out]at h1;cases h1⟩,(HF1.out.trans HFr.out (fun _ _ q=>q)).trans HF4.out (fun _ _ q=>q)⟩
    | true =>
     have HGood:=Hh (show zaq 0 ((k:Int)-1) none Fi[k].1=true from by rw[←HB1'.out,hb]);subst hb;go_wp2_with fail;refine HC2'.out.mono ?_
     rintro e w5 ⟨rfl,q5,hw5⟩;have hf5:Fr NoM w4 w5:=by rw[hw5];exact⟨rfl,rfl,rfl,Nat.le_refl _,fun _ _ _=>rfl⟩
     have HF5:=Hh hf5;clear hf5 hw5 k4 c4;cases hb:b2 with
     | false =>
      have HBad:=Hh (show zaq 0 ((k:Int)-1) none Fi[k].2=false from by rw[←HB2'.out,hb]);subst hb;go_wp2;go_ret;exact⟨false,rfl,⟨fun e=>(by cases e),fun e=>by have h1:=(e.2.1 k Fi[k] hlt (List.getElem?_eq_getElem hlt)).2;rw[HBad.out]at h1;cases h1⟩,((HF1.out.trans HFr.out (fun _ _ q=>q)).trans HF4.out (fun _ _ q=>q)).trans HF5.out (fun _ _ q=>q)⟩
     | true =>
      have HGood2:=Hh (show zaq 0 ((k:Int)-1) none Fi[k].2=true from by rw[←HB2'.out,hb]);subst hb;go_wp2;go_roundw
      case rel =>
       refine⟨k+1,by go_num,by omega,fun j y hj hy=>?_,(HFr.out.trans HF4.out (fun _ _ q=>q)).trans HF5.out (fun _ _ q=>q)⟩;by_cases e:j=k
       ·subst e
        rw[List.getElem?_eq_getElem hlt]at hy;cases hy
        exact⟨HGood.out,HGood2.out⟩
       ·exact HRis.out j y (by omega) hy
      case measure=>simp[intOf];omega
   ·have hke:k=Fi.length:=by have:=HKl.out;omega
    subst hke;obtain⟨Fm,hFm,ho,hu⟩:=zkh HRis.out;have hgF:GoodF Fm:=ybv (by rw[←zh8,←hFm];exact HFit.out) ho;have hfin:∀b:Bool,b=decide (i2 (zd3 (addB [] [] Fm).1 (addB [] [] Fm).2.1 (zfa [] [] Fm))=Fi)→(b=true↔zbf Fi):=fun b hb=>by
     rw[hb,decide_eq_true_iff];constructor
     ·intro e
      refine⟨HFit.out,HRis.out,fun F' hF'=>?_⟩;have e1:Fm=F':=zug (hFm.symm.trans hF');subst e1;rw[hFm]at e;exact zug e
     ·intro e
      rw[e.2.2 Fm hFm];exact hFm.symm
    obtain⟨k1,k2,k3',k4,k5⟩:=zgb BookOK.nil Fm hgF.opts;have hup:=yad (BL:=[]) BookUp.nil Fm;have hlens:=hup.lens k1;obtain⟨NL1,hNL⟩:∃x,x=(addB [] [] Fm).1:=⟨_,rfl⟩;obtain⟨BL1,hBL⟩:∃x,x=(addB [] [] Fm).2.1:=⟨_,rfl⟩;obtain⟨x,hx⟩:∃x,x=zfa [] [] Fm:=⟨_,rfl⟩;have hxl:x<NL1.length:=by
     rw[hx,hNL];unfold zfa;have hp:=hgF.pos;rw[List.getD_eq_getElem?_getD,List.getElem?_eq_getElem (by omega)];exact k3' _ (List.getElem_mem _)
    have hnl:NL1.length≤120:=by have h1:=hgF.le;have h2:(addB [] [] Fm).1.length≤0+Fm.length:=k4;rw[hNL];omega
    rw[←hNL,←hBL,←hx]at hfin;rw[←hNL,←hBL]at k1;rw[←hNL]at hlens;obtain⟨w5,hw5⟩:∃w5,w5=w3.alloc (.cells #[.slice none 0 0,.slice none 0 0] 109):=⟨_,rfl⟩;have hf5:Fr NoM w3 w5:=by rw[hw5];exact(Fr.refl NoM w3).alloc _
    have hb5:w5.heap[w3.heap.size]?=some (.cells #[.slice none 0 0,.slice none 0 0] 109 (0,0)):=by rw[hw5];exact heap_alloc_new w3 _
    obtain⟨bb,hbb⟩:∃bb,bb=w3.heap.size:=⟨_,rfl⟩;rw[←hbb]at hb5;have hwb:w.heap.size<bb:=by
     have e1:=HFr.out.size;have e2:w.heap.size<w1.heap.size:=(Array.getElem?_eq_some_iff.1 HB1.out).1;omega
    have hf05:=(HF1.out.trans HFr.out (fun _ _ q=>q)).trans hf5 (fun _ _ q=>q);have hNm:NodeL (· < w.heap.size) encN w5 (.slice a Fi.length c) Fm:=by
     have h:=HN.out.fr0 hf05;rw[hFm]at h ⊢;exact h.ofI
    have HRoot:=Hh (fun(W:World) (f:Fr NoM w5 W)=>show Calls Tryz.prog 73 #[.pointer (some ⟨bb,0,none⟩),.agg #[.slice a Fi.length c]] W fun e w'=>∃S',e=.returned (.int .i64 (x:Nat))/\BookS S' w' bb NL1 BL1/\(∀k,S' k→k=bb∨W.heap.size≤k)/\Fr (fun k=>k=bb) W w' from by
     have h:=zog (R:=(· < w.heap.size)) bb (.slice a Fi.length c) [] Fm [] W ((BookS.made hb5).fr0 f) BookOK.nil (hNm.fr0 f) (fun k hk e=>by have hk:k<w.heap.size:=hk;omega) hgF.opts (by have:=hgF.le;simp;omega) (fun y hy=>by have:=hgF.lens y hy;omega) hgF.pos;rw[←hNL,←hBL,←hx]at h;exact h)
    have HForm:=Hh (fun(S':Nat→Prop) (W:World) (b:BookS S' W bb NL1 BL1)=>zi2 bb x NL1 BL1 W b k1 hxl (by omega) (fun y hy=>by have:=hlens y hy;omega));have HSame:=Hh (fun(W:World) (f:Fr (fun k=>k=bb) w5 W) (R2:Nat→Prop) (v':Value) (G:List PL) (n:NodeL R2 encN W v' G)=>zvq v' (.slice a Fi.length c) (i2 G) Fi W n.toI ((HN.out.fr0 hf05).fr f (fun k hk e=>by have hk:k<w.heap.size:=hk;omega)));have HCell:=Hh (fun(W:World) (f:Fr (fun k=>k=bb) w5 W)=>show W.cell? ⟨w.heap.size,0,none⟩=some (.slice a Fi.length c)from f.cell (hf5.cell k3 (fun q=>q)) (fun e=>by have e:w.heap.size=bb:=e;omega));have HFin:=Hh hfin;have HBb:=Hh hbb;have HF05:=Hh hf05;have HWb:=Hh hwb;clear hfin hf5 hb5 hf05 hNm hwb k1 k2 k3' k4 k5 hup hlens hNL hBL hx hxl hnl hgF ho hu hFm;go_upto_region 9 with fail;rw[←hw5,←hbb];have HW5:=Hh hw5;clear hw5 hbb k3;have F0:Fr NoM w5 w5.drew:=(Fr.refl NoM w5).drew;have G0:Fr (fun k=>k=bb) w5 w5.drew:=(Fr.refl _ w5).drew;have hc5:=HCell.out w5 (Fr.refl _ _);go_region_held3 (fun(W:World)=>W.cell? ⟨w.heap.size,0,none⟩=some (.slice a Fi.length c))
     (exact HCell.out _ (by assumption))
     (first
      | (go_at_call 73;(with_reducible refine(HRoot.out _ (by assumption)).mono ?_);rintro e w6 ⟨S',rfl,b6,s6,f6⟩;have G6:Fr (fun k=>k=bb) w5 w6:=Fr.trans (by assumption) f6 (fun _ _ q=>q))
      | (go_at_call 72;(with_reducible refine(HForm.out _ _ b6).mono ?_);rintro e w7 ⟨v7,rfl,n7,f7⟩;obtain⟨a7,c7,rfl,z7⟩:=id n7;clear z7;have G7:Fr (fun k=>k=bb) w5 w7:=Fr.trans G6 f7 (fun _ _ q=>q.elim))
      | (go_at_call 71;(with_reducible refine(HSame.out _ (by assumption) _ _ _ n7).mono ?_);rintro e w8 ⟨rfl,f8⟩;have G8:Fr (fun k=>k=bb) w5 w8:=Fr.trans G7 f8 (fun _ _ q=>q.elim))
      | fail)
    all_goals
     have HG8:=Hh G8;clear n7 f7 f8 G6 G7 G8 b6 s6 f6 hc5 F0 G0;obtain⟨bR,hbR⟩:∃bR,bR=decide (i2 (zd3 NL1 BL1 x)=Fi):=⟨_,rfl⟩;rw[←hbR];have HBR:=Hh hbR;clear hbR;go_wp2;go_ret;refine⟨bR,rfl,HFin.out bR HBR.out,HF05.out.trans HG8.out (fun q hq e=>?_)⟩;have:=HWb.out;omega
end Go.Proofs.YtghekfmfonoocaaGreatDoor
