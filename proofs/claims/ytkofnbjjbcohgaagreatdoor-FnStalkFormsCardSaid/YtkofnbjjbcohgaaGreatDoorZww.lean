import Derived.RegionTactic
import Derived.Test.YtkofnbjjbcohgaaGreatDoorZw2
import Derived.Test.YtkofnbjjbcohgaaGreatDoorZw3
/- Lemmas. -/
namespace Go.Proofs.YtkofnbjjbcohgaaGreatDoor
set_option linter.unusedVariables false
set_option linter.unusedSimpArgs false
open Go.RowKit
def risP (last below:Int):List Int→Bool
 | []=>true
 | x::l=>decide (last<x) && (decide (x<below) && risP x below l)
set_option maxHeartbeats 1000000 in
theorem zhy (lv:Value)(L:List Int)(n:Nat)(w:World)(hL:Ints w lv L) :
  Calls Tryz.prog 41 #[lv,.int .i64 (n:Int)] w fun e w'=>e=.returned (.bool (decide (L.length≤24) && risP (-1) n L))/\w'=w:=by
 obtain⟨la,lc,rfl,hlc,hlcm,hL⟩:=hL;have HL:=Hh hL;clear hL;by_cases hbig:24<L.length
 ·have hr:(decide (L.length≤24) && risP (-1) n L)=false:=by rw[decide_eq_false (by omega)];rfl
  rw[hr];clear hr;go_enter Tryz.func41,Tryz.ntmps41;go_wp2;go_ret;exact⟨rfl,rfl⟩
 ·have hr:(decide (L.length≤24) && risP (-1) n L)=risP (-1) n L:=by rw[decide_eq_true (by omega)];rfl
  rw[hr];clear hr;obtain⟨res,hres⟩:∃res,res=risP (-1) n L:=⟨_,rfl⟩;rw[←hres];have HRes:=Hh hres;clear hres;go_enter Tryz.func41,Tryz.ntmps41;go_wp2;go_loop [5,13] (fun l i=>∃(k:Nat) (last:Int),k≤L.length/\l=.int .i64 last/\i=.int .i64 k/\res=risP last n (L.drop k)) (fun _ i=>L.length-(intOf i).toNat)
  case atStart=>exact⟨0,-1,by omega,rfl,rfl,HRes.out⟩
  case round =>
   obtain⟨k,last,hk,rfl,rfl,hr⟩:=hrel;by_cases hlt:k<L.length
   ·obtain⟨b1,o1,ha1,hc1⟩:=HL.out k L[k] (by simp)
    have ix1:=zaa la L.length lc k b1 o1 hlt ha1;have hd:L.drop k=L[k]::L.drop (k+1):=List.drop_eq_getElem_cons hlt;rw[hd]at hr;simp only[risP]at hr;obtain⟨x,hx⟩:∃x,x=L[k]:=⟨_,rfl⟩;replace hc1:w.cell? ⟨b1,o1+k,none⟩=some (.int .i64 x):=by rw[hx];exact hc1
    rw[←hx]at hr;clear hd ha1 hx;by_cases h1:x≤last
    ·have hn:res=false:=by rw[hr,decide_eq_false (by omega)];rfl
     have HN:=Hh hn;clear hn hr;go_wp2;go_ret;exact⟨by rw[HN.out];rfl,rfl⟩
    ·by_cases h2:(n:Int)≤x
     ·have hn:res=false:=by rw[hr,decide_eq_false (p:=x<(n:Int)) (by omega)];simp
      have HN:=Hh hn;clear hn hr;go_wp2;go_ret;exact⟨by rw[HN.out];rfl,rfl⟩
     ·have hn:res=risP x n (L.drop (k+1)):=by rw[hr,decide_eq_true (p:=last<x) (by omega),decide_eq_true (p:=x<(n:Int)) (by omega)];simp
      have HN:=Hh hn;clear hn hr;go_wp2;go_round
      case rel=>exact⟨k+1,x,by omega,rfl,by go_num,HN.out⟩
      case measure=>simp[intOf];omega
   ·have hk':k=L.length:=by omega
    have hn:res=true:=by rw[hr,hk',List.drop_length];rfl
    have HN:=Hh hn;clear hn hr hk';go_wp2;go_ret;exact⟨by rw[HN.out];rfl,rfl⟩
theorem zxg (n:Nat)(L:List Int):∀last:Int,-1≤last→risP last n L=zad 0 ((n:Int)-1) (if last=-1 then none else some last) L:=by
 induction L with
 | nil=>intro last _;split <;> rfl
 | cons x l ih =>
  intro last hl;by_cases hx:last<x
  ·have hxne:¬x=-1:=by omega
   have e:=ih x (by omega);rw[if_neg hxne]at e;simp only[risP,e];by_cases hxn:x<(n:Int)
   ·have hb:betw x 0 ((n:Int)-1)=true:=by unfold betw;rw[decide_eq_true_eq];omega
    split
    ·simp[zad,hx,hxn,hb]
    ·simp[zad,hx,hxn,hb]
   ·have hb:betw x 0 ((n:Int)-1)=false:=by unfold betw;rw[decide_eq_false_iff_not];omega
    split
    ·simp[zad,hxn,hb]
    ·simp[zad,hxn,hb]
  ·simp only[risP,decide_eq_false hx,Bool.false_and]
   split
   ·have hb:betw x 0 ((n:Int)-1)=false:=by unfold betw;rw[decide_eq_false_iff_not];omega
    simp[zad,hb]
   ·simp[zad,hx]
theorem zea (lv:Value)(L:List Int)(n:Nat)(w:World)(hL:Ints w lv L) :
  Calls Tryz.prog 41 #[lv,.int .i64 (n:Int)] w fun e w'=>e=.returned (.bool (decide (L.length≤24) && zad 0 ((n:Int)-1) none L))/\w'=w:=by
 have h:=zhy lv L n w hL;rw[zxg n L (-1) (by omega),if_pos rfl]at h;exact h
theorem zvt {α:Type}(X:List α)(m:Nat)(v z:α):(X++List.replicate (m+1) z).set X.length v=(X ++ [v])++List.replicate m z:=by
 rw[List.set_append_right _ _ (Nat.le_refl _),Nat.sub_self,List.replicate_succ,List.set_cons_zero];simp
set_option maxHeartbeats 1000000 in
theorem zhi (lv av:Value)(L A:List Nat)(w:World)(hL:Nats w lv L)(hA:Nats w av A)(hlt:∀x∈L,x<A.length)(hl:L.length<1000000000) :
  Calls Tryz.prog 97 #[lv,av] w fun e w'=>e=.returned (.slice (some ⟨w.heap.size,0,none⟩) L.length L.length)/\RowIs 3 encN w' w.heap.size (za1 A L)/\Fr NoM w w':=by
 obtain⟨la,lc,rfl,hlc,hlcm,hL⟩:=hL;obtain⟨aa,ac,rfl,hac,hacm,hA⟩:=hA;have HL:=Hh hL;have HA:=Hh hA;have HLt:=Hh hlt;clear hL hA hlt;have mk:=fun W=>znp L.length W hl
 go_enter Tryz.func97,Tryz.ntmps97;go_wp2;go_loopw [13] (fun i W=>∃k:Nat,i=.int .i64 k/\k≤L.length/\RowIs 3 encN W w.heap.size (za1 A (L.take k)++List.replicate (L.length-k) 0)/\Fr NoM w W) (fun i _=>L.length-(intOf i).toNat)
 case atStart=>exact⟨0,rfl,Nat.zero_le _,RowIs.made 3 encN w 0 L.length,(Fr.refl NoM w).alloc _⟩
 case round =>
  obtain⟨k,rfl,hk,hrow,hfr⟩:=hrel;obtain⟨w7,rfl⟩:∃w7,w7=wr:=⟨_,rfl⟩;by_cases hkl:k<L.length
  ·obtain⟨b1,o1,ha1,hc1⟩:=HL.out k L[k] (by simp)
   have hx:=HLt.out L[k] (List.getElem_mem _);obtain⟨b2,o2,ha2,hc2⟩:=HA.out L[k] A[L[k]] (by simp);have ix1:=zaa la L.length lc k b1 o1 hkl ha1;have ix2:=zaa aa A.length ac L[k] b2 o2 hx ha2;have ix3:=zd9 w.heap.size L.length L.length k hkl;replace hc1:w7.cell? ⟨b1,o1+k,none⟩=some (.int .i64 (L[k]:Int)):=hfr.cell hc1 (fun q=>q)
   replace hc2:w7.cell? ⟨b2,o2+L[k],none⟩=some (.int .i64 (A[L[k]]:Int)):=hfr.cell hc2 (fun q=>q)
   have k3:=hrow.cell k (by simp[za1];omega);have hXl:(za1 A (L.take k)).length=k:=by simp[za1];omega
   have hn1:L.length-k=(L.length-(k+1))+1:=by omega
   have z3:=hrow.frozen k;have hnew:=hrow.set k A[L[k]];have hset:(za1 A (L.take k)++List.replicate (L.length-k) 0).set k A[L[k]]=za1 A (L.take (k+1))++List.replicate (L.length-(k+1)) 0:=by
    have h:=zvt (za1 A (L.take k)) (L.length-(k+1)) A[L[k]] 0;rw[hXl,←hn1]at h;rw[h,ziu A L k hkl hx]
   rw[hset]at hnew;have hfr2:=hfr.setCell ⟨w.heap.size,k,none⟩ (encN A[L[k]]) (fun h=>absurd h (Nat.lt_irrefl _));have HNew:=Hh hnew;have HF2:=Hh hfr2;clear hset hnew hfr2 hrow hfr ha1 ha2 hn1 hXl;go_wp2;go_roundw
   case rel=>exact⟨k+1,by go_num,by omega,HNew.out,HF2.out⟩
   case measure=>simp[intOf];omega
  ·have hk':k=L.length:=by omega
   subst hk';rw[List.take_length,Nat.sub_self,List.replicate_zero,List.append_nil]at hrow;have HRow:=Hh hrow;have HFr:=Hh hfr;clear hrow hfr;go_wp2;go_ret;exact⟨rfl,HRow.out,HFr.out⟩
theorem zo4 (Fs:List PL)(i:Nat)(h:i<Fs.length):zau (Fs.take (i+1))=zau (Fs.take i) ++ [za9 (zau (Fs.take i)) (za9 (zau (Fs.take i)) 0 Fs[i].1) Fs[i].2]:=by
 rw[List.take_succ_eq_append_getElem h,zcz]
theorem zts (Fs:List PL):OptsOK Fs→∀(j x:Nat),(zau Fs)[j]?=some x→x≤j:=by
 induction Fs using zcg with
 | h0=>intro _ j x h;simp[zau]at h
 | h1 l a ih =>
  intro ho j x hx;have hl:=zbz l;rw[zcz]at hx;rcases zf1 hx with ⟨hj,hx⟩|⟨rfl,rfl⟩
  ·exact ih ho.cut j x hx
  ·obtain⟨o1,o2⟩:=ho l.length a (by simp)
   rw[hl];exact zh5 _ (ih ho.cut) _ _ _ (zh5 _ (ih ho.cut) _ _ _ (Nat.zero_le _) o1) o2
theorem OptsOK.take {Fs:List PL}(ho:OptsOK Fs)(i:Nat):OptsOK (Fs.take i):=fun j y hy=>ho j y (by
 rw[List.getElem?_take]at hy;split at hy
 ·exact hy
 ·cases hy)
theorem zmv (B L:List Nat)(m0 n j i x bx:Nat)(hi:B.length=i)(hx:L[j]?=some x)(hbx:B[x]?=some bx) :
  (B++za9 B m0 (L.take j)::List.replicate n 0).set i (max (za9 B m0 (L.take j)) (bx+1))=B++za9 B m0 (L.take (j+1))::List.replicate n 0:=by
 subst hi;obtain⟨hj,rfl⟩:=List.getElem?_eq_some_iff.1 hx
 obtain⟨hb,rfl⟩:=List.getElem?_eq_some_iff.1 hbx
 have h:=zdr B m0 L j hj hb;rw[List.set_append_right _ _ (Nat.le_refl _),Nat.sub_self,List.set_cons_zero];congr 2
 omega
theorem zt6 (m bx:Nat):(if (m:Int)<(bx:Int)+1 then (bx:Int)+1 else (m:Int))=((max m (bx+1):Nat):Int):=by split <;> omega
theorem RowIs.at {α:Type}{e:TypeId}{enc:α→Value}{w:World}{g:Nat}{L:List α}(h:RowIs e enc w g L){i:Nat}{x:α}(hx:L[i]?=some x):w.cell? ⟨g,i,none⟩=some (enc x):=by
 obtain⟨hi,rfl⟩:=List.getElem?_eq_some_iff.1 hx
 exact h.cell i hi
set_option maxRecDepth 4000 in
set_option maxHeartbeats 4000000 in
theorem zrm {R:Nat→Prop}(nv:Value)(Fs:List PL)(w:World)(h:NodeL R encN w nv Fs)(ho:OptsOK Fs)(hn:Fs.length<1000000000) :
  Calls Tryz.prog 42 #[nv] w fun e w'=>e=.returned (.slice (some ⟨w.heap.size,0,none⟩) Fs.length Fs.length)/\RowIs 3 encN w' w.heap.size (zau Fs)/\Fr NoM w w':=by
 obtain⟨na,nc,rfl,hnc,hncm,hN⟩:=h;have mk:=fun W=>znp Fs.length W hn
 have HN:=Hh hN;have HO:=Hh ho;clear hN ho;go_enter Tryz.func42,Tryz.ntmps42;go_wp2;clear mk;go_loopw [15] (fun t W=>∃i:Nat,t=.int .i64 i/\i≤Fs.length/\RowIs 3 encN W w.heap.size (zau (Fs.take i)++List.replicate (Fs.length-i) 0)/\Fr NoM w W) (fun t _=>Fs.length-(intOf t).toNat)
 case atStart=>exact⟨0,rfl,Nat.zero_le _,RowIs.made 3 encN w 0 Fs.length,(Fr.refl NoM w).alloc _⟩
 case round =>
  obtain⟨i,rfl,hi,hrow,hfr⟩:=hrel;obtain⟨w7,rfl⟩:∃w7,w7=wr:=⟨_,rfl⟩;by_cases hlt:i<Fs.length
  ·obtain⟨b1,o1,lv,rv,ha1,_,c1,c2,s1,s2,_,_⟩:=HN.out i Fs[i] (List.getElem?_eq_getElem _)
   obtain⟨p1,p2⟩:=HO.out i Fs[i] (List.getElem?_eq_getElem _);have hle:=zts (Fs.take i) (HO.out.take i);have ix1:=zbr na Fs.length nc i b1 o1 hlt ha1;obtain⟨y,hy⟩:∃y,y=Fs[i]:=⟨_,rfl⟩;obtain⟨B,hB⟩:∃B,B=zau (Fs.take i):=⟨_,rfl⟩;have hBl:B.length=i:=by rw[hB,zbz];simp;omega
   have hnext:=zo4 Fs i hlt;rw[←hB]at hrow hnext hle;rw[←hy]at s1 s2 p1 p2 hnext;obtain⟨la,lc,rfl,hlc⟩:=zdd s1;obtain⟨ra,rc,rfl,hrc⟩:=zdd s2;have d1:=hfr.cell c1 (fun q=>q);have d2:=hfr.cell c2 (fun q=>q);have hsz:w.heap.size<w7.heap.size:=(Array.getElem?_eq_some_iff.1 hrow).1;obtain⟨n1,hn1⟩:∃n1,Fs.length-i=n1+1:=⟨Fs.length-i-1,by omega⟩;have hL9:y.1.length≤9223372036854775807:=by obtain⟨a,c,_,h1,h2,_⟩:=s1;omega
   have hR9:y.2.length≤9223372036854775807:=by obtain⟨a,c,_,h1,h2,_⟩:=s2;omega
   have hBb:∀x∈B,x<1000000000:=fun x hx=>by
    obtain⟨j,hj,rfl⟩:=List.getElem_of_mem hx;have:=hle j _ (List.getElem?_eq_getElem hj);omega
   rw[hn1,List.replicate_succ]at hrow;have HRow:=Hh hrow;have HFr:=Hh hfr;have HLc:=Hh hlc;have HRc:=Hh hrc;have HP1:=Hh p1;have HP2:=Hh p2;have HBl:=Hh hBl;have HNext:=Hh hnext;have HN1:=Hh hn1;have HSz:=Hh hsz;have HBb:=Hh hBb;clear hrow hfr hlc hrc p1 p2 hBl hnext hn1 hsz hBb hle ha1 c1 c2 s1 s2 hy hB;go_wp2;obtain⟨w8,hw8⟩:∃w8,w8=w7.alloc (.cells #[.slice la y.1.length lc,.slice ra y.2.length rc] 55):=⟨_,rfl⟩;have hf8:Fr NoM w7 w8:=by rw[hw8];exact(Fr.refl NoM w7).alloc _
   have hb8:w8.heap[w7.heap.size]?=some (.cells #[.slice la y.1.length lc,.slice ra y.2.length rc] 55 (0,0)):=by rw[hw8];exact heap_alloc_new w7 _
   rw[←hw8];have HF8:=Hh hf8;have HB8:=Hh hb8;clear hf8 hb8 hw8 d1 d2;go_loopw [23] (fun t W=>∃j:Nat,t=.int .i64 j/\j≤y.1.length/\RowIs 3 encN W w.heap.size (B++za9 B 0 (y.1.take j)::List.replicate n1 0)/\Fr (fun q=>q=w.heap.size) w8 W) (fun t _=>y.1.length-(intOf t).toNat)
   case atStart=>exact⟨0,rfl,Nat.zero_le _,HRow.out.fr HF8.out (fun q=>q),Fr.refl _ _⟩
   case round =>
    obtain⟨j,rfl,hj,hrow,hfr⟩:=hrel;obtain⟨w9,rfl⟩:∃w9,w9=wr:=⟨_,rfl⟩;have f9:Fr (fun q=>q=w.heap.size) w w9:=((HFr.out.trans HF8.out (fun _ _ q=>q)).any).trans hfr (fun _ _ q=>q);by_cases hjl:j<y.1.length
    ·obtain⟨x,hxx⟩:∃x,y.1[j]?=some x:=⟨_,List.getElem?_eq_getElem hjl⟩
     have hx:=HP1.out x (List.mem_of_getElem? hxx);have hBl:=HBl.out;obtain⟨bx,hbx⟩:∃bx,B[x]?=some bx:=⟨_,List.getElem?_eq_getElem (by omega)⟩;obtain⟨b2,o2,ha2,e2⟩:=HLc.out j x hxx;have hb2:=World.block_lt_of_cell? w _ e2;replace e2:w9.cell? ⟨b2,o2+j,none⟩=some (.int .i64 (x:Int)):=f9.cell e2 (fun q=>by have q:b2=w.heap.size:=q;have hb2:b2<w.heap.size:=hb2;omega)
     have ix2:=zaa la y.1.length lc j b2 o2 hjl ha2;have ix3:=zd9 w.heap.size Fs.length Fs.length i hlt;have ix4:=zd9 w.heap.size Fs.length Fs.length x (by omega);have k1:w9.cell? ⟨w.heap.size,i,none⟩=some (.int .i64 ((za9 B 0 (y.1.take j):Nat):Int)):=hrow.at (by rw[List.getElem?_append_right (by omega),hBl,Nat.sub_self];rfl);have k2:w9.cell? ⟨w.heap.size,x,none⟩=some (.int .i64 (bx:Int)):=hrow.at (by rw[List.getElem?_append_left (by omega)];exact hbx);have z1:=hrow.frozen i;have hmb:bx<1000000000:=HBb.out _ (List.mem_of_getElem? hbx);have hnew:=hrow.set i (max (za9 B 0 (y.1.take j)) (bx+1));rw[zmv B y.1 0 n1 j i x bx hBl hxx hbx]at hnew;obtain⟨m,hm⟩:∃m,m=za9 B 0 (y.1.take j):=⟨_,rfl⟩;rw[←hm]at k1 hnew;have HNew:=Hh hnew;have HFr9:=Hh hfr;clear hnew hrow hfr f9 ha2 hb2 hx hBl hbx hxx hm;go_wp2_with fail;go_region;all_goals
      go_wp2;go_roundw
      case rel =>
       refine⟨j+1,by go_num,by omega,?_,?_⟩
       ·(first|rw[zt6 m bx]|rw[show max (m:Int) ((bx:Int)+1)=((max m (bx+1):Nat):Int)from by omega]);exact HNew.out.fr ((Fr.refl NoM _).drew) (fun q=>q)
       ·exact(HFr9.out.setCell _ _ (fun _=>rfl)).drew
      case measure=>simp[intOf];omega
    ·have hj':j=y.1.length:=by omega
     subst hj';rw[List.take_length]at hrow;have hne:¬w7.heap.size=w.heap.size:=by have:=HSz.out;omega
     have d9:w9.cell? ⟨w7.heap.size,1,none⟩=some (.slice ra y.2.length rc):=by rw[cell_of_row w9 _ 1 _ _ _ (hfr.heap HB8.out hne)];rfl
     obtain⟨m0,hm0⟩:∃m0,m0=za9 B 0 y.1:=⟨_,rfl⟩;rw[←hm0]at hrow;have HRow9:=Hh hrow;have F9:=Hh f9;have HM0:=Hh hm0;clear hrow hfr f9 hne hm0;go_wp2;clear d9;go_loopw [44] (fun t W=>∃j:Nat,t=.int .i64 j/\j≤y.2.length/\RowIs 3 encN W w.heap.size (B++za9 B m0 (y.2.take j)::List.replicate n1 0)/\Fr (fun q=>q=w.heap.size) w W) (fun t _=>y.2.length-(intOf t).toNat)
     case atStart=>exact⟨0,rfl,Nat.zero_le _,HRow9.out,F9.out⟩
     case round =>
      obtain⟨j,rfl,hj,hrow,hfr⟩:=hrel;obtain⟨w10,rfl⟩:∃w10,w10=wr:=⟨_,rfl⟩;by_cases hjl:j<y.2.length
      ·obtain⟨x,hxx⟩:∃x,y.2[j]?=some x:=⟨_,List.getElem?_eq_getElem hjl⟩
       have hx:=HP2.out x (List.mem_of_getElem? hxx);have hBl:=HBl.out;obtain⟨bx,hbx⟩:∃bx,B[x]?=some bx:=⟨_,List.getElem?_eq_getElem (by omega)⟩;obtain⟨b2,o2,ha2,e2⟩:=HRc.out j x hxx;have hb2:=World.block_lt_of_cell? w _ e2;replace e2:w10.cell? ⟨b2,o2+j,none⟩=some (.int .i64 (x:Int)):=hfr.cell e2 (fun q=>by have q:b2=w.heap.size:=q;have hb2:b2<w.heap.size:=hb2;omega)
       have ix2:=zaa ra y.2.length rc j b2 o2 hjl ha2;have ix3:=zd9 w.heap.size Fs.length Fs.length i hlt;have ix4:=zd9 w.heap.size Fs.length Fs.length x (by omega);have k1:w10.cell? ⟨w.heap.size,i,none⟩=some (.int .i64 ((za9 B m0 (y.2.take j):Nat):Int)):=hrow.at (by rw[List.getElem?_append_right (by omega),hBl,Nat.sub_self];rfl);have k2:w10.cell? ⟨w.heap.size,x,none⟩=some (.int .i64 (bx:Int)):=hrow.at (by rw[List.getElem?_append_left (by omega)];exact hbx);have z1:=hrow.frozen i;have hmb:bx<1000000000:=HBb.out _ (List.mem_of_getElem? hbx);have hnew:=hrow.set i (max (za9 B m0 (y.2.take j)) (bx+1));rw[zmv B y.2 m0 n1 j i x bx hBl hxx hbx]at hnew;obtain⟨m,hm⟩:∃m,m=za9 B m0 (y.2.take j):=⟨_,rfl⟩;rw[←hm]at k1 hnew;have HNew:=Hh hnew;have HFr9:=Hh hfr;clear hnew hrow hfr ha2 hb2 hx hBl hbx hxx hm;go_wp2_with fail;go_region;all_goals
        go_wp2;go_roundw
        case rel =>
         refine⟨j+1,by go_num,by omega,?_,?_⟩
         ·(first|rw[zt6 m bx]|rw[show max (m:Int) ((bx:Int)+1)=((max m (bx+1):Nat):Int)from by omega]);exact HNew.out.fr ((Fr.refl NoM _).drew) (fun q=>q)
         ·exact(HFr9.out.setCell _ _ (fun _=>rfl)).drew
        case measure=>simp[intOf];omega
      ·have hj':j=y.2.length:=by omega
       subst hj';rw[List.take_length,HM0.out]at hrow;have hrow':RowIs 3 encN w10 w.heap.size (zau (Fs.take (i+1))++List.replicate (Fs.length-(i+1)) 0):=by
        rw[HNext.out,List.append_assoc,show Fs.length-(i+1)=n1 from by have:=HN1.out;omega];exact hrow
       have HRow10:=Hh hrow';have HFr10:=Hh hfr;clear hrow hrow' hfr;go_wp2;go_roundw
       case rel=>exact⟨i+1,by go_num,by omega,HRow10.out,HFr10.out.mono (fun q hq e=>absurd e (by omega))⟩
       case measure=>simp[intOf];omega
  ·have hi':i=Fs.length:=by omega
   subst hi';rw[List.take_length,Nat.sub_self,List.replicate_zero,List.append_nil]at hrow;have HRow:=Hh hrow;have HFr:=Hh hfr;clear hrow hfr;go_wp2;go_ret;exact⟨rfl,HRow.out,HFr.out⟩
def zix (Fs:List PL)(n root:Nat):List Bool:=zb1 Fs (root+1) ((List.replicate n false).set root true)
set_option maxRecDepth 4000 in
set_option maxHeartbeats 4000000 in
theorem zub {R:Nat→Prop}(nv:Value)(root:Nat)(NL:List PL)(w:World)(hN:NodeL R encN w nv NL)(hr:root<NL.length)(hopt:OptsOK NL)(hn:NL.length<1000000000) :
  Calls Tryz.prog 47 #[nv,.int .i64 (root:Int)] w fun e w'=>e=.returned (.slice (some ⟨w.heap.size,0,none⟩) NL.length NL.length)/\RowIs 4 encB w' w.heap.size (zix NL NL.length root)/\Fr NoM w w':=by
 obtain⟨na,nc,rfl,hnc,hncm,hnn⟩:=hN;have hmk:∀W:World,(Instr.makeSlice 87 (.int .i64 (NL.length:Int)) (.int .i64 (NL.length:Int))).run Tryz.prog W=.ok (.slice (some ⟨W.heap.size,0,none⟩) NL.length NL.length) (W.alloc (.cells (zdq encB false NL.length) 4)):=by
  intro W;obtain⟨i0,hi,hz0,hz1,hz2⟩:=info_parts zp4;have h:=run_make (P:=Tryz.prog) W 87 4 i0 (.bool false) Tryz.underlying87 hi hz0 .i64 .i64 (NL.length:Int) (NL.length:Int) (by omega) (by omega) (by rw[hz2];omega) (by omega);rw[h,hz1,show((NL.length:Int)).toNat=NL.length from by omega,Nat.mul_one];have:madeCells (Value.cells (.bool false)) NL.length=(zdq encB false NL.length):=by
   apply Array.ext'
   unfold zdq;rw[List.toList_toArray,madeCells,Array.toList_map,Array.toList_range];refine(List.eq_replicate_iff.2 ⟨by simp,fun b hb=>?_⟩:_=List.replicate NL.length (Value.bool false)).trans (by simp[encB]);obtain⟨y,_,rfl⟩:=List.mem_map.1 hb;simp[Value.cells,Nat.mod_one]
  rw[this]
 have ix0:=fun W=>zhv w.heap.size NL.length NL.length root hr W
 have HNn:=Hh hnn;have Hopt:=Hh hopt;have r0:=RowIs.made 4 encB w false NL.length;have z0:=r0.frozen root;have k0:=r0.cell root (by simpa using hr);have R0:=Hh r0;clear hnn hopt r0;go_enter Tryz.func47,Tryz.ntmps47;go_wp2;go_loopw [6] (fun i wr=>∃(n:Nat) (m:List Bool),i=.int .i64 ((n:Int)-1)/\n≤root+1/\m.length=NL.length/\RowIs 4 encB wr w.heap.size m/\zb1 NL n m=zix NL NL.length root/\Fr NoM w wr) (fun i _=>(intOf i+1).toNat)
 case atStart=>exact⟨root+1,(List.replicate NL.length false).set root true,by go_num,Nat.le_refl _,by simp,RowIs.made1 4 encB w false true NL.length root,rfl,(Fr.refl NoM w).alloc _⟩
 case round =>
  obtain⟨n,m,rfl,hn',hm,hrow,hre,hfr⟩:=hrel;cases n with
  | zero =>
   have HRow:=Hh hrow;have HRe:=Hh hre;have HFr:=Hh hfr;clear hrow hre hfr;go_wp2;go_ret;refine⟨by simp,?_,HFr.out⟩;rw[←HRe.out];exact HRow.out
  | succ k =>
   rw[show(((k+1:Nat):Int)-1)=(k:Int)from by omega];have hkm:k<m.length:=by omega
   have hkN:k<NL.length:=by omega
   have ixm:=fun(j:Nat) (hj:j<NL.length) W=>zhv w.heap.size NL.length NL.length j hj W
   have ixk:=ixm k (by omega);have d0:=hrow.cell k hkm;have hstep:zbe NL m k=if m[k]=true then zaz (zaz m NL[k].1) NL[k].2 else m:=by
    simp only[zbe,List.getD_eq_getElem?_getD,List.getElem?_eq_getElem hkm,List.getElem?_eq_getElem hkN,Option.getD_some]
   unfold zb1 at hre;rw[hstep]at hre;have HIx:=Hh ixm;have HRow:=Hh hrow;have HRe:=Hh hre;have HFr:=Hh hfr;have HM:=Hh hm;clear ixm hrow hre hfr hm hstep;by_cases hmk:m[k]=true
   ·have hre:=HRe.out
    rw[if_pos hmk]at hre;rw[hmk]at d0;unfold encB at d0;have HRe1:=Hh hre;clear HRe hre hmk;obtain⟨b1,o1,lv,rv,ha1,_,e1,e2,n1,n2,_,_⟩:=HNn.out k NL[k] (List.getElem?_eq_getElem _);obtain⟨x1,x2⟩:=Hopt.out k NL[k] (List.getElem?_eq_getElem _);have ix:=zbr na NL.length nc k b1 o1 hkN ha1;have hL9:NL[k].1.length≤9223372036854775807:=by obtain⟨a,c,_,h1,h2,_⟩:=n1;omega
    have hR9:NL[k].2.length≤9223372036854775807:=by obtain⟨a,c,_,h1,h2,_⟩:=n2;omega
    obtain⟨la,lc,rfl,hlc⟩:=zdd n1;obtain⟨ra,rc,rfl,hrc⟩:=zdd n2;have HE1:=Hh e1;have HE2:=Hh e2;have HLc:=Hh hlc;have HRc:=Hh hrc;have HX1:=Hh x1;have HX2:=Hh x2;clear e1 e2 hlc hrc x1 x2 n1 n2 ha1;have e1:=HFr.out.cell HE1.out (fun q=>q);go_wp2;clear e1;go_loopw [33] (fun i wq=>∃j:Nat,i=.int .i64 j/\j≤NL[k].1.length/\RowIs 4 encB wq w.heap.size (zaz m (NL[k].1.take j))/\Fr NoM w wq) (fun i _=>NL[k].1.length-(intOf i).toNat)
    case atStart=>exact⟨0,rfl,Nat.zero_le _,HRow.out,HFr.out⟩
    case round =>
     obtain⟨j,rfl,hj,hrow,hfr⟩:=hrel;by_cases hlt:j<NL[k].1.length
     ·have hx:=HX1.out NL[k].1[j] (List.getElem_mem _)
      obtain⟨b2,o2,ha2,d2⟩:=HLc.out j NL[k].1[j] (by simp);have d2':=hfr.cell d2 (fun q=>q);unfold encN at d2';have ix2:=zaa la NL[k].1.length lc j b2 o2 hlt ha2;have ix3:=HIx.out NL[k].1[j] (by omega);have hml:(zaz m (NL[k].1.take j)).length=NL.length:=by rw[zah];exact HM.out
      have k1:=hrow.cell NL[k].1[j] (by omega);have z1:=hrow.frozen NL[k].1[j];have hset:(zaz m (NL[k].1.take j)).set NL[k].1[j] true=zaz m (NL[k].1.take (j+1)):=by rw[List.take_succ_eq_append_getElem hlt,zf0]
      have hnew:=hrow.set NL[k].1[j] true;rw[hset]at hnew;have hfr2:=hfr.setCell ⟨w.heap.size,NL[k].1[j],none⟩ (encB true) (fun h=>absurd h (Nat.lt_irrefl _));have HNew:=Hh hnew;have HF2:=Hh hfr2;clear hset hnew hfr2 hrow hfr d2 ha2;go_wp2;go_roundw
      case rel=>exact⟨j+1,by go_num,by omega,HNew.out,HF2.out⟩
      case measure=>simp[intOf];omega
     ·have hj':j=NL[k].1.length:=by omega
      subst hj';rw[List.take_length]at hrow;have HRow1:=Hh hrow;have HFr1:=Hh hfr;clear hrow hfr HRow HFr;have e2:=HFr1.out.cell HE2.out (fun q=>q);go_wp2;clear e2;go_loopw [47] (fun i wq=>∃j:Nat,i=.int .i64 j/\j≤NL[k].2.length/\RowIs 4 encB wq w.heap.size (zaz (zaz m NL[k].1) (NL[k].2.take j))/\Fr NoM w wq) (fun i _=>NL[k].2.length-(intOf i).toNat)
      case atStart=>exact⟨0,rfl,Nat.zero_le _,HRow1.out,HFr1.out⟩
      case round =>
       clear HRow1 HFr1;obtain⟨j,rfl,hj,hrow,hfr⟩:=hrel;by_cases hlt:j<NL[k].2.length
       ·have hx:=HX2.out NL[k].2[j] (List.getElem_mem _)
        obtain⟨b2,o2,ha2,d2⟩:=HRc.out j NL[k].2[j] (by simp);have d2':=hfr.cell d2 (fun q=>q);unfold encN at d2';have ix2:=zaa ra NL[k].2.length rc j b2 o2 hlt ha2;have ix3:=HIx.out NL[k].2[j] (by omega);have hml:(zaz (zaz m NL[k].1) (NL[k].2.take j)).length=NL.length:=by rw[zah,zah];exact HM.out
        have k1:=hrow.cell NL[k].2[j] (by omega);have z1:=hrow.frozen NL[k].2[j];have hset:(zaz (zaz m NL[k].1) (NL[k].2.take j)).set NL[k].2[j] true=zaz (zaz m NL[k].1) (NL[k].2.take (j+1)):=by rw[List.take_succ_eq_append_getElem hlt,zf0]
        have hnew:=hrow.set NL[k].2[j] true;rw[hset]at hnew;have hfr2:=hfr.setCell ⟨w.heap.size,NL[k].2[j],none⟩ (encB true) (fun h=>absurd h (Nat.lt_irrefl _));have HNew:=Hh hnew;have HF2:=Hh hfr2;clear hset hnew hfr2 hrow hfr d2 ha2;go_wp2;go_roundw
        case rel=>exact⟨j+1,by go_num,by omega,HNew.out,HF2.out⟩
        case measure=>simp[intOf];omega
       ·have hj':j=NL[k].2.length:=by omega
        subst hj';rw[List.take_length]at hrow;have HRow2:=Hh hrow;have HFr2:=Hh hfr;have HM2:=Hh (show(zaz (zaz m NL[k].1) NL[k].2).length=NL.length by rw[zah,zah];exact HM.out);clear hrow hfr;go_wp2;go_roundw
        case rel=>exact⟨k,_,by go_num,by omega,HM2.out,HRow2.out,HRe1.out,HFr2.out⟩
        case measure=>simp[intOf]
   ·have hre:=HRe.out
    rw[if_neg hmk]at hre;have hmk':m[k]=false:=by simpa using hmk
    rw[hmk']at d0;unfold encB at d0;have HRe1:=Hh hre;clear HRe hre hmk hmk';go_wp2;go_roundw
    case rel=>exact⟨k,m,by go_num,by omega,HM.out,HRow.out,HRe1.out,HFr.out⟩
    case measure=>simp[intOf]
end Go.Proofs.YtkofnbjjbcohgaaGreatDoor
