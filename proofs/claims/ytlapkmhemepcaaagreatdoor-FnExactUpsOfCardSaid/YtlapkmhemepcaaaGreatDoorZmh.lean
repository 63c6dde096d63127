import Derived.RegionTactic
import Derived.Test.YtlapkmhemepcaaaGreatDoorZmq
/- Lemmas. -/
namespace Go.Proofs.YtlapkmhemepcaaaGreatDoor
set_option linter.unusedVariables false
set_option linter.unusedSimpArgs false
open Go.RowKit
def risP (last below:Int):List Int→Bool
 | []=>true
 | x::l=>decide (last<x) && (decide (x<below) && risP x below l)
set_option maxHeartbeats 1000000 in
theorem zm3 (lv:Value)(L:List Int)(n:Nat)(w:World)(hL:Ints w lv L) :
  Calls Tryz.prog 106 #[lv,.int .i64 (n:Int)] w fun e w'=>e=.returned (.bool (decide (L.length≤24) && risP (-1) n L))/\w'=w:=by
 obtain⟨la,lc,rfl,hlc,hlcm,hL⟩:=hL;have HL:=Hh hL;clear hL;by_cases hbig:24<L.length
 ·have hr:(decide (L.length≤24) && risP (-1) n L)=false:=by rw[decide_eq_false (by omega)];rfl
  rw[hr];clear hr;go_enter Tryz.func106,Tryz.ntmps106;go_wp2;go_ret;exact⟨rfl,rfl⟩
 ·have hr:(decide (L.length≤24) && risP (-1) n L)=risP (-1) n L:=by rw[decide_eq_true (by omega)];rfl
  rw[hr];clear hr;obtain⟨res,hres⟩:∃res,res=risP (-1) n L:=⟨_,rfl⟩;rw[←hres];have HRes:=Hh hres;clear hres;go_enter Tryz.func106,Tryz.ntmps106;go_wp2;go_loop [5,13] (fun l i=>∃(k:Nat) (last:Int),k≤L.length/\l=.int .i64 last/\i=.int .i64 k/\res=risP last n (L.drop k)) (fun _ i=>L.length-(intOf i).toNat)
  case atStart=>exact⟨0,-1,by omega,rfl,rfl,HRes.out⟩
  case round =>
   obtain⟨k,last,hk,rfl,rfl,hr⟩:=hrel;by_cases hlt:k<L.length
   ·obtain⟨b1,o1,ha1,hc1⟩:=HL.out k L[k] (by simp)
    have ix1:=za7 la L.length lc k b1 o1 hlt ha1;have hd:L.drop k=L[k]::L.drop (k+1):=List.drop_eq_getElem_cons hlt;rw[hd]at hr;simp only[risP]at hr;obtain⟨x,hx⟩:∃x,x=L[k]:=⟨_,rfl⟩;replace hc1:w.cell? ⟨b1,o1+k,none⟩=some (.int .i64 x):=by rw[hx];exact hc1
    rw[←hx]at hr;clear hd ha1 hx;by_cases h1:x≤last
    ·have hn:res=false:=by rw[hr,decide_eq_false (by omega)];rfl
     have HN:=Hh hn;clear hn hr;go_wp2;go_ret;exact⟨by rw[HN.out];rfl,rfl⟩
    ·by_cases h2:(n:Int)≤x
     ·have hn:res=false:=by rw[hr,decide_eq_false (p:=x<(n:Int)) (by omega)];simp
      have HN:=Hh hn;clear hn hr;go_wp2;go_ret;exact⟨by rw[HN.out];rfl,rfl⟩
     ·have hn:res=risP x n (L.drop (k+1)):=by rw[hr,decide_eq_true (p:=last<x) (by omega),decide_eq_true (p:=x<(n:Int)) (by omega)];simp
      have HN:=Hh hn;clear hn hr;go_wp2;go_round
      case rel=>exact⟨k+1,x,by omega,rfl,by go_num,HN.out⟩
      case measure=>simp[intOf];omega
   ·have hk':k=L.length:=by omega
    have hn:res=true:=by rw[hr,hk',List.drop_length];rfl
    have HN:=Hh hn;clear hn hr hk';go_wp2;go_ret;exact⟨by rw[HN.out];rfl,rfl⟩
theorem ybg (n:Nat)(L:List Int):∀last:Int,-1≤last→risP last n L=zah 0 ((n:Int)-1) (if last=-1 then none else some last) L:=by
 induction L with
 | nil=>intro last _;split <;> rfl
 | cons x l ih =>
  intro last hl;by_cases hx:last<x
  ·have hxne:¬x=-1:=by omega
   have e:=ih x (by omega);rw[if_neg hxne]at e;simp only[risP,e];by_cases hxn:x<(n:Int)
   ·have hb:betw x 0 ((n:Int)-1)=true:=by unfold betw;rw[decide_eq_true_eq];omega
    split
    ·simp[zah,hx,hxn,hb]
    ·simp[zah,hx,hxn,hb]
   ·have hb:betw x 0 ((n:Int)-1)=false:=by unfold betw;rw[decide_eq_false_iff_not];omega
    split
    ·simp[zah,hxn,hb]
    ·simp[zah,hxn,hb]
  ·simp only[risP,decide_eq_false hx,Bool.false_and]
   split
   ·have hb:betw x 0 ((n:Int)-1)=false:=by unfold betw;rw[decide_eq_false_iff_not];omega
    simp[zah,hb]
   ·simp[zah,hx]
theorem zff (lv:Value)(L:List Int)(n:Nat)(w:World)(hL:Ints w lv L) :
  Calls Tryz.prog 106 #[lv,.int .i64 (n:Int)] w fun e w'=>e=.returned (.bool (decide (L.length≤24) && zah 0 ((n:Int)-1) none L))/\w'=w:=by
 have h:=zm3 lv L n w hL;rw[ybg n L (-1) (by omega),if_pos rfl]at h;exact h
theorem zk3 {α:Type}(X:List α)(m:Nat)(v z:α):(X++List.replicate (m+1) z).set X.length v=(X ++ [v])++List.replicate m z:=by
 rw[List.set_append_right _ _ (Nat.le_refl _),Nat.sub_self,List.replicate_succ,List.set_cons_zero];simp
set_option maxHeartbeats 1000000 in
theorem zkn (lv av:Value)(L A:List Nat)(w:World)(hL:Nats w lv L)(hA:Nats w av A)(hlt:∀x∈L,x<A.length)(hl:L.length<1000000000) :
  Calls Tryz.prog 157 #[lv,av] w fun e w'=>e=.returned (.slice (some ⟨w.heap.size,0,none⟩) L.length L.length)/\RowIs 3 encN w' w.heap.size (za1 A L)/\Fr NoM w w':=by
 obtain⟨la,lc,rfl,hlc,hlcm,hL⟩:=hL;obtain⟨aa,ac,rfl,hac,hacm,hA⟩:=hA;have HL:=Hh hL;have HA:=Hh hA;have HLt:=Hh hlt;clear hL hA hlt;have mk:=fun W=>zkz L.length W hl
 go_enter Tryz.func157,Tryz.ntmps157;go_wp2;go_loopw [13] (fun i W=>∃k:Nat,i=.int .i64 k/\k≤L.length/\RowIs 3 encN W w.heap.size (za1 A (L.take k)++List.replicate (L.length-k) 0)/\Fr NoM w W) (fun i _=>L.length-(intOf i).toNat)
 case atStart=>exact⟨0,rfl,Nat.zero_le _,RowIs.made 3 encN w 0 L.length,(Fr.refl NoM w).alloc _⟩
 case round =>
  obtain⟨k,rfl,hk,hrow,hfr⟩:=hrel;obtain⟨w7,rfl⟩:∃w7,w7=wr:=⟨_,rfl⟩;by_cases hkl:k<L.length
  ·obtain⟨b1,o1,ha1,hc1⟩:=HL.out k L[k] (by simp)
   have hx:=HLt.out L[k] (List.getElem_mem _);obtain⟨b2,o2,ha2,hc2⟩:=HA.out L[k] A[L[k]] (by simp);have ix1:=za7 la L.length lc k b1 o1 hkl ha1;have ix2:=za7 aa A.length ac L[k] b2 o2 hx ha2;have ix3:=zfe w.heap.size L.length L.length k hkl;replace hc1:w7.cell? ⟨b1,o1+k,none⟩=some (.int .i64 (L[k]:Int)):=hfr.cell hc1 (fun q=>q)
   replace hc2:w7.cell? ⟨b2,o2+L[k],none⟩=some (.int .i64 (A[L[k]]:Int)):=hfr.cell hc2 (fun q=>q)
   have k3:=hrow.cell k (by simp[za1];omega);have hXl:(za1 A (L.take k)).length=k:=by simp[za1];omega
   have hn1:L.length-k=(L.length-(k+1))+1:=by omega
   have z3:=hrow.frozen k;have hnew:=hrow.set k A[L[k]];have hset:(za1 A (L.take k)++List.replicate (L.length-k) 0).set k A[L[k]]=za1 A (L.take (k+1))++List.replicate (L.length-(k+1)) 0:=by
    have h:=zk3 (za1 A (L.take k)) (L.length-(k+1)) A[L[k]] 0;rw[hXl,←hn1]at h;rw[h,zn6 A L k hkl hx]
   rw[hset]at hnew;have hfr2:=hfr.setCell ⟨w.heap.size,k,none⟩ (encN A[L[k]]) (fun h=>absurd h (Nat.lt_irrefl _));have HNew:=Hh hnew;have HF2:=Hh hfr2;clear hset hnew hfr2 hrow hfr ha1 ha2 hn1 hXl;go_wp2;go_roundw
   case rel=>exact⟨k+1,by go_num,by omega,HNew.out,HF2.out⟩
   case measure=>simp[intOf];omega
  ·have hk':k=L.length:=by omega
   subst hk';rw[List.take_length,Nat.sub_self,List.replicate_zero,List.append_nil]at hrow;have HRow:=Hh hrow;have HFr:=Hh hfr;clear hrow hfr;go_wp2;go_ret;exact⟨rfl,HRow.out,HFr.out⟩
theorem zrt (Fs:List PL)(i:Nat)(h:i<Fs.length):zaz (Fs.take (i+1))=zaz (Fs.take i) ++ [za9 (zaz (Fs.take i)) (za9 (zaz (Fs.take i)) 0 Fs[i].1) Fs[i].2]:=by
 rw[List.take_succ_eq_append_getElem h,ze6]
theorem zy6 (Fs:List PL):OptsOK Fs→∀(j x:Nat),(zaz Fs)[j]?=some x→x≤j:=by
 induction Fs using zda with
 | h0=>intro _ j x h;simp[zaz]at h
 | h1 l a ih =>
  intro ho j x hx;have hl:=zcu l;rw[ze6]at hx;rcases zf9 hx with ⟨hj,hx⟩|⟨rfl,rfl⟩
  ·exact ih ho.cut j x hx
  ·obtain⟨o1,o2⟩:=ho l.length a (by simp)
   rw[hl];exact zk7 _ (ih ho.cut) _ _ _ (zk7 _ (ih ho.cut) _ _ _ (Nat.zero_le _) o1) o2
theorem OptsOK.take {Fs:List PL}(ho:OptsOK Fs)(i:Nat):OptsOK (Fs.take i):=fun j y hy=>ho j y (by
 rw[List.getElem?_take]at hy;split at hy
 ·exact hy
 ·cases hy)
theorem zpe (B L:List Nat)(m0 n j i x bx:Nat)(hi:B.length=i)(hx:L[j]?=some x)(hbx:B[x]?=some bx) :
  (B++za9 B m0 (L.take j)::List.replicate n 0).set i (max (za9 B m0 (L.take j)) (bx+1))=B++za9 B m0 (L.take (j+1))::List.replicate n 0:=by
 subst hi;obtain⟨hj,rfl⟩:=List.getElem?_eq_some_iff.1 hx
 obtain⟨hb,rfl⟩:=List.getElem?_eq_some_iff.1 hbx
 have h:=zd5 B m0 L j hj hb;rw[List.set_append_right _ _ (Nat.le_refl _),Nat.sub_self,List.set_cons_zero];congr 2
 omega
theorem zxp (m bx:Nat):(if (m:Int)<(bx:Int)+1 then (bx:Int)+1 else (m:Int))=((max m (bx+1):Nat):Int):=by split <;> omega
theorem RowIs.at {α:Type}{e:TypeId}{enc:α→Value}{w:World}{g:Nat}{L:List α}(h:RowIs e enc w g L){i:Nat}{x:α}(hx:L[i]?=some x):w.cell? ⟨g,i,none⟩=some (enc x):=by
 obtain⟨hi,rfl⟩:=List.getElem?_eq_some_iff.1 hx
 exact h.cell i hi
set_option maxRecDepth 4000 in
set_option maxHeartbeats 4000000 in
theorem zuy {R:Nat→Prop}(nv:Value)(Fs:List PL)(w:World)(h:NodeL R encN w nv Fs)(ho:OptsOK Fs)(hn:Fs.length<1000000000) :
  Calls Tryz.prog 107 #[nv] w fun e w'=>e=.returned (.slice (some ⟨w.heap.size,0,none⟩) Fs.length Fs.length)/\RowIs 3 encN w' w.heap.size (zaz Fs)/\Fr NoM w w':=by
 obtain⟨na,nc,rfl,hnc,hncm,hN⟩:=h;have mk:=fun W=>zkz Fs.length W hn
 have HN:=Hh hN;have HO:=Hh ho;clear hN ho;go_enter Tryz.func107,Tryz.ntmps107;go_wp2;clear mk;go_loopw [15] (fun t W=>∃i:Nat,t=.int .i64 i/\i≤Fs.length/\RowIs 3 encN W w.heap.size (zaz (Fs.take i)++List.replicate (Fs.length-i) 0)/\Fr NoM w W) (fun t _=>Fs.length-(intOf t).toNat)
 case atStart=>exact⟨0,rfl,Nat.zero_le _,RowIs.made 3 encN w 0 Fs.length,(Fr.refl NoM w).alloc _⟩
 case round =>
  obtain⟨i,rfl,hi,hrow,hfr⟩:=hrel;obtain⟨w7,rfl⟩:∃w7,w7=wr:=⟨_,rfl⟩;by_cases hlt:i<Fs.length
  ·obtain⟨b1,o1,lv,rv,ha1,_,c1,c2,s1,s2,_,_⟩:=HN.out i Fs[i] (List.getElem?_eq_getElem _)
   obtain⟨p1,p2⟩:=HO.out i Fs[i] (List.getElem?_eq_getElem _);have hle:=zy6 (Fs.take i) (HO.out.take i);have ix1:=zb9 na Fs.length nc i b1 o1 hlt ha1;obtain⟨y,hy⟩:∃y,y=Fs[i]:=⟨_,rfl⟩;obtain⟨B,hB⟩:∃B,B=zaz (Fs.take i):=⟨_,rfl⟩;have hBl:B.length=i:=by rw[hB,zcu];simp;omega
   have hnext:=zrt Fs i hlt;rw[←hB]at hrow hnext hle;rw[←hy]at s1 s2 p1 p2 hnext;obtain⟨la,lc,rfl,hlc⟩:=zee s1;obtain⟨ra,rc,rfl,hrc⟩:=zee s2;have d1:=hfr.cell c1 (fun q=>q);have d2:=hfr.cell c2 (fun q=>q);have hsz:w.heap.size<w7.heap.size:=(Array.getElem?_eq_some_iff.1 hrow).1;obtain⟨n1,hn1⟩:∃n1,Fs.length-i=n1+1:=⟨Fs.length-i-1,by omega⟩;have hL9:y.1.length≤9223372036854775807:=by obtain⟨a,c,_,h1,h2,_⟩:=s1;omega
   have hR9:y.2.length≤9223372036854775807:=by obtain⟨a,c,_,h1,h2,_⟩:=s2;omega
   have hBb:∀x∈B,x<1000000000:=fun x hx=>by
    obtain⟨j,hj,rfl⟩:=List.getElem_of_mem hx;have:=hle j _ (List.getElem?_eq_getElem hj);omega
   rw[hn1,List.replicate_succ]at hrow;have HRow:=Hh hrow;have HFr:=Hh hfr;have HLc:=Hh hlc;have HRc:=Hh hrc;have HP1:=Hh p1;have HP2:=Hh p2;have HBl:=Hh hBl;have HNext:=Hh hnext;have HN1:=Hh hn1;have HSz:=Hh hsz;have HBb:=Hh hBb;clear hrow hfr hlc hrc p1 p2 hBl hnext hn1 hsz hBb hle ha1 c1 c2 s1 s2 hy hB;go_wp2;obtain⟨w8,hw8⟩:∃w8,w8=w7.alloc (.cells #[.slice la y.1.length lc,.slice ra y.2.length rc] 102):=⟨_,rfl⟩;have hf8:Fr NoM w7 w8:=by rw[hw8];exact(Fr.refl NoM w7).alloc _
   have hb8:w8.heap[w7.heap.size]?=some (.cells #[.slice la y.1.length lc,.slice ra y.2.length rc] 102 (0,0)):=by rw[hw8];exact heap_alloc_new w7 _
   rw[←hw8];have HF8:=Hh hf8;have HB8:=Hh hb8;clear hf8 hb8 hw8 d1 d2;go_loopw [23] (fun t W=>∃j:Nat,t=.int .i64 j/\j≤y.1.length/\RowIs 3 encN W w.heap.size (B++za9 B 0 (y.1.take j)::List.replicate n1 0)/\Fr (fun q=>q=w.heap.size) w8 W) (fun t _=>y.1.length-(intOf t).toNat)
   case atStart=>exact⟨0,rfl,Nat.zero_le _,HRow.out.fr HF8.out (fun q=>q),Fr.refl _ _⟩
   case round =>
    obtain⟨j,rfl,hj,hrow,hfr⟩:=hrel;obtain⟨w9,rfl⟩:∃w9,w9=wr:=⟨_,rfl⟩;have f9:Fr (fun q=>q=w.heap.size) w w9:=((HFr.out.trans HF8.out (fun _ _ q=>q)).any).trans hfr (fun _ _ q=>q);by_cases hjl:j<y.1.length
    ·obtain⟨x,hxx⟩:∃x,y.1[j]?=some x:=⟨_,List.getElem?_eq_getElem hjl⟩
     have hx:=HP1.out x (List.mem_of_getElem? hxx);have hBl:=HBl.out;obtain⟨bx,hbx⟩:∃bx,B[x]?=some bx:=⟨_,List.getElem?_eq_getElem (by omega)⟩;obtain⟨b2,o2,ha2,e2⟩:=HLc.out j x hxx;have hb2:=World.block_lt_of_cell? w _ e2;replace e2:w9.cell? ⟨b2,o2+j,none⟩=some (.int .i64 (x:Int)):=f9.cell e2 (fun q=>by have q:b2=w.heap.size:=q;have hb2:b2<w.heap.size:=hb2;omega)
     have ix2:=za7 la y.1.length lc j b2 o2 hjl ha2;have ix3:=zfe w.heap.size Fs.length Fs.length i hlt;have ix4:=zfe w.heap.size Fs.length Fs.length x (by omega);have k1:w9.cell? ⟨w.heap.size,i,none⟩=some (.int .i64 ((za9 B 0 (y.1.take j):Nat):Int)):=hrow.at (by rw[List.getElem?_append_right (by omega),hBl,Nat.sub_self];rfl);have k2:w9.cell? ⟨w.heap.size,x,none⟩=some (.int .i64 (bx:Int)):=hrow.at (by rw[List.getElem?_append_left (by omega)];exact hbx);have z1:=hrow.frozen i;have hmb:bx<1000000000:=HBb.out _ (List.mem_of_getElem? hbx);have hnew:=hrow.set i (max (za9 B 0 (y.1.take j)) (bx+1));rw[zpe B y.1 0 n1 j i x bx hBl hxx hbx]at hnew;obtain⟨m,hm⟩:∃m,m=za9 B 0 (y.1.take j):=⟨_,rfl⟩;rw[←hm]at k1 hnew;have HNew:=Hh hnew;have HFr9:=Hh hfr;clear hnew hrow hfr f9 ha2 hb2 hx hBl hbx hxx hm;go_wp2_with fail;go_region;all_goals
      go_wp2;go_roundw
      case rel =>
       refine⟨j+1,by go_num,by omega,?_,?_⟩
       ·(first|rw[zxp m bx]|rw[show max (m:Int) ((bx:Int)+1)=((max m (bx+1):Nat):Int)from by omega]);exact HNew.out.fr ((Fr.refl NoM _).drew) (fun q=>q)
       ·exact(HFr9.out.setCell _ _ (fun _=>rfl)).drew
      case measure=>simp[intOf];omega
    ·have hj':j=y.1.length:=by omega
     subst hj';rw[List.take_length]at hrow;have hne:¬w7.heap.size=w.heap.size:=by have:=HSz.out;omega
     have d9:w9.cell? ⟨w7.heap.size,1,none⟩=some (.slice ra y.2.length rc):=by rw[cell_of_row w9 _ 1 _ _ _ (hfr.heap HB8.out hne)];rfl
     obtain⟨m0,hm0⟩:∃m0,m0=za9 B 0 y.1:=⟨_,rfl⟩;rw[←hm0]at hrow;have HRow9:=Hh hrow;have F9:=Hh f9;have HM0:=Hh hm0;clear hrow hfr f9 hne hm0;go_wp2;clear d9;go_loopw [44] (fun t W=>∃j:Nat,t=.int .i64 j/\j≤y.2.length/\RowIs 3 encN W w.heap.size (B++za9 B m0 (y.2.take j)::List.replicate n1 0)/\Fr (fun q=>q=w.heap.size) w W) (fun t _=>y.2.length-(intOf t).toNat)
     case atStart=>exact⟨0,rfl,Nat.zero_le _,HRow9.out,F9.out⟩
     case round =>
      obtain⟨j,rfl,hj,hrow,hfr⟩:=hrel;obtain⟨w10,rfl⟩:∃w10,w10=wr:=⟨_,rfl⟩;by_cases hjl:j<y.2.length
      ·obtain⟨x,hxx⟩:∃x,y.2[j]?=some x:=⟨_,List.getElem?_eq_getElem hjl⟩
       have hx:=HP2.out x (List.mem_of_getElem? hxx);have hBl:=HBl.out;obtain⟨bx,hbx⟩:∃bx,B[x]?=some bx:=⟨_,List.getElem?_eq_getElem (by omega)⟩;obtain⟨b2,o2,ha2,e2⟩:=HRc.out j x hxx;have hb2:=World.block_lt_of_cell? w _ e2;replace e2:w10.cell? ⟨b2,o2+j,none⟩=some (.int .i64 (x:Int)):=hfr.cell e2 (fun q=>by have q:b2=w.heap.size:=q;have hb2:b2<w.heap.size:=hb2;omega)
       have ix2:=za7 ra y.2.length rc j b2 o2 hjl ha2;have ix3:=zfe w.heap.size Fs.length Fs.length i hlt;have ix4:=zfe w.heap.size Fs.length Fs.length x (by omega);have k1:w10.cell? ⟨w.heap.size,i,none⟩=some (.int .i64 ((za9 B m0 (y.2.take j):Nat):Int)):=hrow.at (by rw[List.getElem?_append_right (by omega),hBl,Nat.sub_self];rfl);have k2:w10.cell? ⟨w.heap.size,x,none⟩=some (.int .i64 (bx:Int)):=hrow.at (by rw[List.getElem?_append_left (by omega)];exact hbx);have z1:=hrow.frozen i;have hmb:bx<1000000000:=HBb.out _ (List.mem_of_getElem? hbx);have hnew:=hrow.set i (max (za9 B m0 (y.2.take j)) (bx+1));rw[zpe B y.2 m0 n1 j i x bx hBl hxx hbx]at hnew;obtain⟨m,hm⟩:∃m,m=za9 B m0 (y.2.take j):=⟨_,rfl⟩;rw[←hm]at k1 hnew;have HNew:=Hh hnew;have HFr9:=Hh hfr;clear hnew hrow hfr ha2 hb2 hx hBl hbx hxx hm;go_wp2_with fail;go_region;all_goals
        go_wp2;go_roundw
        case rel =>
         refine⟨j+1,by go_num,by omega,?_,?_⟩
         ·(first|rw[zxp m bx]|rw[show max (m:Int) ((bx:Int)+1)=((max m (bx+1):Nat):Int)from by omega]);exact HNew.out.fr ((Fr.refl NoM _).drew) (fun q=>q)
         ·exact(HFr9.out.setCell _ _ (fun _=>rfl)).drew
        case measure=>simp[intOf];omega
      ·have hj':j=y.2.length:=by omega
       subst hj';rw[List.take_length,HM0.out]at hrow;have hrow':RowIs 3 encN w10 w.heap.size (zaz (Fs.take (i+1))++List.replicate (Fs.length-(i+1)) 0):=by
        rw[HNext.out,List.append_assoc,show Fs.length-(i+1)=n1 from by have:=HN1.out;omega];exact hrow
       have HRow10:=Hh hrow';have HFr10:=Hh hfr;clear hrow hrow' hfr;go_wp2;go_roundw
       case rel=>exact⟨i+1,by go_num,by omega,HRow10.out,HFr10.out.mono (fun q hq e=>absurd e (by omega))⟩
       case measure=>simp[intOf];omega
  ·have hi':i=Fs.length:=by omega
   subst hi';rw[List.take_length,Nat.sub_self,List.replicate_zero,List.append_nil]at hrow;have HRow:=Hh hrow;have HFr:=Hh hfr;clear hrow hfr;go_wp2;go_ret;exact⟨rfl,HRow.out,HFr.out⟩
def zn9 (Fs:List PL)(n root:Nat):List Bool:=zbu Fs (root+1) ((List.replicate n false).set root true)
set_option maxRecDepth 4000 in
set_option maxHeartbeats 4000000 in
theorem zyk {R:Nat→Prop}(nv:Value)(root:Nat)(NL:List PL)(w:World)(hN:NodeL R encN w nv NL)(hr:root<NL.length)(hopt:OptsOK NL)(hn:NL.length<1000000000) :
  Calls Tryz.prog 111 #[nv,.int .i64 (root:Int)] w fun e w'=>e=.returned (.slice (some ⟨w.heap.size,0,none⟩) NL.length NL.length)/\RowIs 4 encB w' w.heap.size (zn9 NL NL.length root)/\Fr NoM w w':=by
 obtain⟨na,nc,rfl,hnc,hncm,hnn⟩:=hN;have hmk:∀W:World,(Instr.makeSlice 103 (.int .i64 (NL.length:Int)) (.int .i64 (NL.length:Int))).run Tryz.prog W=.ok (.slice (some ⟨W.heap.size,0,none⟩) NL.length NL.length) (W.alloc (.cells (zca encB false NL.length) 4)):=by
  intro W;obtain⟨i0,hi,hz0,hz1,hz2⟩:=info_parts zk0;have h:=run_make (P:=Tryz.prog) W 103 4 i0 (.bool false) Tryz.underlying103 hi hz0 .i64 .i64 (NL.length:Int) (NL.length:Int) (by omega) (by omega) (by rw[hz2];omega) (by omega);rw[h,hz1,show((NL.length:Int)).toNat=NL.length from by omega,Nat.mul_one];have:madeCells (Value.cells (.bool false)) NL.length=(zca encB false NL.length):=by
   apply Array.ext'
   unfold zca;rw[List.toList_toArray,madeCells,Array.toList_map,Array.toList_range];refine(List.eq_replicate_iff.2 ⟨by simp,fun b hb=>?_⟩:_=List.replicate NL.length (Value.bool false)).trans (by simp[encB]);obtain⟨y,_,rfl⟩:=List.mem_map.1 hb;simp[Value.cells,Nat.mod_one]
  rw[this]
 have ix0:=fun W=>zfx w.heap.size NL.length NL.length root hr W
 have HNn:=Hh hnn;have Hopt:=Hh hopt;have r0:=RowIs.made 4 encB w false NL.length;have z0:=r0.frozen root;have k0:=r0.cell root (by simpa using hr);have R0:=Hh r0;clear hnn hopt r0;go_enter Tryz.func111,Tryz.ntmps111;go_wp2;go_loopw [6] (fun i wr=>∃(n:Nat) (m:List Bool),i=.int .i64 ((n:Int)-1)/\n≤root+1/\m.length=NL.length/\RowIs 4 encB wr w.heap.size m/\zbu NL n m=zn9 NL NL.length root/\Fr NoM w wr) (fun i _=>(intOf i+1).toNat)
 case atStart=>exact⟨root+1,(List.replicate NL.length false).set root true,by go_num,Nat.le_refl _,by simp,RowIs.made1 4 encB w false true NL.length root,rfl,(Fr.refl NoM w).alloc _⟩
 case round =>
  obtain⟨n,m,rfl,hn',hm,hrow,hre,hfr⟩:=hrel;cases n with
  | zero =>
   have HRow:=Hh hrow;have HRe:=Hh hre;have HFr:=Hh hfr;clear hrow hre hfr;go_wp2;go_ret;refine⟨by simp,?_,HFr.out⟩;rw[←HRe.out];exact HRow.out
  | succ k =>
   rw[show(((k+1:Nat):Int)-1)=(k:Int)from by omega];have hkm:k<m.length:=by omega
   have hkN:k<NL.length:=by omega
   have ixm:=fun(j:Nat) (hj:j<NL.length) W=>zfx w.heap.size NL.length NL.length j hj W
   have ixk:=ixm k (by omega);have d0:=hrow.cell k hkm;have hstep:zcm NL m k=if m[k]=true then zbe (zbe m NL[k].1) NL[k].2 else m:=by
    simp only[zcm,List.getD_eq_getElem?_getD,List.getElem?_eq_getElem hkm,List.getElem?_eq_getElem hkN,Option.getD_some]
   unfold zbu at hre;rw[hstep]at hre;have HIx:=Hh ixm;have HRow:=Hh hrow;have HRe:=Hh hre;have HFr:=Hh hfr;have HM:=Hh hm;clear ixm hrow hre hfr hm hstep;by_cases hmk:m[k]=true
   ·have hre:=HRe.out
    rw[if_pos hmk]at hre;rw[hmk]at d0;unfold encB at d0;have HRe1:=Hh hre;clear HRe hre hmk;obtain⟨b1,o1,lv,rv,ha1,_,e1,e2,n1,n2,_,_⟩:=HNn.out k NL[k] (List.getElem?_eq_getElem _);obtain⟨x1,x2⟩:=Hopt.out k NL[k] (List.getElem?_eq_getElem _);have ix:=zb9 na NL.length nc k b1 o1 hkN ha1;have hL9:NL[k].1.length≤9223372036854775807:=by obtain⟨a,c,_,h1,h2,_⟩:=n1;omega
    have hR9:NL[k].2.length≤9223372036854775807:=by obtain⟨a,c,_,h1,h2,_⟩:=n2;omega
    obtain⟨la,lc,rfl,hlc⟩:=zee n1;obtain⟨ra,rc,rfl,hrc⟩:=zee n2;have HE1:=Hh e1;have HE2:=Hh e2;have HLc:=Hh hlc;have HRc:=Hh hrc;have HX1:=Hh x1;have HX2:=Hh x2;clear e1 e2 hlc hrc x1 x2 n1 n2 ha1;have e1:=HFr.out.cell HE1.out (fun q=>q);go_wp2;clear e1;go_loopw [33] (fun i wq=>∃j:Nat,i=.int .i64 j/\j≤NL[k].1.length/\RowIs 4 encB wq w.heap.size (zbe m (NL[k].1.take j))/\Fr NoM w wq) (fun i _=>NL[k].1.length-(intOf i).toNat)
    case atStart=>exact⟨0,rfl,Nat.zero_le _,HRow.out,HFr.out⟩
    case round =>
     obtain⟨j,rfl,hj,hrow,hfr⟩:=hrel;by_cases hlt:j<NL[k].1.length
     ·have hx:=HX1.out NL[k].1[j] (List.getElem_mem _)
      obtain⟨b2,o2,ha2,d2⟩:=HLc.out j NL[k].1[j] (by simp);have d2':=hfr.cell d2 (fun q=>q);unfold encN at d2';have ix2:=za7 la NL[k].1.length lc j b2 o2 hlt ha2;have ix3:=HIx.out NL[k].1[j] (by omega);have hml:(zbe m (NL[k].1.take j)).length=NL.length:=by rw[zax];exact HM.out
      have k1:=hrow.cell NL[k].1[j] (by omega);have z1:=hrow.frozen NL[k].1[j];have hset:(zbe m (NL[k].1.take j)).set NL[k].1[j] true=zbe m (NL[k].1.take (j+1)):=by rw[List.take_succ_eq_append_getElem hlt,zgb]
      have hnew:=hrow.set NL[k].1[j] true;rw[hset]at hnew;have hfr2:=hfr.setCell ⟨w.heap.size,NL[k].1[j],none⟩ (encB true) (fun h=>absurd h (Nat.lt_irrefl _));have HNew:=Hh hnew;have HF2:=Hh hfr2;clear hset hnew hfr2 hrow hfr d2 ha2;go_wp2;go_roundw
      case rel=>exact⟨j+1,by go_num,by omega,HNew.out,HF2.out⟩
      case measure=>simp[intOf];omega
     ·have hj':j=NL[k].1.length:=by omega
      subst hj';rw[List.take_length]at hrow;have HRow1:=Hh hrow;have HFr1:=Hh hfr;clear hrow hfr HRow HFr;have e2:=HFr1.out.cell HE2.out (fun q=>q);go_wp2;clear e2;go_loopw [47] (fun i wq=>∃j:Nat,i=.int .i64 j/\j≤NL[k].2.length/\RowIs 4 encB wq w.heap.size (zbe (zbe m NL[k].1) (NL[k].2.take j))/\Fr NoM w wq) (fun i _=>NL[k].2.length-(intOf i).toNat)
      case atStart=>exact⟨0,rfl,Nat.zero_le _,HRow1.out,HFr1.out⟩
      case round =>
       clear HRow1 HFr1;obtain⟨j,rfl,hj,hrow,hfr⟩:=hrel;by_cases hlt:j<NL[k].2.length
       ·have hx:=HX2.out NL[k].2[j] (List.getElem_mem _)
        obtain⟨b2,o2,ha2,d2⟩:=HRc.out j NL[k].2[j] (by simp);have d2':=hfr.cell d2 (fun q=>q);unfold encN at d2';have ix2:=za7 ra NL[k].2.length rc j b2 o2 hlt ha2;have ix3:=HIx.out NL[k].2[j] (by omega);have hml:(zbe (zbe m NL[k].1) (NL[k].2.take j)).length=NL.length:=by rw[zax,zax];exact HM.out
        have k1:=hrow.cell NL[k].2[j] (by omega);have z1:=hrow.frozen NL[k].2[j];have hset:(zbe (zbe m NL[k].1) (NL[k].2.take j)).set NL[k].2[j] true=zbe (zbe m NL[k].1) (NL[k].2.take (j+1)):=by rw[List.take_succ_eq_append_getElem hlt,zgb]
        have hnew:=hrow.set NL[k].2[j] true;rw[hset]at hnew;have hfr2:=hfr.setCell ⟨w.heap.size,NL[k].2[j],none⟩ (encB true) (fun h=>absurd h (Nat.lt_irrefl _));have HNew:=Hh hnew;have HF2:=Hh hfr2;clear hset hnew hfr2 hrow hfr d2 ha2;go_wp2;go_roundw
        case rel=>exact⟨j+1,by go_num,by omega,HNew.out,HF2.out⟩
        case measure=>simp[intOf];omega
       ·have hj':j=NL[k].2.length:=by omega
        subst hj';rw[List.take_length]at hrow;have HRow2:=Hh hrow;have HFr2:=Hh hfr;have HM2:=Hh (show(zbe (zbe m NL[k].1) NL[k].2).length=NL.length by rw[zax,zax];exact HM.out);clear hrow hfr;go_wp2;go_roundw
        case rel=>exact⟨k,_,by go_num,by omega,HM2.out,HRow2.out,HRe1.out,HFr2.out⟩
        case measure=>simp[intOf]
   ·have hre:=HRe.out
    rw[if_neg hmk]at hre;have hmk':m[k]=false:=by simpa using hmk
    rw[hmk']at d0;unfold encB at d0;have HRe1:=Hh hre;clear HRe hre hmk hmk';go_wp2;go_roundw
    case rel=>exact⟨k,m,by go_num,by omega,HM.out,HRow.out,HRe1.out,HFr.out⟩
    case measure=>simp[intOf]
structure OrdR (w:World) (ob bb kb:Nat) (NL:List PL) (K:List Nat):Prop where
 o0:w.cell? ⟨ob,0,none⟩=some (.pointer (some ⟨bb,0,none⟩))
 o1:w.cell? ⟨ob,1,none⟩=some (.slice (some ⟨kb,0,none⟩) (NL.length*NL.length) (NL.length*NL.length))
 nv:∃v,w.cell? ⟨bb,0,none⟩=some v/\NodeL (·≠kb) encN w v NL
 n1:ob≠kb
 n2:bb≠kb
 row:RowIs 3 encN w kb K
 len:K.length=NL.length*NL.length
theorem OrdR.fr {w w':World}{ob bb kb:Nat}{NL:List PL}{K K':List Nat}(h:OrdR w ob bb kb NL K)(hf:Fr (fun q=>q=kb) w w')(hr:RowIs 3 encN w' kb K')(hl:K'.length=NL.length*NL.length):OrdR w' ob bb kb NL K':=by
 obtain⟨v,hv,hn⟩:=h.nv;exact⟨hf.cell h.o0 h.n1,hf.cell h.o1 h.n1,⟨v,hf.cell hv h.n2,hn.fr hf (fun k hk=>hk)⟩,h.n1,h.n2,hr,hl⟩
theorem OrdR.fr0 {w w':World}{ob bb kb:Nat}{NL:List PL}{K:List Nat}(h:OrdR w ob bb kb NL K)(hf:Fr NoM w w'):OrdR w' ob bb kb NL K:=h.fr hf.any (h.row.fr hf (fun q=>q)) h.len
def KOK (C:List Nat)(N n:Nat)(K:List Nat):Prop :=
 ∀i j,i<N→j<N→i+j<n→K.getD (i*N+j) 0=0∨(K.getD (i*N+j) 0=1/\geV C i j=true)∨(K.getD (i*N+j) 0=2/\geV C i j=false)
def KSame (N n:Nat)(K K':List Nat):Prop:=∀i j,i<N→j<N→n≤i+j→K'.getD (i*N+j) 0=K.getD (i*N+j) 0
theorem zks {N i j x y:Nat}(hj:j<N)(hy:y<N)(h:i*N+j=x*N+y):i=x/\j=y:=by
 have h1:(i*N+j)%N=j:=by rw[Nat.mul_comm,Nat.mul_add_mod,Nat.mod_eq_of_lt hj]
 have h2:(x*N+y)%N=y:=by rw[Nat.mul_comm,Nat.mul_add_mod,Nat.mod_eq_of_lt hy]
 have hjy:j=y:=by rw[←h1,←h2,h]
 subst hjy;have h3:i*N=x*N:=by omega
 exact⟨Nat.eq_of_mul_eq_mul_right (by omega) h3,rfl⟩
theorem ybq {N x y:Nat}(hx:x<N)(hy:y<N):x*N+y<N*N:=by
 have:x*N+N≤N*N:=by
  have:=Nat.mul_le_mul_right N (show x+1≤N from hx);rwa [Nat.succ_mul]at this
 omega
theorem KOK.mono {C K:List Nat}{N n m:Nat}(h:KOK C N n K)(hm:m≤n):KOK C N m K:=fun i j hi hj hl=>h i j hi hj (by omega)
theorem KOK.step {C K K':List Nat}{N n m:Nat}(h:KOK C N n K)(h':KOK C N m K')(hs:KSame N m K K'):KOK C N n K':=fun i j hi hj hl=>by
 by_cases hm:i+j<m
 ·exact h' i j hi hj hm
 ·rw[hs i j hi hj (by omega)];exact h i j hi hj hl
theorem KSame.trans {N n m:Nat}{K K' K'':List Nat}(h:KSame N n K K')(h':KSame N m K' K'')(hm:m≤n):KSame N n K K'':=fun i j hi hj hl=>(h' i j hi hj (by omega)).trans (h i j hi hj hl)
theorem zge (K:List Nat)(a b v:Nat):(K.set a v).getD b 0=if a=b/\a<K.length then v else K.getD b 0:=by
 rw[List.getD_eq_getElem?_getD,List.getD_eq_getElem?_getD,List.getElem?_set];by_cases e:a=b
 ·subst e
  by_cases h:a<K.length
  ·simp[h]
  ·simp[h]
 ·simp[e]
def ydm (C:List Nat)(NL:List PL)(ob bb kb x y:Nat):Prop:=∀(K:List Nat) (w:World),OrdR w ob bb kb NL K→KOK C NL.length (x+y+1) K →
  Calls Tryz.prog 190 #[.pointer (some ⟨ob,0,none⟩),.int .i64 (x:Int),.int .i64 (y:Int)] w fun e w'=>e=.returned (.bool (geV C x y))/\∃K',OrdR w' ob bb kb NL K'∧KOK C NL.length (x+y+1) K'∧KSame NL.length (x+y+1) K K'∧Fr (fun q=>q=kb) w w'
set_option maxHeartbeats 4000000 in
theorem zzv {C:List Nat}{NL:List PL}(B:BookC NL C)(ob bb kb x y:Nat)(hx:x<NL.length)(hy:y<NL.length)(hN:NL.length<1000)
  (ih:∀a b,a+b<x+y→a<NL.length→b<NL.length→ydm C NL ob bb kb a b) (K:List Nat) (w:World) (hO:OrdR w ob bb kb NL K) (hK:KOK C NL.length (x+y) K) :
  Calls Tryz.prog 202 #[.pointer (some ⟨ob,0,none⟩),.int .i64 (x:Int),.int .i64 (y:Int)] w fun e w'=>e=.returned (.bool (geV C x y))/\∃K',OrdR w' ob bb kb NL K'∧KOK C NL.length (x+y) K'∧KSame NL.length (x+y) K K'∧Fr (fun q=>q=kb) w w':=by
 obtain⟨res,hres⟩:∃res,res=geV C x y:=⟨_,rfl⟩;rw[←hres];have hge:=zxs B hx hy;rw[←hres]at hge;obtain⟨v,hv,hn⟩:=hO.nv;obtain⟨na,nc,rfl,hnc,hncm,hn⟩:=hn;obtain⟨b1,o1,l1,r1,hna,hb1,c1,c2,s1,s2,q1,q2⟩:=hn x _ (za6 hx);obtain⟨b2,o2,l2,r2,hnb,hb2,d1,d2,t1,t2,p1,p2⟩:=hn y _ (za6 hy);obtain⟨u1,u2⟩:=B.opts x _ (za6 hx);obtain⟨v1,v2⟩:=B.opts y _ (za6 hy);have ixx:=zb9 na NL.length nc x b1 o1 hx hna;have ixy:=zb9 na NL.length nc y b2 o2 hy hnb;obtain⟨R,hR⟩:∃R,R=(za5 NL x).2:=⟨_,rfl⟩;obtain⟨L,hL⟩:∃L,L=(za5 NL y).1:=⟨_,rfl⟩;rw[←hR]at s2 q2 u2 hge;rw[←hL]at t1 p1 v1 hge;have o0:=hO.o0;have ob1:=hO.n1;have bb1:=hO.n2;have HRd:=Hh (fun(W:World) (f:Fr (fun q=>q=kb) w W)=>show W.cell? ⟨ob,0,none⟩=some (.pointer (some ⟨bb,0,none⟩))/\W.cell? ⟨bb,0,none⟩=some (.slice na NL.length nc)/\W.cell? ⟨b1,o1+x*2+1,none⟩=some r1/\W.cell? ⟨b2,o2+y*2,none⟩=some l2/\Nats W r1 R/\Nats W l2 L from
  ⟨f.cell o0 ob1,f.cell hv bb1,f.cell c2 hb1,f.cell d1 hb2,s2.fr f q2,t1.fr f p1⟩)
 obtain⟨ra,rc,rfl,z⟩:=id s2;clear z;obtain⟨la,lc,rfl,z⟩:=id t1;clear z;have HGe:=Hh hge;have HO:=Hh hO;have HK:=Hh hK;have HIh:=Hh ih;have HU:=Hh u2;have HV:=Hh v1;have hR9:R.length≤9223372036854775807:=by obtain⟨a,c,_,h1,h2,_⟩:=s2;omega
 have hL9:L.length≤9223372036854775807:=by obtain⟨a,c,_,h1,h2,_⟩:=t1;omega
 clear hge hO hK ih u1 u2 v1 v2 hres hv hn hna hnb hb1 hb2 c1 c2 d1 d2 s1 s2 t1 t2 q1 q2 p1 p2 hR hL o0;go_enter Tryz.func202,Tryz.ntmps202;go_wp2_with fail;go_loopw [7] (fun t W=>∃(k:Nat) (K':List Nat),t=.int .i64 k/\k≤R.length/\(∀r∈R.take k,geV C y r=false)/\OrdR W ob bb kb NL K'∧KOK C NL.length (x+y) K'∧KSame NL.length (x+y) K K'∧Fr (fun q=>q=kb) w W) (fun t _=>R.length-(intOf t).toNat)
 case atStart=>exact⟨0,K,rfl,Nat.zero_le _,by simp,HO.out,HK.out,fun _ _ _ _ _=>rfl,Fr.refl _ _⟩
 case round =>
  obtain⟨k,K1,rfl,hk,hall,hO1,hK1,hS1,hf1⟩:=hrel;obtain⟨w7,rfl⟩:∃w7,w7=wr:=⟨_,rfl⟩;obtain⟨e0,e1,e2,e3,e4,e5⟩:=HRd.out w7 hf1;have HAll:=Hh hall;have HO1:=Hh hO1;have HK1:=Hh hK1;have HS1:=Hh hS1;have HF1:=Hh hf1;clear hall hO1 hK1 hS1 hf1;by_cases hkl:k<R.length
  ·obtain⟨r,hr⟩:∃r,R[k]?=some r:=⟨_,List.getElem?_eq_getElem hkl⟩
   have hrx:=HU.out r (List.mem_of_getElem? hr);obtain⟨a',c',ee,_,_,hcc⟩:=e4;cases ee
   obtain⟨b3,o3,ha3,c3⟩:=hcc k r hr;have c3':w7.cell? ⟨b3,o3+k,none⟩=some (.int .i64 (r:Int)):=c3;have ix3:=za7 ra R.length rc k b3 o3 hkl ha3;have hgq:=HIh.out y r (by omega) hy (by omega) K1 w7 HO1.out (HK1.out.mono (by omega));have HGq:=Hh hgq;have HR':=Hh hr;clear hgq hr hcc ha3 c3 e5 e3;go_wp2_with fail;refine HGq.out.mono ?_
   rintro e w8 ⟨rfl,K2,hO2,hK2,hS2,hf2⟩;have HO2:=Hh hO2;have HK2:=Hh (HK1.out.step hK2 hS2);have HS2:=Hh (HS1.out.trans hS2 (by omega));have HF2:=Hh (HF1.out.trans hf2 (fun _ _ q=>q));clear hO2 hK2 hS2 hf2;obtain⟨gb,hgb⟩:∃gb,gb=geV C y r:=⟨_,rfl⟩;rw[←hgb];have HGb:=Hh hgb;clear hgb;cases gb with
   | true =>
    have hn:res=false:=by
     cases hc:res with
     | false=>rfl
     | true=>have:=(HGe.out.1 hc).1 r (List.mem_of_getElem? HR'.out);rw[←HGb.out]at this;cases this
    have HN:=Hh hn;clear hn;go_wp2_with fail;go_ret;exact⟨by rw[HN.out];rfl,K2,HO2.out,HK2.out,HS2.out,HF2.out⟩
   | false =>
    go_wp2_with fail;go_roundw
    case rel=>exact⟨k+1,K2,by go_num,by omega,fun r' hr'=>by
     obtain⟨hkl',ee⟩:=List.getElem?_eq_some_iff.1 HR'.out
     rw[List.take_succ_eq_append_getElem hkl',List.mem_append,List.mem_singleton]at hr';rcases hr' with hr'|hr'
     ·exact HAll.out r' hr'
     ·rw[hr',ee];exact HGb.out.symm,HO2.out,HK2.out,HS2.out,HF2.out⟩
    case measure=>simp[intOf];omega
  ·have hk':k=R.length:=by omega
   subst hk';have hallR:∀r∈R,geV C y r=false:=by have:=HAll.out;rwa [List.take_length]at this
   have HAllR:=Hh hallR;clear hallR HAll e3 e4 e5;go_wp2_with fail;clear e0 e1 e2;go_loopw [8] (fun t W=>∃(k:Nat) (K':List Nat),t=.int .i64 k/\k≤L.length/\(∀l∈L.take k,geV C l x=false)/\OrdR W ob bb kb NL K'∧KOK C NL.length (x+y) K'∧KSame NL.length (x+y) K K'∧Fr (fun q=>q=kb) w W) (fun t _=>L.length-(intOf t).toNat)
   case atStart=>exact⟨0,K1,rfl,Nat.zero_le _,by simp,HO1.out,HK1.out,HS1.out,HF1.out⟩
   case round =>
    clear HO1 HK1 HS1 HF1;obtain⟨k,K1,rfl,hk,hall,hO1,hK1,hS1,hf1⟩:=hrel;obtain⟨w7,rfl⟩:∃w7,w7=wr:=⟨_,rfl⟩;obtain⟨e0,e1,e2,e3,e4,e5⟩:=HRd.out w7 hf1;have HAll:=Hh hall;have HO1:=Hh hO1;have HK1:=Hh hK1;have HS1:=Hh hS1;have HF1:=Hh hf1;clear hall hO1 hK1 hS1 hf1;by_cases hkl:k<L.length
    ·obtain⟨r,hr⟩:∃r,L[k]?=some r:=⟨_,List.getElem?_eq_getElem hkl⟩
     have hrx:=HV.out r (List.mem_of_getElem? hr);obtain⟨a',c',ee,_,_,hcc⟩:=e5;cases ee
     obtain⟨b3,o3,ha3,c3⟩:=hcc k r hr;have c3':w7.cell? ⟨b3,o3+k,none⟩=some (.int .i64 (r:Int)):=c3;have ix3:=za7 la L.length lc k b3 o3 hkl ha3;have hgq:=HIh.out r x (by omega) (by omega) hx K1 w7 HO1.out (HK1.out.mono (by omega));have HGq:=Hh hgq;have HR':=Hh hr;clear hgq hr hcc ha3 c3 e4 e2;go_wp2_with fail;refine HGq.out.mono ?_
     rintro e w8 ⟨rfl,K2,hO2,hK2,hS2,hf2⟩;have HO2:=Hh hO2;have HK2:=Hh (HK1.out.step hK2 hS2);have HS2:=Hh (HS1.out.trans hS2 (by omega));have HF2:=Hh (HF1.out.trans hf2 (fun _ _ q=>q));clear hO2 hK2 hS2 hf2;obtain⟨gb,hgb⟩:∃gb,gb=geV C r x:=⟨_,rfl⟩;rw[←hgb];have HGb:=Hh hgb;clear hgb;cases gb with
     | true =>
      have hn:res=false:=by
       cases hc:res with
       | false=>rfl
       | true=>have:=(HGe.out.1 hc).2 r (List.mem_of_getElem? HR'.out);rw[←HGb.out]at this;cases this
      have HN:=Hh hn;clear hn;go_wp2_with fail;go_ret;exact⟨by rw[HN.out];rfl,K2,HO2.out,HK2.out,HS2.out,HF2.out⟩
     | false =>
      go_wp2_with fail;go_roundw
      case rel=>exact⟨k+1,K2,by go_num,by omega,fun r' hr'=>by
       obtain⟨hkl',ee⟩:=List.getElem?_eq_some_iff.1 HR'.out
       rw[List.take_succ_eq_append_getElem hkl',List.mem_append,List.mem_singleton]at hr';rcases hr' with hr'|hr'
       ·exact HAll.out r' hr'
       ·rw[hr',ee];exact HGb.out.symm,HO2.out,HK2.out,HS2.out,HF2.out⟩
      case measure=>simp[intOf];omega
    ·have hk':k=L.length:=by omega
     subst hk';have hn:res=true:=HGe.out.2 ⟨HAllR.out,by have:=HAll.out;rwa [List.take_length]at this⟩;have HN:=Hh hn;clear hn e4;go_wp2_with fail;go_ret;exact⟨by rw[HN.out];rfl,K1,HO1.out,HK1.out,HS1.out,HF1.out⟩
theorem zvk {w:World}{g N:Nat}{K:List Nat}(h:RowIs 3 encN w g K){p:Nat}(hp:p<K.length):w.cell? ⟨g,p,none⟩=some (.int .i64 ((K.getD p 0:Nat):Int))/\w.frozen? ⟨g,p,none⟩=false:=by
 refine⟨?_,h.frozen p⟩;rw[h.cell p hp,List.getD_eq_getElem?_getD,List.getElem?_eq_getElem hp];rfl
theorem KOK.put {C K:List Nat}{N x y n v:Nat}(hy:y<N)(h:KOK C N n K)(hv:n≤x+y∨(v=1/\geV C x y=true)∨(v=2/\geV C x y=false)):KOK C N n (K.set (x*N+y) v):=fun i j hi hj hl=>by
 rw[zge];split
 ·rename_i e
  obtain⟨rfl,rfl⟩:=zks hy hj e.1;rcases hv with hv|hv|hv
  ·omega
  ·exact .inr (.inl hv)
  ·exact .inr (.inr hv)
 ·exact h i j hi hj hl
theorem KSame.put {K:List Nat}{N x y n v:Nat}(hy:y<N)(hv:x+y<n):KSame N n K (K.set (x*N+y) v):=fun i j hi hj hl=>by
 rw[zge,if_neg];rintro⟨e,_⟩;obtain⟨rfl,rfl⟩:=zks hy hj e;omega
set_option maxHeartbeats 4000000 in
theorem ycg {C:List Nat}{NL:List PL}(B:BookC NL C)(ob bb kb:Nat)(hN:NL.length<1000):∀n x y,x+y<n→x<NL.length→y<NL.length→ydm C NL ob bb kb x y:=by
 intro n;induction n with
 | zero=>intro x y h;omega
 | succ n ih =>
  intro x y hn hx hy K w hO hK;have HLook:=Hh (fun K w h1 h2=>zzv B ob bb kb x y hx hy hN (fun a b hab ha hb=>ih a b (by omega) ha hb) K w h1 h2);have hlt:=ybq hx hy;have hNN:NL.length*NL.length<1000000:=by
   have h1:=Nat.mul_le_mul (show NL.length≤999 by omega) (show NL.length≤999 by omega);omega
  obtain⟨v,hv,hnn⟩:=hO.nv;obtain⟨na,nc,rfl,hnc,hncm,z⟩:=id hnn;clear z hnn;obtain⟨q,hq⟩:∃q,q=x*NL.length:=⟨_,rfl⟩;obtain⟨N2,hN2⟩:∃N2,N2=NL.length*NL.length:=⟨_,rfl⟩;obtain⟨p,hp⟩:∃p,p=q+y:=⟨_,rfl⟩;have hpe:x*NL.length+y=p:=by rw[hp,hq]
  have hm:(x:Int)*(NL.length:Int)=(q:Int):=by rw[hq];exact(Int.natCast_mul _ _).symm
  have hpl:p<N2:=by omega
  have hqb:q<1000000:=by omega
  have hO1:=hO.o1;rw[←hN2]at hO1;have hkl:=hO.len;rw[←hN2]at hkl;have ix:∀W:World,(Instr.indexAt 100 (.slice (some ⟨kb,0,none⟩) N2 N2) (.int .i64 ((q:Int)+(y:Int)))).run Tryz.prog W=.ok (.pointer (some ⟨kb,p,none⟩)) W:=by
   intro W;have h:=zfe kb N2 N2 p hpl W;rw[show((p:Nat):Int)=(q:Int)+(y:Int)from by omega]at h;exact h
  have hob:=hO.n1;have hbb:=hO.n2;have ho0:=hO.o0;have HRd:=Hh (fun(W:World) (f:Fr (fun q=>q=kb) w W)=>show W.cell? ⟨ob,0,none⟩=some (.pointer (some ⟨bb,0,none⟩))/\W.cell? ⟨ob,1,none⟩=some (.slice (some ⟨kb,0,none⟩) N2 N2)/\W.cell? ⟨bb,0,none⟩=some (.slice na NL.length nc)from
   ⟨f.cell ho0 hob,f.cell hO1 hob,f.cell hv hbb⟩)
  obtain⟨res,hres⟩:∃res,res=geV C x y:=⟨_,rfl⟩;rw[←hres];obtain⟨c0,z0⟩:=zvk (N:=N2) hO.row (p:=p) (by omega);obtain⟨e0,e1,e2⟩:=HRd.out w (Fr.refl _ _);obtain⟨c,hc⟩:∃c,c=K.getD p 0:=⟨_,rfl⟩;rw[←hc]at c0;have hkp:=hK x y hx hy (by omega);rw[hpe,←hc,←hres]at hkp;have HO:=Hh hO;have HK:=Hh hK;have HP:=Hh hpe;have HKl:=Hh hkl;have HRes:=Hh hres;have HC:=Hh hc;have HN2:=Hh hN2;have HPl:=Hh hpl;have hdr:=Fr.setCell (Fr.refl (fun q=>q=kb) w) ⟨kb,p,none⟩ (encN 2) (fun _=>rfl);have hro:=hO.row.set p 2;have HDr:=Hh hdr;have HRo:=Hh hro;clear hO hK hpe hkl hres hc hN2 hpl hv hO1 ho0 hq hp hdr hro ih;by_cases hc0:c=0
  ·have hcb:((c:Int) == 0)=true:=by rw[hc0];rfl
   have HC0:=Hh hc0;clear hkp hc0;go_enter Tryz.func190,Tryz.ntmps190;go_wp2_with fail;have hO1:OrdR (w.setCell ⟨kb,p,none⟩ (encN 2)) ob bb kb NL (K.set p 2):=HO.out.fr HDr.out HRo.out (by rw[List.length_set];exact HO.out.len);have hK1:KOK C NL.length (x+y) (K.set p 2):=by rw[←HP.out];exact(HK.out.mono (by omega)).put hy (.inl (Nat.le_refl _))
   refine(HLook.out (K.set p 2) _ hO1 hK1).mono ?_
   rintro e w2 ⟨rfl,K2,hO2,hK2,hS2,hf2⟩;rw[←HRes.out];have hf02:Fr (fun q=>q=kb) w w2:=HDr.out.trans hf2 (fun _ _ q=>q);obtain⟨d0,d1,d2⟩:=HRd.out w2 hf02;have hl2:K2.length=N2:=by rw[hO2.len,HN2.out]
   obtain⟨c2,z2⟩:=zvk (N:=N2) hO2.row (p:=p) (by have:=HPl.out;omega);have hk2:K2.getD p 0=2:=by
    have h:=hS2 x y hx hy (Nat.le_refl _);rw[HP.out,zge,if_pos ⟨rfl,by have:=HPl.out;have:=HKl.out;omega⟩]at h;exact h
   rw[hk2]at c2;have hS02:KSame NL.length (x+y+1) K K2:=by
    have h:=KSame.put (K:=K) (x:=x) (n:=x+y+1) (v:=2) hy (Nat.lt_succ_self _);rw[HP.out]at h;exact h.trans hS2 (by omega)
   have hK02:KOK C NL.length (x+y) K2:=hK2;have hKs:∀i j,i<NL.length→j<NL.length→i+j=x+y→¬(i=x/\j=y)→K2.getD (i*NL.length+j) 0=0∨(K2.getD (i*NL.length+j) 0=1/\geV C i j=true)∨(K2.getD (i*NL.length+j) 0=2/\geV C i j=false):=fun i j hi hj he hne=>by
    rw[hS2 i j hi hj (by omega),zge,if_neg (fun q=>hne (zks hj hy (by rw[HP.out];exact q.1.symm)))];exact HK.out i j hi hj (by omega)
   have hdr:=Fr.setCell (Fr.refl (fun q=>q=kb) w2) ⟨kb,p,none⟩ (encN 1) (fun _=>rfl);have hro:=hO2.row.set p 1;have HDr2:=Hh hdr;have HRo2:=Hh hro;have HO2:=Hh hO2;have HK2:=Hh hK02;have HS02:=Hh hS02;have HKs:=Hh hKs;have HF02:=Hh hf02;have HKv:=Hh hk2;have HL2:=Hh hl2;clear hO1 hK1 hdr hro hO2 hK02 hK2 hS02 hS2 hKs hf02 hf2 hk2 hl2 e0 e1 e2 c0 z0;cases hrc:res with
   | true =>
    have HT:=Hh (show geV C x y=true from by rw[←HRes.out,hrc]);have HRc:=Hh hrc;clear hrc;have k3:(w2.setCell ⟨kb,p,none⟩ (.int .i64 1)).cell? ⟨kb,p,none⟩=some (.int .i64 1):=by
     have h:=(HRo2.out.at (i:=p) (x:=1) (by rw[List.getElem?_set];simp;have:=HPl.out;have:=HL2.out;omega));exact h
    go_wp2_with fail;go_ret;refine⟨by rw[HRc.out];rfl,K2.set p 1,HO2.out.fr HDr2.out HRo2.out (by rw[List.length_set];exact HO2.out.len),fun i j hi hj hl=>?_,fun i j hi hj hl=>?_,HF02.out.trans HDr2.out (fun _ _ q=>q)⟩
    ·rw[zge]
     split
     ·rename_i e
      obtain⟨rfl,rfl⟩:=zks hy hj (by rw[HP.out];exact e.1);exact .inr (.inl ⟨rfl,HT.out⟩)
     ·rename_i e
      by_cases he:i+j<x+y
      ·exact HK2.out i j hi hj he
      ·refine HKs.out i j hi hj (by omega) (fun q=>e ?_)
       rw[q.1,q.2,HP.out];exact⟨rfl,by have:=HPl.out;have:=HL2.out;omega⟩
    ·rw[zge,if_neg,HS02.out i j hi hj hl]
     rintro⟨e,_⟩;obtain⟨rfl,rfl⟩:=zks hy hj (by rw[HP.out];exact e);omega
   | false =>
    have HT:=Hh (show geV C x y=false from by rw[←HRes.out,hrc]);have HRc:=Hh hrc;clear hrc;go_wp2_with fail;go_ret;refine⟨by rw[HRc.out];rfl,K2,HO2.out,fun i j hi hj hl=>?_,HS02.out,HF02.out⟩;by_cases he:i+j<x+y
    ·exact HK2.out i j hi hj he
    ·by_cases hxy:i=x/\j=y
     ·obtain⟨rfl,rfl⟩:=hxy
      rw[HP.out,HKv.out];exact .inr (.inr ⟨rfl,HT.out⟩)
     ·exact HKs.out i j hi hj (by omega) hxy
  ·have hcb:((c:Int) == 0)=false:=by rw[beq_eq_false_iff_ne];omega
   have hc1:((c:Int) == 1)=res:=by
    rcases hkp with h|⟨h1,h2⟩|⟨h1,h2⟩
    ·omega
    ·rw[h1,h2];rfl
    ·rw[h1,h2];rfl
   clear hkp hc0;go_enter Tryz.func190,Tryz.ntmps190;go_wp2_with fail;go_ret;exact⟨rfl,K,HO.out,HK.out,fun _ _ _ _ _=>rfl,Fr.refl _ _⟩
theorem zk2 {C:List Nat}{NL:List PL}(B:BookC NL C)(ob bb kb x y:Nat)(hN:NL.length<1000)(hx:x<NL.length)(hy:y<NL.length)(K:List Nat)(w:World)(hO:OrdR w ob bb kb NL K)(hK:KOK C NL.length (2*NL.length) K) :
  Calls Tryz.prog 190 #[.pointer (some ⟨ob,0,none⟩),.int .i64 (x:Int),.int .i64 (y:Int)] w fun e w'=>e=.returned (.bool (geV C x y))/\∃K',OrdR w' ob bb kb NL K'∧KOK C NL.length (2*NL.length) K'∧Fr (fun q=>q=kb) w w':=by
 refine(ycg B ob bb kb hN _ x y (Nat.lt_succ_self _) hx hy K w hO (hK.mono (by omega))).mono ?_
 rintro e w' ⟨rfl,K',h1,h2,h3,h4⟩;exact⟨rfl,K',h1,hK.step h2 h3,h4⟩
set_option maxHeartbeats 1000000 in
theorem zm2 (v:Value)(L:List Nat)(n:Nat)(w:World)(hL:Nats w v L):Calls Tryz.prog 199 #[v,.int .i64 (n:Int)] w fun e w'=>e=.returned (.bool (decide (n∈L)))/\w'=w:=by
 obtain⟨a,c,rfl,h1,h2,hL⟩:=hL;have HL:=Hh hL;clear hL;obtain⟨res,hres⟩:∃res,res=decide (n∈L):=⟨_,rfl⟩;rw[←hres];have HR:=Hh hres;clear hres;go_enter Tryz.func199,Tryz.ntmps199;go_wp2;go_loop [5] (fun i=>∃k:Nat,i=.int .i64 k/\k≤L.length/\n ∉ L.take k) (fun i=>L.length-(intOf i).toNat)
 case atStart=>exact⟨0,rfl,Nat.zero_le _,by simp⟩
 case round =>
  obtain⟨k,rfl,hk,hno⟩:=hrel;have HNo:=Hh hno;clear hno;by_cases hkl:k<L.length
  ·obtain⟨x,hx⟩:∃x,L[k]?=some x:=⟨_,List.getElem?_eq_getElem hkl⟩
   obtain⟨b1,o1,ha,hc⟩:=HL.out k x hx;have ix:=za7 a L.length c k b1 o1 hkl ha;have hc1:w.cell? ⟨b1,o1+k,none⟩=some (.int .i64 (x:Int)):=hc;have HX:=Hh hx;clear hx ha hc;by_cases he:x=n
   ·have hb:((x:Int) == (n:Int))=true:=by rw[he];exact beq_self_eq_true _
    have hr:res=true:=by rw[HR.out];exact decide_eq_true (he ▸ List.mem_of_getElem? HX.out)
    have HRt:=Hh hr;clear hr he;go_wp2;go_ret;exact⟨by rw[HRt.out];rfl,rfl⟩
   ·have hb:((x:Int) == (n:Int))=false:=by rw[beq_eq_false_iff_ne];omega
    have HE:=Hh he;clear he;go_wp2;go_round
    case rel=>exact⟨k+1,by go_num,by omega,fun h=>by
     obtain⟨hkl,e⟩:=List.getElem?_eq_some_iff.1 HX.out
     rw[List.take_succ_eq_append_getElem hkl,List.mem_append,List.mem_singleton]at h;rcases h with h|h
     ·exact HNo.out h
     ·exact HE.out (by rw[h,e])⟩
    case measure=>simp[intOf];omega
  ·have hk':k=L.length:=by omega
   have hr:res=false:=by rw[HR.out];exact decide_eq_false (by have:=HNo.out;rwa [hk',List.take_length]at this)
   have HRf:=Hh hr;clear hr hk';go_wp2;go_ret;exact⟨by rw[HRf.out];rfl,rfl⟩
set_option maxHeartbeats 2000000 in
theorem zhe (lv pv:Value)(L P:List Nat)(w:World)(hL:Nats w lv L)(hP:Nats w pv P)(hl:L.length<1000000000000) :
  Calls Tryz.prog 174 #[lv,pv] w fun e w'=>∃v',e=.returned v'∧w'.ownsRow w.heap.size 3 1 v' (zaa L P).length ((zaa L P).map encN)/\Fr NoM w w':=by
 have HP:=Hh (fun(W:World) (f:Fr NoM w W)=>hP.fr0 f);obtain⟨la,lc,rfl,hlc,hlcm,hL⟩:=hL;obtain⟨pa,pc,rfl,_,_,_⟩:=hP;have HL:=Hh hL;clear hL;have Hl:=Hh hl;clear hl;go_enter Tryz.func174,Tryz.ntmps174;go_wp2_with fail;go_loopw [5,6] (fun v i wr=>∃k:Nat,k≤L.length/\i=.int .i64 k/\wr.ownsRow w.heap.size 3 1 v (zaa (L.take k) P).length ((zaa (L.take k) P).map encN)/\Fr NoM w wr) (fun _ i _=>L.length-(intOf i).toNat)
 case atStart=>exact⟨0,by omega,rfl,World.ownsRow_made w #[] 0 (by omega) (by decide) (by simp[zaa]),(Fr.refl _ _).alloc _⟩
 case round =>
  obtain⟨k,hk,rfl,hown,hfr⟩:=hrel;obtain⟨w7,rfl⟩:∃w7,w7=wr:=⟨_,rfl⟩;by_cases hlt':k<L.length
  ·obtain⟨b1,o1,ha1,hc1⟩:=HL.out k L[k] (by simp)
   have hc1':=hfr.cell hc1 (fun q=>q);have ix1:=za7 la L.length lc k b1 o1 hlt' ha1;unfold encN at hc1';have hnext:=zh1 L P k hlt';have hcall:=zm2 _ P k w7 (HP.out w7 hfr);have hlen:=zcd (L.take k) P;have HO:=Hh hown;have HFr:=Hh hfr;have HLen:=Hh hlen;clear hc1 ha1 hown hfr hlen;by_cases hm:k∈P
   ·rw[if_pos hm]at hnext
    rw[decide_eq_true hm]at hcall;have HN:=Hh hnext;have HC:=Hh hcall;clear hnext hcall hm;go_wp2_with fail;refine HC.out.mono ?_
    rintro e w8 ⟨rfl,rfl⟩;go_wp2_with fail;go_roundw
    case rel=>exact⟨k+1,by omega,by go_num,by rw[HN.out];exact HO.out,HFr.out⟩
    case measure=>simp[intOf];omega
   ·rw[if_neg hm]at hnext
    rw[decide_eq_false hm]at hcall;have hnx:(zaa (L.take k) P).map encN ++ [encN L[k]]=(zaa (L.take (k+1)) P).map encN:=by rw[hnext,List.map_append];rfl
    have hnl:(zaa (L.take k) P).length+1=(zaa (L.take (k+1)) P).length:=by rw[hnext,List.length_append];rfl
    have HN:=Hh hnx;have HC:=Hh hcall;have HNl:=Hh hnl;clear hnext hcall hm hnx hnl;go_wp2_with fail;refine HC.out.mono ?_
    rintro e w8 ⟨rfl,rfl⟩;go_wp2_with (at_builtin;refine zba (enc:=encN) w (HFr.out.alloc _) rfl _ _ 100 rfl 3 (.int .i64 0) 8 Tryz.underlying100 zab rfl _ (zaa (L.take k) P).length _ rfl (HO.out.alloc _) _ rfl [L[k]] (SliceOf.one encN w8 L[k] 3) (fun _=>rfl) ?c1 (by decide) ?_)
    case c1=>have:=HLen.out;have:=Hl.out;simp at *;omega
    intro v' w' h1 h2;rw[HN.out]at h1;have h1:w'.ownsRow w.heap.size 3 1 v' (zaa (L.take (k+1)) P).length ((zaa (L.take (k+1)) P).map encN):=by rw[←HNl.out];exact h1
    have H1:=Hh h1;have H2:=Hh h2;clear h1 h2;go_wp2_with fail;go_roundw
    case rel=>exact⟨k+1,by omega,by go_num,H1.out,H2.out⟩
    case measure=>simp[intOf];omega
  ·have hk':k=L.length:=by omega
   have HK:=Hh hk';have HO:=Hh hown;have HFr:=Hh hfr;clear hk' hown hfr;go_wp2_with fail;go_ret;exact⟨_,rfl,by have h:=HO.out;rw[HK.out,List.take_length]at h;exact h,HFr.out⟩
theorem zvu {L:List Nat}{n:Nat}(hu:L.Pairwise (· < ·))(h:n∈L):putN L n=L :=
 zgk (zhy n hu) hu fun x=>by
  rw[zg7];constructor
  ·rintro(h1|rfl)
   ·exact h1
   ·exact h
  ·exact .inl
def zcx (g:Nat→Nat→Bool)(L:List Nat)(i k:Nat):List Nat:=((List.range i).filter fun m=>(List.range L.length).any (domP g L m))++if (List.range k).any (domP g L i)=true then [i]else []
theorem ztg (g:Nat→Nat→Bool)(L:List Nat)(i k:Nat):(zcx g L i k).Pairwise (· < ·):=by
 unfold zcx;refine List.pairwise_append.2 ⟨List.pairwise_lt_range.filter _,by split <;> simp,fun a ha b hb=>?_⟩;have h1:=List.mem_range.1 (List.mem_filter.1 ha).1;split at hb
 ·rw[List.mem_singleton]at hb;omega
 ·cases hb
theorem zn3 {g:Nat→Nat→Bool}{L:List Nat}{i k:Nat}(h:domP g L i k=false):zcx g L i (k+1)=zcx g L i k:=by
 unfold zcx;rw[List.range_succ,List.any_append,List.any_cons,List.any_nil,h,Bool.or_false,Bool.or_false]
theorem zn2 {g:Nat→Nat→Bool}{L:List Nat}{i k:Nat}(h:domP g L i k=true):putN (zcx g L i k) i=zcx g L i (k+1):=by
 have hu:=ztg g L i k;have h1:zcx g L i (k+1)=((List.range i).filter fun m=>(List.range L.length).any (domP g L m)) ++ [i]:=by
  unfold zcx;rw[List.range_succ,List.any_append,List.any_cons,h,Bool.true_or,Bool.or_true,if_pos rfl]
 rw[h1];unfold zcx at hu ⊢;by_cases hp:(List.range k).any (domP g L i)=true
 ·rw[if_pos hp]at hu ⊢
  exact zvu hu (by simp)
 ·rw[if_neg hp,List.append_nil]
  exact zsb _ _ fun x hx=>List.mem_range.1 (List.mem_filter.1 hx).1
theorem zgf (g:Nat→Nat→Bool)(L:List Nat)(i:Nat):zcx g L i L.length=zcx g L (i+1) 0:=by
 unfold zcx;rw[List.range_succ,List.filter_append];by_cases hp:(List.range L.length).any (domP g L i)=true
 ·rw[if_pos hp];simp[hp]
 ·rw[if_neg hp];simp[hp]
theorem zp8 (g:Nat→Nat→Bool)(L:List Nat):zcx g L L.length 0=domB g L:=by simp[zcx,domB]
theorem zp7 (g:Nat→Nat→Bool)(L:List Nat)(i k:Nat):(zcx g L i k).length≤i+1:=by
 have:=zke (ztg g L i k) (n:=i+1) fun x hx=>by
  rcases List.mem_append.1 hx with hx|hx
  ·have:=List.mem_range.1 (List.mem_filter.1 hx).1;omega
  ·split at hx
   ·rw[List.mem_singleton]at hx;omega
   ·cases hx
 exact this
set_option maxRecDepth 4000 in
set_option maxHeartbeats 4000000 in
theorem zuh {C:List Nat} {NL:List PL} (B:BookC NL C) (ob bb kb:Nat) (hN:NL.length < 1000) (lv:Value) (L K:List Nat) (w:World) (hO:OrdR w ob bb kb NL K) (hK:KOK C NL.length (2 * NL.length) K) (hL:Nats w lv L) (hLb:L≠[]→∀ q,lv.ownBlock=some q→q≠kb) (hLt:∀ x∈L,x < NL.length) (hl:L.length < 1000000) :
    Calls Tryz.prog 175 #[.pointer (some ⟨ob,0,none⟩),lv,.bool true] w fun e w'=>∃ (v':Value) (K':List Nat),e=.returned v'∧Nats w' v' (domB (gL C) L)∧(∀ q,v'.ownBlock=some q→w.heap.size≤q)∧OrdR w' ob bb kb NL K'∧KOK C NL.length (2 * NL.length) K'∧Fr (fun q=>q=kb) w w':=by
  have hkb:kb < w.heap.size:=(Array.getElem?_eq_some_iff.1 hO.row).1;have HL:=Hh (fun (W:World) (f:Fr (fun q=>q=kb) w W)=>show Nats W lv L from hL.fr f hLb);obtain ⟨la,lc,rfl,hlc,hlcm,z⟩:=hL;have HO:=Hh hO;have HK:=Hh hK;have HLt:=Hh hLt;have Hl:=Hh hl;have HGq:=Hh (fun x y hx hy K w=>zk2 B ob bb kb x y hN hx hy K w);clear hO hK hLt hl z hLb;go_enter Tryz.func175,Tryz.ntmps175;go_wp2_with fail;go_loopw [7,8] (fun o t W=>∃ (i:Nat) (K':List Nat),t=.int .i64 i∧i≤L.length∧Nats W o (zcx (gL C) L i 0)∧(∀ q,o.ownBlock=some q→w.heap.size≤q)∧OrdR W ob bb kb NL K'∧KOK C NL.length (2 * NL.length) K'∧Fr (fun q=>q=kb) w W) (fun _ t _=>L.length - (intOf t).toNat)
  case atStart=>exact ⟨0,K,rfl,Nat.zero_le _,⟨_,0,rfl,Nat.le_refl _,by decide,by simp [zcx]⟩,fun q hq=>by cases hq;exact Nat.le_refl _,HO.out.fr0 ((Fr.refl NoM w).alloc _),HK.out,(Fr.refl _ w).alloc _⟩
  case round =>
    obtain ⟨i,K1,rfl,hi,hn,hb,hO1,hK1,hf1⟩:=hrel;obtain ⟨w6,rfl⟩:∃ w6,w6=wr:=⟨_,rfl⟩;by_cases hil:i < L.length
    · have HNo := Hh hn; have HB := Hh hb; have HO1 := Hh hO1; have HK1 := Hh hK1; have HF1 := Hh hf1
      clear hn hb hO1 hK1 hf1;go_wp2_with fail;go_loopw [7,9] (fun o t W=>∃ (k:Nat) (K':List Nat),t=.int .i64 k∧k≤L.length∧Nats W o (zcx (gL C) L i k)∧(∀ q,o.ownBlock=some q→w.heap.size≤q)∧OrdR W ob bb kb NL K'∧KOK C NL.length (2 * NL.length) K'∧Fr (fun q=>q=kb) w W) (fun _ t _=>L.length - (intOf t).toNat)
      case atStart=>exact ⟨0,K1,rfl,Nat.zero_le _,HNo.out,HB.out,HO1.out,HK1.out,HF1.out⟩
      case round =>
        clear HNo HB HO1 HK1 HF1;obtain ⟨k,K2,rfl,hk,hn,hb,hO2,hK2,hf2⟩:=hrel;obtain ⟨w7,rfl⟩:∃ w7,w7=wr:=⟨_,rfl⟩;obtain ⟨oa,oc,rfl,z⟩:=id hn;clear z;have HNo:=Hh hn;have HB:=Hh hb;have HF2:=Hh hf2;have HK2:=Hh hK2;have HO2:=Hh (fun (W:World) (f:Fr NoM w7 W)=>hO2.fr0 f);clear hn hb hO2 hK2 hf2;by_cases hkl:k < L.length
        · obtain ⟨x, hx⟩ : ∃ x, L[i]? = some x := ⟨_, List.getElem?_eq_getElem hil⟩
          obtain ⟨y,hy⟩:∃ y,L[k]?=some y:=⟨_,List.getElem?_eq_getElem hkl⟩;have hxl:=HLt.out x (List.mem_of_getElem? hx);have hyl:=HLt.out y (List.mem_of_getElem? hy);obtain ⟨_,_,ee,_,_,hcc⟩:=HL.out w7 HF2.out;cases ee
          obtain ⟨b1,o1,ha1,d1⟩:=hcc i x hx;obtain ⟨b2,o2,ha2,d2⟩:=hcc k y hy;have ix1:=za7 la L.length lc i b1 o1 hil ha1;have ix2:=za7 la L.length lc k b2 o2 hkl ha2;have d1':w7.cell? ⟨b1,o1 + i,none⟩=some (.int .i64 (x:Int)):=d1;have d2':w7.cell? ⟨b2,o2 + k,none⟩=some (.int .i64 (y:Int)):=d2;have HS:=Hh (fun (W:World) (f:Fr (fun q=>q=kb) w7 W)=>show W.cell? ⟨b1,o1 + i,none⟩=some (.int .i64 (x:Int))∧W.cell? ⟨b2,o2 + k,none⟩=some (.int .i64 (y:Int)) from by
            obtain ⟨_,_,ee,_,_,hcc⟩:=HL.out W (HF2.out.trans f (fun _ _ q=>q));cases ee
            obtain ⟨b3,o3,ha3,e1⟩:=hcc i x hx;obtain ⟨b4,o4,ha4,e2⟩:=hcc k y hy;rw [ha1] at ha3;cases ha3
            rw [ha2] at ha4;cases ha4
            exact ⟨e1,e2⟩)
          obtain ⟨g1,hg1⟩:∃ g1,g1=geV C y x:=⟨_,rfl⟩;obtain ⟨g2,hg2⟩:∃ g2,g2=geV C x y:=⟨_,rfl⟩;have hdom:domP (gL C) L i k=(decide (k≠i) && (g1 && (!g2 || decide (k < i)))):=by
            unfold domP gL;rw [List.getD_eq_getElem?_getD,List.getD_eq_getElem?_getD,hx,hy];show (decide (k≠i) && (geV C y x && (!geV C x y || decide (k < i))))=_
            rw [hg1,hg2]
          have HG1:=Hh (fun K W=>HGq.out y x hyl hxl K W);have HG2:=Hh (fun K W=>HGq.out x y hxl hyl K W);rw [← hg1] at HG1;rw [← hg2] at HG2;have HDom:=Hh hdom;have F0:Fr NoM w7 w7.drew:=(Fr.refl NoM w7).drew;have G0:Fr (fun q=>q=kb) w7 w7.drew:=F0.any;clear hx hy hcc ha1 ha2 d1 d2 hg1 hg2 hdom;go_upto_region 8 with fail;go_region_held3 (fun (W:World)=>W.cell? ⟨b1,o1 + i,none⟩=some (.int .i64 (x:Int))∧W.cell? ⟨b2,o2 + k,none⟩=some (.int .i64 (y:Int)))
            (first | exact HS.out _ (by assumption))
            (first
              | (go_at_call 190;(with_reducible refine (HG1.out K2 _ (HO2.out _ (by assumption)) HK2.out).mono ?_);rintro e w8 ⟨rfl,K3,hO3,hK3,hf3⟩;have G8:Fr (fun q=>q=kb) w7 w8:=Fr.trans (by assumption) hf3 (fun _ _ q=>q))
              | (go_at_call 190;(with_reducible refine (HG2.out K3 _ (by assumption) (by assumption)).mono ?_);rintro e w9 ⟨rfl,K4,hO4,hK4,hf4⟩;have G9:Fr (fun q=>q=kb) w7 w9:=Fr.trans (by assumption) hf4 (fun _ _ q=>q))
              | fail)
          all_goals
            have HO4:=Hh hO4;have HK4:=Hh hK4;have HG9:=Hh G9;have hNo9:Nats w9 (.slice oa (zcx (gL C) L i k).length oc) (zcx (gL C) L i k):=HNo.out.fr G9 (fun _ q hq e=>by have:=HB.out q hq;omega);have HNo9:=Hh hNo9;clear hO4 hK4 G9 hf4 hO3 hK3 hf3 G8 F0 G0 d1' d2' ix1 ix2 hNo9;go_upto_region 11 with fail;obtain ⟨db,hdb⟩:∃ db,db=domP (gL C) L i k:=⟨_,rfl⟩;have HDb:=Hh hdb;clear hdb;go_cut [63] from 49 to 63 (fun c W=>c=.bool db∧W=w9)
            case first =>
              by_cases hki:k=i
              · have hd : db = false := by rw [HDb.out, HDom.out, hki]; simp
                have HD:=Hh hd;have hb1:((k:Int) != (i:Int))=false:=by rw [hki];simp
                clear hd hki;go_wp2_with fail;go_meet
                case rel=>exact ⟨by rw [HD.out],rfl⟩
              · have hb1 : ((k : Int) != (i : Int)) = true := by rw [bne_iff_ne]; omega
                by_cases hlt:k < i
                · have hd : db = g1 := by rw [HDb.out, HDom.out, decide_eq_true hlt, decide_eq_true hki]; simp
                  have HD:=Hh hd;clear hd hki;cases g1 <;> cases g2 <;>
                    (go_wp2_with fail
                     go_meet
                     case rel=>exact ⟨by rw [HD.out] <;> rfl,rfl⟩)
                · have hd : db = (g1 && !g2) := by rw [HDb.out, HDom.out, decide_eq_false hlt, decide_eq_true hki]; simp
                  have HD:=Hh hd;clear hd hki;cases g1 <;> cases g2 <;>
                    (go_wp2_with fail
                     go_meet
                     case rel=>exact ⟨by rw [HD.out] <;> rfl,rfl⟩)
            case rest =>
              obtain ⟨rfl,rfl⟩:=hcut;have hd:=HDb.out;cases db with
              | true =>
                have hst:=zn2 hd.symm;have HSt:=Hh hst;clear hst hd;go_wp2_with fail;refine (ze3 _ (zcx (gL C) L i k) i wc HNo9.out (by have:=zp7 (gL C) L i k;have:=Hl.out;omega)).mono ?_
                rintro e w5 ⟨v5,rfl,hn5,hf5,hb5⟩;rw [HSt.out] at hn5;have HN5:=Hh hn5;have HF5:=Hh hf5;have HB5:=Hh (show ∀ q,v5.ownBlock=some q→w.heap.size≤q from fun q hq=>by
                  rcases hb5 q hq with h | h
                  · exact HB.out q h
                  · have h1 := HF2.out.size
                    have h2:=HG9.out.size;omega)
                clear hn5 hf5 hb5;go_wp2_with fail;go_roundw
                case rel=>exact ⟨k + 1,K4,by go_num,by omega,HN5.out,HB5.out,HO4.out.fr0 HF5.out,HK4.out,(HF2.out.trans HG9.out (fun _ _ q=>q)).trans HF5.out (fun _ _ q=>q.elim)⟩
                case measure=>simp [intOf];omega
              | false =>
                have hst:=zn3 hd.symm;have HSt:=Hh hst;clear hst hd;go_wp2_with fail;go_roundw
                case rel=>exact ⟨k + 1,K4,by go_num,by omega,by rw [HSt.out];exact HNo9.out,HB.out,HO4.out,HK4.out,HF2.out.trans HG9.out (fun _ _ q=>q)⟩
                case measure=>simp [intOf];omega
        · have hk' : k = L.length := by omega
          subst hk';have hnx:=HNo.out;rw [zgf] at hnx;have HNx:=Hh hnx;have HO2':=Hh (HO2.out w7 (Fr.refl _ _));have hln:=zgf (gL C) L i;have HLn:=Hh hln;clear hnx hln;go_wp2_with fail;go_roundw
          case rel=>exact ⟨i + 1,K2,by go_num,by omega,by have h:=HNo.out;rw [HLn.out] at h;first | exact h | (rw [HLn.out];exact h),HB.out,HO2'.out,HK2.out,HF2.out⟩
          case measure=>simp [intOf];omega
    · have hi' : i = L.length := by omega
      subst hi';obtain ⟨oa,oc,rfl,z⟩:=id hn;clear z;rw [zp8] at hn hb ⊢;have HNo:=Hh hn;have HB:=Hh hb;have HO1:=Hh hO1;have HK1:=Hh hK1;have HF1:=Hh hf1;clear hn hb hO1 hK1 hf1;go_wp2_with fail;go_ret;exact ⟨_,K1,rfl,HNo.out,HB.out,HO1.out,HK1.out,HF1.out⟩
set_option maxRecDepth 4000 in
set_option maxHeartbeats 4000000 in
theorem zug {C:List Nat} {NL:List PL} (B:BookC NL C) (ob bb kb:Nat) (hN:NL.length < 1000) (lv:Value) (L K:List Nat) (w:World) (hO:OrdR w ob bb kb NL K) (hK:KOK C NL.length (2 * NL.length) K) (hL:Nats w lv L) (hLb:L≠[]→∀ q,lv.ownBlock=some q→q≠kb) (hLt:∀ x∈L,x < NL.length) (hl:L.length < 1000000) :
    Calls Tryz.prog 175 #[.pointer (some ⟨ob,0,none⟩),lv,.bool false] w fun e w'=>∃ (v':Value) (K':List Nat),e=.returned v'∧Nats w' v' (domB (gR C) L)∧(∀ q,v'.ownBlock=some q→w.heap.size≤q)∧OrdR w' ob bb kb NL K'∧KOK C NL.length (2 * NL.length) K'∧Fr (fun q=>q=kb) w w':=by
  have hkb:kb < w.heap.size:=(Array.getElem?_eq_some_iff.1 hO.row).1;have HL:=Hh (fun (W:World) (f:Fr (fun q=>q=kb) w W)=>show Nats W lv L from hL.fr f hLb);obtain ⟨la,lc,rfl,hlc,hlcm,z⟩:=hL;have HO:=Hh hO;have HK:=Hh hK;have HLt:=Hh hLt;have Hl:=Hh hl;have HGq:=Hh (fun x y hx hy K w=>zk2 B ob bb kb x y hN hx hy K w);clear hO hK hLt hl z hLb;go_enter Tryz.func175,Tryz.ntmps175;go_wp2_with fail;go_loopw [7,8] (fun o t W=>∃ (i:Nat) (K':List Nat),t=.int .i64 i∧i≤L.length∧Nats W o (zcx (gR C) L i 0)∧(∀ q,o.ownBlock=some q→w.heap.size≤q)∧OrdR W ob bb kb NL K'∧KOK C NL.length (2 * NL.length) K'∧Fr (fun q=>q=kb) w W) (fun _ t _=>L.length - (intOf t).toNat)
  case atStart=>exact ⟨0,K,rfl,Nat.zero_le _,⟨_,0,rfl,Nat.le_refl _,by decide,by simp [zcx]⟩,fun q hq=>by cases hq;exact Nat.le_refl _,HO.out.fr0 ((Fr.refl NoM w).alloc _),HK.out,(Fr.refl _ w).alloc _⟩
  case round =>
    obtain ⟨i,K1,rfl,hi,hn,hb,hO1,hK1,hf1⟩:=hrel;obtain ⟨w6,rfl⟩:∃ w6,w6=wr:=⟨_,rfl⟩;by_cases hil:i < L.length
    · have HNo := Hh hn; have HB := Hh hb; have HO1 := Hh hO1; have HK1 := Hh hK1; have HF1 := Hh hf1
      clear hn hb hO1 hK1 hf1;go_wp2_with fail;go_loopw [7,9] (fun o t W=>∃ (k:Nat) (K':List Nat),t=.int .i64 k∧k≤L.length∧Nats W o (zcx (gR C) L i k)∧(∀ q,o.ownBlock=some q→w.heap.size≤q)∧OrdR W ob bb kb NL K'∧KOK C NL.length (2 * NL.length) K'∧Fr (fun q=>q=kb) w W) (fun _ t _=>L.length - (intOf t).toNat)
      case atStart=>exact ⟨0,K1,rfl,Nat.zero_le _,HNo.out,HB.out,HO1.out,HK1.out,HF1.out⟩
      case round =>
        clear HNo HB HO1 HK1 HF1;obtain ⟨k,K2,rfl,hk,hn,hb,hO2,hK2,hf2⟩:=hrel;obtain ⟨w7,rfl⟩:∃ w7,w7=wr:=⟨_,rfl⟩;obtain ⟨oa,oc,rfl,z⟩:=id hn;clear z;have HNo:=Hh hn;have HB:=Hh hb;have HF2:=Hh hf2;have HK2:=Hh hK2;have HO2:=Hh (fun (W:World) (f:Fr NoM w7 W)=>hO2.fr0 f);clear hn hb hO2 hK2 hf2;by_cases hkl:k < L.length
        · obtain ⟨x, hx⟩ : ∃ x, L[i]? = some x := ⟨_, List.getElem?_eq_getElem hil⟩
          obtain ⟨y,hy⟩:∃ y,L[k]?=some y:=⟨_,List.getElem?_eq_getElem hkl⟩;have hxl:=HLt.out x (List.mem_of_getElem? hx);have hyl:=HLt.out y (List.mem_of_getElem? hy);obtain ⟨_,_,ee,_,_,hcc⟩:=HL.out w7 HF2.out;cases ee
          obtain ⟨b1,o1,ha1,d1⟩:=hcc i x hx;obtain ⟨b2,o2,ha2,d2⟩:=hcc k y hy;have ix1:=za7 la L.length lc i b1 o1 hil ha1;have ix2:=za7 la L.length lc k b2 o2 hkl ha2;have d1':w7.cell? ⟨b1,o1 + i,none⟩=some (.int .i64 (x:Int)):=d1;have d2':w7.cell? ⟨b2,o2 + k,none⟩=some (.int .i64 (y:Int)):=d2;have HS:=Hh (fun (W:World) (f:Fr (fun q=>q=kb) w7 W)=>show W.cell? ⟨b1,o1 + i,none⟩=some (.int .i64 (x:Int))∧W.cell? ⟨b2,o2 + k,none⟩=some (.int .i64 (y:Int)) from by
            obtain ⟨_,_,ee,_,_,hcc⟩:=HL.out W (HF2.out.trans f (fun _ _ q=>q));cases ee
            obtain ⟨b3,o3,ha3,e1⟩:=hcc i x hx;obtain ⟨b4,o4,ha4,e2⟩:=hcc k y hy;rw [ha1] at ha3;cases ha3
            rw [ha2] at ha4;cases ha4
            exact ⟨e1,e2⟩)
          obtain ⟨g1,hg1⟩:∃ g1,g1=geV C y x:=⟨_,rfl⟩;obtain ⟨g2,hg2⟩:∃ g2,g2=geV C x y:=⟨_,rfl⟩;have hdom:domP (gR C) L i k=(decide (k≠i) && (g2 && (!g1 || decide (k < i)))):=by
            unfold domP gR;rw [List.getD_eq_getElem?_getD,List.getD_eq_getElem?_getD,hx,hy];show (decide (k≠i) && (geV C x y && (!geV C y x || decide (k < i))))=_
            rw [hg1,hg2]
          have HG1:=Hh (fun K W=>HGq.out y x hyl hxl K W);have HG2:=Hh (fun K W=>HGq.out x y hxl hyl K W);rw [← hg1] at HG1;rw [← hg2] at HG2;have HDom:=Hh hdom;have F0:Fr NoM w7 w7.drew:=(Fr.refl NoM w7).drew;have G0:Fr (fun q=>q=kb) w7 w7.drew:=F0.any;clear hx hy hcc ha1 ha2 d1 d2 hg1 hg2 hdom;go_upto_region 8 with fail;go_region_held3 (fun (W:World)=>W.cell? ⟨b1,o1 + i,none⟩=some (.int .i64 (x:Int))∧W.cell? ⟨b2,o2 + k,none⟩=some (.int .i64 (y:Int)))
            (first | exact HS.out _ (by assumption))
            (first
              | (go_at_call 190;(with_reducible refine (HG1.out K2 _ (HO2.out _ (by assumption)) HK2.out).mono ?_);rintro e w8 ⟨rfl,K3,hO3,hK3,hf3⟩;have G8:Fr (fun q=>q=kb) w7 w8:=Fr.trans (by assumption) hf3 (fun _ _ q=>q))
              | (go_at_call 190;(with_reducible refine (HG2.out K3 _ (by assumption) (by assumption)).mono ?_);rintro e w9 ⟨rfl,K4,hO4,hK4,hf4⟩;have G9:Fr (fun q=>q=kb) w7 w9:=Fr.trans (by assumption) hf4 (fun _ _ q=>q))
              | fail)
          all_goals
            have HO4:=Hh hO4;have HK4:=Hh hK4;have HG9:=Hh G9;have hNo9:Nats w9 (.slice oa (zcx (gR C) L i k).length oc) (zcx (gR C) L i k):=HNo.out.fr G9 (fun _ q hq e=>by have:=HB.out q hq;omega);have HNo9:=Hh hNo9;clear hO4 hK4 G9 hf4 hO3 hK3 hf3 G8 F0 G0 d1' d2' ix1 ix2 hNo9;go_upto_region 11 with fail;obtain ⟨db,hdb⟩:∃ db,db=domP (gR C) L i k:=⟨_,rfl⟩;have HDb:=Hh hdb;clear hdb;go_cut [63] from 49 to 63 (fun c W=>c=.bool db∧W=w9)
            case first =>
              by_cases hki:k=i
              · have hd : db = false := by rw [HDb.out, HDom.out, hki]; simp
                have HD:=Hh hd;have hb1:((k:Int) != (i:Int))=false:=by rw [hki];simp
                clear hd hki;go_wp2_with fail;go_meet
                case rel=>exact ⟨by rw [HD.out],rfl⟩
              · have hb1 : ((k : Int) != (i : Int)) = true := by rw [bne_iff_ne]; omega
                by_cases hlt:k < i
                · have hd : db = g2 := by rw [HDb.out, HDom.out, decide_eq_true hlt, decide_eq_true hki]; simp
                  have HD:=Hh hd;clear hd hki;cases g1 <;> cases g2 <;>
                    (go_wp2_with fail
                     go_meet
                     case rel=>exact ⟨by rw [HD.out] <;> rfl,rfl⟩)
                · have hd : db = (g2 && !g1) := by rw [HDb.out, HDom.out, decide_eq_false hlt, decide_eq_true hki]; simp
                  have HD:=Hh hd;clear hd hki;cases g1 <;> cases g2 <;>
                    (go_wp2_with fail
                     go_meet
                     case rel=>exact ⟨by rw [HD.out] <;> rfl,rfl⟩)
            case rest =>
              obtain ⟨rfl,rfl⟩:=hcut;have hd:=HDb.out;cases db with
              | true =>
                have hst:=zn2 hd.symm;have HSt:=Hh hst;clear hst hd;go_wp2_with fail;refine (ze3 _ (zcx (gR C) L i k) i wc HNo9.out (by have:=zp7 (gR C) L i k;have:=Hl.out;omega)).mono ?_
                rintro e w5 ⟨v5,rfl,hn5,hf5,hb5⟩;rw [HSt.out] at hn5;have HN5:=Hh hn5;have HF5:=Hh hf5;have HB5:=Hh (show ∀ q,v5.ownBlock=some q→w.heap.size≤q from fun q hq=>by
                  rcases hb5 q hq with h | h
                  · exact HB.out q h
                  · have h1 := HF2.out.size
                    have h2:=HG9.out.size;omega)
                clear hn5 hf5 hb5;go_wp2_with fail;go_roundw
                case rel=>exact ⟨k + 1,K4,by go_num,by omega,HN5.out,HB5.out,HO4.out.fr0 HF5.out,HK4.out,(HF2.out.trans HG9.out (fun _ _ q=>q)).trans HF5.out (fun _ _ q=>q.elim)⟩
                case measure=>simp [intOf];omega
              | false =>
                have hst:=zn3 hd.symm;have HSt:=Hh hst;clear hst hd;go_wp2_with fail;go_roundw
                case rel=>exact ⟨k + 1,K4,by go_num,by omega,by rw [HSt.out];exact HNo9.out,HB.out,HO4.out,HK4.out,HF2.out.trans HG9.out (fun _ _ q=>q)⟩
                case measure=>simp [intOf];omega
        · have hk' : k = L.length := by omega
          subst hk';have hnx:=HNo.out;rw [zgf] at hnx;have HNx:=Hh hnx;have HO2':=Hh (HO2.out w7 (Fr.refl _ _));have hln:=zgf (gR C) L i;have HLn:=Hh hln;clear hnx hln;go_wp2_with fail;go_roundw
          case rel=>exact ⟨i + 1,K2,by go_num,by omega,by have h:=HNo.out;rw [HLn.out] at h;first | exact h | (rw [HLn.out];exact h),HB.out,HO2'.out,HK2.out,HF2.out⟩
          case measure=>simp [intOf];omega
    · have hi' : i = L.length := by omega
      subst hi';obtain ⟨oa,oc,rfl,z⟩:=id hn;clear z;rw [zp8] at hn hb ⊢;have HNo:=Hh hn;have HB:=Hh hb;have HO1:=Hh hO1;have HK1:=Hh hK1;have HF1:=Hh hf1;clear hn hb hO1 hK1 hf1;go_wp2_with fail;go_ret;exact ⟨_,K1,rfl,HNo.out,HB.out,HO1.out,HK1.out,HF1.out⟩
end Go.Proofs.YtlapkmhemepcaaaGreatDoor
