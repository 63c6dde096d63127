import Derived.Test.YtlapkmhemepcaaaGreatDoorZnt
/- Lemmas. -/
namespace Go.Proofs.YtlapkmhemepcaaaGreatDoor
set_option linter.unusedVariables false
set_option linter.unusedSimpArgs false
open Go.RowKit
theorem yd2 (C L R:List Nat):(!geC zac (mkC (za2 C L) R))=L.any fun k=>geC (C.getD k 0) zac:=by
 refine Bool.eq_iff_iff.2 ?_
 rw[Bool.not_eq_true',List.any_eq_true,←Bool.not_eq_true,yc1];constructor
 ·intro h
  refine Classical.byContradiction fun q=>h fun l hl=>?_
  obtain⟨k,hk,rfl⟩:=mem_atAll.1 ((zae _ _ l).1 hl);cases e:geC (C.getD k 0) zac with
  | false=>rfl
  | true=>exact absurd ⟨k,hk,e⟩ q
 ·rintro⟨k,hk,e⟩ h
  rw[h _ ((zae _ _ _).2 (mem_atAll.2 ⟨k,hk,rfl⟩))]at e;cases e
theorem yce (C L R:List Nat):(!geC (mkC L (za2 C R)) zac)=R.any fun k=>geC zac (C.getD k 0):=by
 refine Bool.eq_iff_iff.2 ?_
 rw[Bool.not_eq_true',List.any_eq_true,←Bool.not_eq_true,ydg];constructor
 ·intro h
  refine Classical.byContradiction fun q=>h fun l hl=>?_
  obtain⟨k,hk,rfl⟩:=mem_atAll.1 ((zaf _ _ l).1 hl);cases e:geC zac (C.getD k 0)with
  | false=>rfl
  | true=>exact absurd ⟨k,hk,e⟩ q
 ·rintro⟨k,hk,e⟩ h
  rw[h _ ((zaf _ _ _).2 (mem_atAll.2 ⟨k,hk,rfl⟩))]at e;cases e
def rowW (f:Nat→Bool)(n i:Nat):List Bool:=(List.range n).map fun k=>decide (k<i) && f k
theorem zkp (f:Nat→Bool)(n i:Nat):(rowW f n i).length=n:=by simp[rowW]
theorem zk2 (f:Nat→Bool){n k:Nat}(i:Nat)(hk:k<n):(rowW f n i)[k]?=some (decide (k<i) && f k):=by simp[rowW,hk]
theorem zx6 (f:Nat→Bool)(n:Nat):rowW f n 0=List.replicate n false:=by
 refine List.ext_getElem (by simp[rowW]) fun k h1 h2=>?_
 simp[rowW]
theorem zt2 (f:Nat→Bool){n i:Nat}(b:Bool)(hb:b=f i):(rowW f n i).set i b=rowW f n (i+1):=by
 refine List.ext_getElem (by simp[rowW]) fun k h1 h2=>?_
 rw[List.getElem_set];by_cases e:i=k
 ·subst e;simp[rowW,hb]
 ·rw[if_neg e]
  simp only[rowW,List.getElem_map,List.getElem_range];have:(decide (k<i))=decide (k<i+1):=by
   by_cases h:k<i
   ·simp[h,show k<i+1 by omega]
   ·simp[h,show ¬k<i+1 by omega]
  rw[this]
theorem zot (f:Nat→Bool){n i:Nat}:(rowW f n i).set i false=rowW f n i:=by
 refine List.ext_getElem (by simp) fun k h1 h2=>?_
 rw[List.getElem_set];by_cases e:i=k
 ·subst e;simp[rowW]
 ·rw[if_neg e]
def lwF (C:List Nat)(k:Nat):Bool:=!geC zac (C.getD k 0)
def rwF (C:List Nat)(k:Nat):Bool:=!geC (C.getD k 0) zac
theorem yd3 {Fs:List PL}(ho:OptsOK Fs){i:Nat}{y:PL}(hy:Fs[i]?=some y):lwF (za0 Fs) i=y.1.any fun k=>!rwF (za0 Fs) k:=by
 unfold lwF;rw[zc8 Fs ho i y hy,yd2];simp[rwF]
theorem ycf {Fs:List PL}(ho:OptsOK Fs){i:Nat}{y:PL}(hy:Fs[i]?=some y):rwF (za0 Fs) i=y.2.any fun k=>!lwF (za0 Fs) k:=by
 unfold rwF;rw[zc8 Fs ho i y hy,yce];simp[lwF]
theorem zua (g:Nat→Bool){L:List Nat}{j x:Nat}(h:L[j]?=some x):(L.take (j+1)).any g=((L.take j).any g || g x):=by
 obtain⟨hj,rfl⟩:=List.getElem?_eq_some_iff.1 h
 rw[List.take_succ_eq_append_getElem hj,List.any_append];simp
theorem yat (n:Nat)(hn:n<1000000000)(W:World):(Instr.makeSlice 103 (.int .i64 (n:Int)) (.int .i64 (n:Int))).run Tryz.prog W=.ok (.slice (some ⟨W.heap.size,0,none⟩) n n) (W.alloc (.cells (zbz encB false n) 4)):=by
 obtain⟨i0,hi,hz0,hz1,hz2⟩:=info_parts zk7;have h:=run_make (P:=Tryz.prog) W 103 4 i0 (.bool false) Tryz.underlying103 hi hz0 .i64 .i64 (n:Int) (n:Int) (by omega) (by omega) (by rw[hz2];omega) (by omega);rw[h,hz1,show((n:Int)).toNat=n from by omega,Nat.mul_one];have:madeCells (Value.cells (.bool false)) n=(zbz encB false n):=by
  apply Array.ext'
  unfold zbz;rw[List.toList_toArray,madeCells,Array.toList_map,Array.toList_range];refine(List.eq_replicate_iff.2 ⟨by simp,fun b hb=>?_⟩:_=List.replicate n (Value.bool false)).trans (by simp[encB]);obtain⟨i,_,rfl⟩:=List.mem_map.1 hb;show(Value.cells (.bool false))[i%(Value.cells (.bool false)).size]! = .bool false
  rw[show(Value.cells (.bool false)).size=1 from rfl,Nat.mod_one];rfl
 rw[this]
def ybp (Fs:List PL)(w:World)(e:Ending)(w':World):Prop:=∃gl gr:Nat,e=.returned (.tuple #[.slice (some ⟨gl,0,none⟩) Fs.length Fs.length,.slice (some ⟨gr,0,none⟩) Fs.length Fs.length]) ∧
 RowIs 4 encB w' gl (rowW (lwF (za0 Fs)) Fs.length Fs.length)/\RowIs 4 encB w' gr (rowW (rwF (za0 Fs)) Fs.length Fs.length)/\Fr NoM w w'
set_option maxRecDepth 4000 in
set_option maxHeartbeats 8000000 in
theorem zz4 {R:Nat→Prop}(nv:Value)(Fs:List PL)(w:World)(h:NodeL R encN w nv Fs)(ho:OptsOK Fs)(hn:Fs.length<1000000) :
  Calls Tryz.prog 85 #[nv] w fun e w'=>ybp Fs w e w':=by
 obtain⟨na,nc,rfl,hnc,hncm,hN⟩:=h;have mk:=fun W=>yat Fs.length (by omega) W
 obtain⟨lw,hlw⟩:∃lw,lw=lwF (za0 Fs):=⟨_,rfl⟩;obtain⟨rw',hrw⟩:∃rw',rw'=rwF (za0 Fs):=⟨_,rfl⟩;have HLw:=Hh (fun(i:Nat) (y:PL) (hy:Fs[i]?=some y)=>(by rw[hlw,hrw];exact yd3 ho hy:lw i=y.1.any fun k=>!rw' k));have HRw:=Hh (fun(i:Nat) (y:PL) (hy:Fs[i]?=some y)=>(by rw[hlw,hrw];exact ycf ho hy:rw' i=y.2.any fun k=>!lw k));have HL:=Hh hlw;have HR:=Hh hrw;have HN:=Hh hN;have HO:=Hh ho;clear hN ho hlw hrw;go_enter Tryz.func85,Tryz.ntmps85;go_upto_region 1 with fail;go_cut [4,5]from 12 to 17 (fun x y W=>∃gl gr:Nat,x=.slice (some ⟨gl,0,none⟩) Fs.length Fs.length/\y=.slice (some ⟨gr,0,none⟩) Fs.length Fs.length/\RowIs 4 encB W gl (rowW lw Fs.length 0)/\RowIs 4 encB W gr (rowW rw' Fs.length 0)/\gl≠gr/\w.heap.size≤gl/\w.heap.size≤gr/\Fr NoM w W)
 case first =>
  have hz:∀(lw:Nat→Bool) (W:World) (g:Nat),W.heap[g]?=some (.cells (zbz encB false Fs.length) 4 (0,0))→RowIs 4 encB W g (rowW lw Fs.length 0):=fun lw W g h=>by
   rw[zx6];exact h
  have e1:((w.alloc (.cells (zbz encB false Fs.length) 4)).alloc (.cells (zbz encB false Fs.length) 4)).heap[w.heap.size]?=some (.cells (zbz encB false Fs.length) 4 (0,0)):=((Fr.refl NoM _).alloc _).heap (heap_alloc_new w _) (fun q=>q);have e2:((w.alloc (.cells (zbz encB false Fs.length) 4)).alloc (.cells (zbz encB false Fs.length) 4)).heap[w.heap.size+1]?=some (.cells (zbz encB false Fs.length) 4 (0,0)):=by
   have h:=heap_alloc_new (w.alloc (.cells (zbz encB false Fs.length) 4)) (.cells (zbz encB false Fs.length) 4);rw[World.size_alloc]at h;exact h
  have f3:Fr NoM w ((w.alloc (.cells (zbz encB false Fs.length) 4)).alloc (.cells (zbz encB false Fs.length) 4)).drew:=(((Fr.refl NoM w).alloc _).alloc _).drew;have HZ:=Hh hz;have HE1:=Hh e1;have HE2:=Hh e2;have F3:=Hh f3;clear hz e1 e2 f3;go_region;all_goals
   go_wp2_with fail;go_meet
   case rel=>first
    | exact⟨w.heap.size,w.heap.size+1,rfl,rfl,HZ.out _ _ _ HE1.out,HZ.out _ _ _ HE2.out,by omega,by omega,by omega,F3.out⟩
    | exact⟨w.heap.size+1,w.heap.size,rfl,rfl,HZ.out _ _ _ HE2.out,HZ.out _ _ _ HE1.out,by omega,by omega,by omega,F3.out⟩
 case rest =>
  obtain⟨gl,gr,rfl,rfl,hrl,hrr,hne,hgl,hgr,hfc⟩:=hcut;obtain⟨w2,rfl⟩:∃w2,w2=wc:=⟨_,rfl⟩;have HRl:=Hh hrl;have HRr:=Hh hrr;have HNe:=Hh hne;have HGl:=Hh hgl;have HGr:=Hh hgr;have HFc:=Hh hfc;clear hrl hrr hne hgl hgr hfc mk;go_wp2_with fail;go_loopw [20] (fun t W=>∃i:Nat,t=.int .i64 i/\i≤Fs.length/\RowIs 4 encB W gl (rowW lw Fs.length i)/\RowIs 4 encB W gr (rowW rw' Fs.length i)/\Fr (fun q=>q=gl∨q=gr) w2 W) (fun t _=>Fs.length-(intOf t).toNat)
  case atStart=>exact⟨0,rfl,Nat.zero_le _,HRl.out,HRr.out,Fr.refl _ _⟩
  case round =>
   obtain⟨i,rfl,hi,hrl,hrr,hfr⟩:=hrel;obtain⟨w7,rfl⟩:∃w7,w7=wr:=⟨_,rfl⟩;by_cases hlt:i<Fs.length
   ·obtain⟨y,hy⟩:∃y,Fs[i]?=some y:=⟨_,List.getElem?_eq_getElem hlt⟩
    obtain⟨b1,o1,lv,rv,ha1,_,c1,c2,s1,s2,_,_⟩:=HN.out i y hy;obtain⟨p1,p2⟩:=HO.out i y hy;have ix1:=zd0 na Fs.length nc i b1 o1 hlt ha1;have hb1:=World.block_lt_of_cell? w _ c1;have hb1':b1<w.heap.size:=hb1;obtain⟨la,lc,rfl,hlc⟩:=zda s1;obtain⟨ra,rc,rfl,hrc⟩:=zda s2;have fw7:Fr (fun q=>q=gl∨q=gr) w w7:=(HFc.out.any).trans hfr (fun _ _ q=>q);have hfar:∀b:Nat,b<w.heap.size→¬(fun q=>q=gl∨q=gr) b:=fun b hb e=>by have h1:=HGl.out;have h2:=HGr.out;have e:b=gl∨b=gr:=e;omega
    have d1:=fw7.cell c1 (hfar _ hb1');have d2:=fw7.cell c2 (hfar _ hb1');have hsl:gl<w7.heap.size:=(Array.getElem?_eq_some_iff.1 hrl).1;have hsr:gr<w7.heap.size:=(Array.getElem?_eq_some_iff.1 hrr).1;have hL9:y.1.length≤9223372036854775807:=by obtain⟨a,c,_,h1,h2,_⟩:=s1;omega
    have hR9:y.2.length≤9223372036854775807:=by obtain⟨a,c,_,h1,h2,_⟩:=s2;omega
    have HRl7:=Hh hrl;have HRr7:=Hh hrr;have HFr:=Hh hfr;have HLc:=Hh hlc;have HRc:=Hh hrc;have HP1:=Hh p1;have HP2:=Hh p2;have FW7:=Hh fw7;have HFar:=Hh hfar;have HSl:=Hh hsl;have HSr:=Hh hsr;have HLwi:=Hh (HLw.out i y hy);have HRwi:=Hh (HRw.out i y hy);clear hrl hrr hfr hlc hrc p1 p2 fw7 hfar hsl hsr ha1 c1 c2 s1 s2 hy hb1 hb1';go_wp2;obtain⟨w8,hw8⟩:∃w8,w8=w7.alloc (.cells #[.slice la y.1.length lc,.slice ra y.2.length rc] 102):=⟨_,rfl⟩;have hf8:Fr NoM w7 w8:=by rw[hw8];exact(Fr.refl NoM w7).alloc _
    have hb8:w8.heap[w7.heap.size]?=some (.cells #[.slice la y.1.length lc,.slice ra y.2.length rc] 102 (0,0)):=by rw[hw8];exact heap_alloc_new w7 _
    rw[←hw8];have HF8:=Hh hf8;have HB8:=Hh hb8;clear hf8 hb8 hw8 d1 d2;go_loopw [28] (fun t W=>∃j:Nat,t=.int .i64 j/\j≤y.1.length/\RowIs 4 encB W gl ((rowW lw Fs.length i).set i ((y.1.take j).any fun k=>!rw' k))/\RowIs 4 encB W gr (rowW rw' Fs.length i)/\Fr (fun q=>q=gl∨q=gr) w8 W) (fun t _=>y.1.length-(intOf t).toNat)
    case atStart=>exact⟨0,rfl,Nat.zero_le _,by rw[List.take_zero,List.any_nil,zot];exact HRl7.out.fr HF8.out (fun q=>q),HRr7.out.fr HF8.out (fun q=>q),Fr.refl _ _⟩
    case round =>
     obtain⟨j,rfl,hj,hrl,hrr,hfr⟩:=hrel;obtain⟨w9,rfl⟩:∃w9,w9=wr:=⟨_,rfl⟩;have f9:Fr (fun q=>q=gl∨q=gr) w w9:=(FW7.out.trans HF8.out (fun _ _ q=>q.elim)).trans hfr (fun _ _ q=>q);by_cases hjl:j<y.1.length
     ·obtain⟨x,hxx⟩:∃x,y.1[j]?=some x:=⟨_,List.getElem?_eq_getElem hjl⟩
      have hx:=HP1.out x (List.mem_of_getElem? hxx);obtain⟨b2,o2,ha2,e2⟩:=HLc.out j x hxx;have hb2:=World.block_lt_of_cell? w _ e2;replace e2:w9.cell? ⟨b2,o2+j,none⟩=some (.int .i64 (x:Int)):=f9.cell e2 (HFar.out b2 hb2)
      have ix2:=za8 la y.1.length lc j b2 o2 hjl ha2;have ix3:=zcr gl Fs.length Fs.length i hlt;have ix4:=zcr gr Fs.length Fs.length x (by omega);obtain⟨acc,hacc⟩:∃acc,acc=(y.1.take j).any fun k=>!rw' k:=⟨_,rfl⟩
      obtain⟨g,hg⟩:∃g,g=rw' x:=⟨_,rfl⟩;rw[←hacc]at hrl;have k1:w9.cell? ⟨gl,i,none⟩=some (.bool acc):=hrl.at (i:=i) (x:=acc) (by rw[List.getElem?_set_self (by rw[zkp];exact hlt)]);have k2:w9.cell? ⟨gr,x,none⟩=some (.bool g):=hrr.at (i:=x) (x:=g) (by rw[zk2 _ _ (by omega),hg];simp[hx]);have z1:=hrl.frozen i;have hnew:=hrl.set i (acc || !g);rw[List.set_set]at hnew;have hany:(acc || !g)=(y.1.take (j+1)).any fun k=>!rw' k:=by rw[zua _ hxx,hacc,hg]
      rw[hany]at hnew;have hnr:=hrr.fr (Fr.set w9 ⟨gl,i,none⟩ (encB ((y.1.take (j+1)).any fun k=>!rw' k))) (fun e=>HNe.out.symm e);have hff:Fr (fun q=>q=gl∨q=gr) w8 (w9.setCell ⟨gl,i,none⟩ (encB ((y.1.take (j+1)).any fun k=>!rw' k))):=hfr.setCell _ _ (fun _=>.inl rfl);rw[←hany]at hnr hff;rw[←hany]at hnew;have HAll:=Hh (And.intro hnew (And.intro hnr hff));have HAny:=Hh hany;clear hrl hrr hfr f9 hacc hg hnew hnr hff hany ha2 hb2 hx hxx;cases acc with
      | true =>
       go_wp2;go_roundw
       case rel=>exact⟨j+1,by go_num,by omega,by rw[←HAny.out];exact HAll.out.1,HAll.out.2.1,HAll.out.2.2⟩
       case measure=>simp[intOf];omega
      | false =>
       go_wp2;go_roundw
       case rel=>exact⟨j+1,by go_num,by omega,by rw[←HAny.out];exact HAll.out.1,HAll.out.2.1,HAll.out.2.2⟩
       case measure=>simp[intOf];omega
     ·have hj':j=y.1.length:=by omega
      subst hj';rw[List.take_length,←HLwi.out,zt2 lw (lw i) rfl]at hrl;have hne1:w7.heap.size≠gl:=by have:=HSl.out;omega
      have hne2:w7.heap.size≠gr:=by have:=HSr.out;omega
      have d9:w9.cell? ⟨w7.heap.size,1,none⟩=some (.slice ra y.2.length rc):=by rw[cell_of_row w9 _ 1 _ _ _ (hfr.heap HB8.out (fun e=>e.elim hne1 hne2))];rfl
      have HRl9:=Hh hrl;have HRr9:=Hh hrr;have F9:=Hh f9;have HF89:=Hh hfr;clear hrl hrr hfr f9 hne1 hne2;go_wp2;clear d9;go_loopw [50] (fun t W=>∃j:Nat,t=.int .i64 j/\j≤y.2.length/\RowIs 4 encB W gl (rowW lw Fs.length (i+1))/\RowIs 4 encB W gr ((rowW rw' Fs.length i).set i ((y.2.take j).any fun k=>!lw k))/\Fr (fun q=>q=gl∨q=gr) w8 W) (fun t _=>y.2.length-(intOf t).toNat)
      case atStart=>exact⟨0,rfl,Nat.zero_le _,HRl9.out,by rw[List.take_zero,List.any_nil,zot];exact HRr9.out,HF89.out⟩
      case round =>
       obtain⟨j,rfl,hj,hrl,hrr,hfr⟩:=hrel;obtain⟨w10,rfl⟩:∃w10,w10=wr:=⟨_,rfl⟩;have f9:Fr (fun q=>q=gl∨q=gr) w w10:=(FW7.out.trans HF8.out (fun _ _ q=>q.elim)).trans hfr (fun _ _ q=>q);by_cases hjl:j<y.2.length
       ·obtain⟨x,hxx⟩:∃x,y.2[j]?=some x:=⟨_,List.getElem?_eq_getElem hjl⟩
        have hx:=HP2.out x (List.mem_of_getElem? hxx);obtain⟨b2,o2,ha2,e2⟩:=HRc.out j x hxx;have hb2:=World.block_lt_of_cell? w _ e2;replace e2:w10.cell? ⟨b2,o2+j,none⟩=some (.int .i64 (x:Int)):=f9.cell e2 (HFar.out b2 hb2)
        have ix2:=za8 ra y.2.length rc j b2 o2 hjl ha2;have ix3:=zcr gr Fs.length Fs.length i hlt;have ix4:=zcr gl Fs.length Fs.length x (by omega);obtain⟨acc,hacc⟩:∃acc,acc=(y.2.take j).any fun k=>!lw k:=⟨_,rfl⟩
        obtain⟨g,hg⟩:∃g,g=lw x:=⟨_,rfl⟩;rw[←hacc]at hrr;have k1:w10.cell? ⟨gr,i,none⟩=some (.bool acc):=hrr.at (i:=i) (x:=acc) (by rw[List.getElem?_set_self (by rw[zkp];exact hlt)]);have k2:w10.cell? ⟨gl,x,none⟩=some (.bool g):=hrl.at (i:=x) (x:=g) (by rw[zk2 _ _ (by omega),hg];simp[show x<i+1 by omega]);have z1:=hrr.frozen i;have hnew:=hrr.set i (acc || !g);rw[List.set_set]at hnew;have hany:(acc || !g)=(y.2.take (j+1)).any fun k=>!lw k:=by rw[zua _ hxx,hacc,hg]
        have hnr:=hrl.fr (Fr.set w10 ⟨gr,i,none⟩ (encB (acc || !g))) (fun e=>HNe.out e);have hff:Fr (fun q=>q=gl∨q=gr) w8 (w10.setCell ⟨gr,i,none⟩ (encB (acc || !g))):=hfr.setCell _ _ (fun _=>.inr rfl);have HAll:=Hh (And.intro hnew (And.intro hnr hff));have HAny:=Hh hany;clear hrl hrr hfr f9 hacc hg hnew hnr hff hany ha2 hb2 hx hxx;cases acc with
        | true =>
         go_wp2;go_roundw
         case rel=>exact⟨j+1,by go_num,by omega,HAll.out.2.1,by rw[←HAny.out];exact HAll.out.1,HAll.out.2.2⟩
         case measure=>simp[intOf];omega
        | false =>
         go_wp2;go_roundw
         case rel=>exact⟨j+1,by go_num,by omega,HAll.out.2.1,by rw[←HAny.out];exact HAll.out.1,HAll.out.2.2⟩
         case measure=>simp[intOf];omega
       ·have hj':j=y.2.length:=by omega
        subst hj';rw[List.take_length,←HRwi.out,zt2 rw' (rw' i) rfl]at hrr;have HRl10:=Hh hrl;have HRr10:=Hh hrr;have HF10:=Hh ((HFr.out.trans HF8.out (fun _ _ q=>q.elim)).trans hfr (fun _ _ q=>q));clear hrl hrr hfr f9;go_wp2;go_roundw
        case rel=>exact⟨i+1,by go_num,by omega,HRl10.out,HRr10.out,HF10.out⟩
        case measure=>simp[intOf];omega
   ·have hi':i=Fs.length:=by omega
    subst hi';have HRl9:=Hh hrl;have HRr9:=Hh hrr;have HF9:=Hh (show Fr NoM w w7 from HFc.out.trans hfr (fun q hq e=>by have h1:=HGl.out;have h2:=HGr.out;rcases e with e|e <;> omega));clear hrl hrr hfr;go_wp2;go_ret2;exact⟨gl,gr,rfl,by rw[←HL.out];exact HRl9.out,by rw[←HR.out];exact HRr9.out,HF9.out⟩
def outW (l r:Bool):Int:=if l=true then (if r=true then 3 else 1)else if r=true then 2 else 4
set_option maxRecDepth 4000 in
set_option maxHeartbeats 4000000 in
theorem zp2 {R:Nat→Prop}(nv:Value)(Fs:List PL)(w:World)(h:NodeL R encI w nv (i2 Fs))(hg:zc5 (i2 Fs)) :
  Calls Tryz.prog 38 #[.agg #[nv]] w fun e w'=>e=.returned (.tuple #[.int .i64 (outW (!geC zac (zas Fs)) (!geC (zas Fs) zac)),.bool true])/\Fr NoM w w':=by
 obtain⟨w1,hw1⟩:∃w1,w1=w.alloc (.cells #[nv] 26):=⟨_,rfl⟩;have f1:Fr NoM w w1:=by rw[hw1];exact(Fr.refl NoM w).alloc _
 have e1:w1.heap[w.heap.size]?=some (.cells #[nv] 26 (0,0)):=by rw[hw1];exact heap_alloc_new w _
 have HK:=Hh (fun(W:World) (f:Fr NoM w1 W)=>(by rw[cell_of_row W _ 0 _ _ _ (f.heap e1 (fun q=>q))];rfl:W.cell? ⟨w.heap.size,0,none⟩=some nv));have HGd:=Hh (zc9 nv (i2 Fs) w1 (h.fr0 f1) true (by simp[hg]));have HN:=Hh (fun(W:World) (f:Fr NoM w1 W)=>((h.fr0 f1).fr0 f).ofI);obtain⟨q1,q2,q3,q4,_⟩:=zfd hg;have HO:=Hh q4.opts;have HPos:=Hh q1;have HLe:=Hh q2;have F1:=Hh f1;obtain⟨l,hl⟩:∃l,l=(!geC zac (zas Fs)):=⟨_,rfl⟩;obtain⟨r,hr⟩:∃r,r=(!geC (zas Fs) zac):=⟨_,rfl⟩;rw[←hl,←hr];have HL:=Hh hl;have HR:=Hh hr;have hlen:(i2 Fs).length=Fs.length:=by simp[i2]
 have HLen:=Hh hlen;obtain⟨a,c,rfl,zz⟩:=id h;rw[hlen]at HK HGd HN ⊢;rw[hlen]at hw1;clear zz h f1 e1 q1 q2 q3 q4 hl hr hg hlen;have k0:=HK.out w1 (Fr.refl _ _);go_enter Tryz.func38,Tryz.ntmps38;go_wp2_with fail;rw[←hw1];clear hw1;(with_reducible refine HGd.out.mono ?_);rintro e w2 ⟨rfl,f2⟩;have F2:=Hh f2;have HW:=Hh (zz4 _ Fs w2 (HN.out w2 f2) HO.out (by have:=HLe.out;omega));clear k0 f2;have k0:=HK.out w2 F2.out;go_wp2_with fail;(with_reducible refine HW.out.mono ?_);rintro e w3 ⟨gl,gr,rfl,rl,rr,f3⟩;obtain⟨m,hm⟩:∃m,Fs.length=m+1:=⟨Fs.length-1,by have:=HPos.out;omega⟩;have kl:w3.cell? ⟨gl,m,none⟩=some (.bool l):=rl.at (i:=m) (x:=l) (by
  rw[zk2 _ _ (by omega),HL.out];unfold lwF zas;simp[hm])
 have kr:w3.cell? ⟨gr,m,none⟩=some (.bool r):=rr.at (i:=m) (x:=r) (by
  rw[zk2 _ _ (by omega),HR.out];unfold rwF zas;simp[hm])
 have ixl:=zcr gl Fs.length Fs.length m (by omega);have ixr:=zcr gr Fs.length Fs.length m (by omega);have hcast:((Fs.length:Int)-1)=(m:Int):=by omega
 have hmb:m<1600:=by have:=HLe.out;omega
 have hlb:Fs.length<1000000:=by have:=HLe.out;omega
 have HF:=Hh (F1.out.trans (F2.out.trans f3 (fun _ _ q=>q)) (fun _ _ q=>q));have k0:=HK.out w3 (F2.out.trans f3 (fun _ _ q=>q));clear rl rr f3 hm;cases l with
 | true =>
  cases r with
  | true =>
   go_wp2;go_ret2;exact⟨rfl,HF.out⟩
  | false =>
   go_wp2;go_ret2;exact⟨rfl,HF.out⟩
 | false =>
  cases r with
  | true =>
   go_wp2;go_ret2;exact⟨rfl,HF.out⟩
  | false =>
   go_wp2;go_ret2;exact⟨rfl,HF.out⟩
end Go.Proofs.YtlapkmhemepcaaaGreatDoor
