import Derived.Test.YtbbbmjiloihajaaGreatDoorZfSumFormsP
/- What the claim of FnMovedCard needs of: SumMany ManyP TimesP. -/
namespace Go.Proofs.YtbbbmjiloihajaaGreatDoor
set_option linter.unusedVariables false
set_option linter.unusedSimpArgs false
open Go.RowKit
set_option maxHeartbeats 1000000 in
theorem zs3 (w:World):Calls Tryz.prog 85 #[] w fun e w'=>∃v',e=.returned (.agg #[v'])/\NodeL (fun b=>w.heap.size≤b) encN w' v' [([],[])]/\Fr NoM w w':=by
 obtain⟨w2,hw2⟩:∃w2,w2=(w.alloc (.cells #[.slice (some ⟨w.heap.size+1,0,none⟩) 1 1] 31)).alloc (.cells #[.slice none 0 0,.slice none 0 0] 85):=⟨_,rfl⟩;have hf2:Fr NoM w w2:=by rw[hw2];exact((Fr.refl NoM w).alloc _).alloc _
 have hb0:w2.heap[w.heap.size]?=some (.cells #[.slice (some ⟨w.heap.size+1,0,none⟩) 1 1] 31 (0,0)):=by
  rw[hw2];exact((Fr.refl NoM _).alloc _).heap (heap_alloc_new w _) (fun q=>q)
 have hb1:w2.heap[w.heap.size+1]?=some (.cells #[.slice none 0 0,.slice none 0 0] 85 (0,0)):=by
  have h:=heap_alloc_new (w.alloc (.cells #[.slice (some ⟨w.heap.size+1,0,none⟩) 1 1] 31)) (.cells #[.slice none 0 0,.slice none 0 0] 85);rw[World.size_alloc]at h;rw[hw2];exact h
 have k0:w2.cell? ⟨w.heap.size,0,none⟩=some (.slice (some ⟨w.heap.size+1,0,none⟩) 1 1):=by rw[cell_of_row w2 _ 0 _ _ _ hb0];rfl
 have HF2:=Hh hf2;have HB1:=Hh hb1;have HK:=Hh k0;clear hf2 hb0 hb1 k0;go_enter Tryz.func85,Tryz.ntmps85;go_upto_region 1 with fail;go_wp2_with fail;rw[←hw2];clear hw2;refine bodyPost_ret (v:=.agg #[.slice (some ⟨w.heap.size+1,0,none⟩) 1 1]) (by simp[results,Tryz.results85,go_sem,HK.out]) rfl ?_
 refine⟨_,rfl,?_,HF2.out⟩;refine⟨_,1,rfl,by simp,by decide,fun j y hy=>?_⟩;cases j with
 | zero =>
  have e:([],[])=y:=by simpa using hy
  subst e;exact⟨w.heap.size+1,0,.slice none 0 0,.slice none 0 0,rfl,Nat.le_succ _,by rw[cell_of_row w2 _ _ _ _ _ HB1.out];rfl,by rw[cell_of_row w2 _ _ _ _ _ HB1.out];rfl,SliceOf.nil _ _,SliceOf.nil _ _,fun h=>absurd rfl h,fun h=>absurd rfl h⟩
 | succ j=>simp at hy
def FormsI (R:Nat→Prop)(w:World)(v:Value)(FL:List (List (List Int × List Int))):Prop :=
 ∃VS:List Value,SliceOf encV w v VS/\VS.length=FL.length/\∀(j:Nat) (nv:Value) (Fi:List (List Int × List Int)),VS[j]?=some nv→FL[j]?=some Fi→NodeL R encI w nv Fi
theorem FormsI.fr0 {R:Nat→Prop}{w w':World}{v:Value}{FL:List (List (List Int × List Int))}(h:FormsI R w v FL)(hf:Fr NoM w w'):FormsI R w' v FL:=by
 obtain⟨VS,h1,h2,h3⟩:=h;exact⟨VS,h1.fr0 hf,h2,fun j nv Fi e1 e2=>(h3 j nv Fi e1 e2).fr0 hf⟩
theorem FormsI.low {R:Nat→Prop}{w:World}{v:Value}{FL:List (List (List Int × List Int))}(h:FormsI R w v FL):FormsI (· < w.heap.size) w v FL:=by
 obtain⟨VS,h1,h2,h3⟩:=h;exact⟨VS,h1,h2,fun j nv Fi e1 e2=>(h3 j nv Fi e1 e2).low⟩
theorem FormsI.shape {R:Nat→Prop}{w:World}{v:Value}{FL:List (List (List Int × List Int))}(h:FormsI R w v FL):∃a c,v=.slice a FL.length c/\FL.length≤9223372036854775807:=by
 obtain⟨VS,⟨a,c,e,h1,h4,_⟩,h2,_⟩:=h;exact⟨a,c,by rw[e,h2],by omega⟩
theorem FormsI.get {R:Nat→Prop}{w:World}{a:Option Addr}{c:Nat}{FL:List (List (List Int × List Int))}(h:FormsI R w (.slice a FL.length c) FL){k:Nat}{Fi:List (List Int × List Int)}(hk:FL[k]?=some Fi) :
  ∃b off nv,a=some ⟨b,off,none⟩/\w.cell? ⟨b,off+k,none⟩=some nv/\NodeL R encI w nv Fi:=by
 obtain⟨VS,⟨a',c',e,_,_,h4⟩,h2,h3⟩:=h;obtain⟨rfl,hz,rfl⟩:=Value.slice.inj e;have hl:=(List.getElem?_eq_some_iff.1 hk).1;have ev:=List.getElem?_eq_getElem (show k<VS.length by omega)
 obtain⟨b,off,ea,ec⟩:=h4 k _ ev;exact⟨b,off,_,ea,ec,h3 k _ _ ev hk⟩
def zsn (FL:List (List (List Int × List Int)))(m:Nat):Prop:=FL.length≤m/\∀Fi∈FL,zb2 Fi
set_option maxRecDepth 4000 in
set_option maxHeartbeats 4000000 in
theorem zyh {R:Nat→Prop}(v:Value)(FL:List (List (List Int × List Int)))(w:World)(h:FormsI R w v FL)(b:Bool)(hb:b=true↔zsn FL 12) :
  Calls Tryz.prog 162 #[v,.int .i64 12] w fun e w'=>e=.returned (.bool b)/\Fr NoM w w':=by
 obtain⟨a,c,rfl,hl9⟩:=h.shape;have HN:=Hh (fun(W:World) (f:Fr NoM w W)=>h.fr0 f);have HB:=Hh hb;clear h hb;go_enter Tryz.func162,Tryz.ntmps162;go_wp2_with fail;go_loopw [5] (fun t W=>∃k:Nat,t=.int .i64 k/\k≤FL.length/\k≤13/\(∀(j:Nat) Fi,j<k→FL[j]?=some Fi→zb2 Fi)/\Fr NoM w W) (fun t _=>FL.length-(intOf t).toNat)
 case atStart=>exact⟨0,rfl,Nat.zero_le _,by omega,fun j Fi hj=>by omega,Fr.refl _ _⟩
 case round =>
  obtain⟨k,rfl,hk,hk13,hall,hfr⟩:=hrel;obtain⟨w7,rfl⟩:∃w7,w7=wr:=⟨_,rfl⟩;have HA:=Hh hall;have HF:=Hh hfr;clear hall hfr;by_cases hkl:k<FL.length
  ·by_cases hk12:k≤12
   ·obtain⟨Fi,hFi⟩:∃Fi,FL[k]?=some Fi:=⟨_,List.getElem?_eq_getElem hkl⟩
    obtain⟨b1,o1,nv,rfl,c1,n1⟩:=(HN.out w7 HF.out).get hFi;have ix:=zex (some ⟨b1,o1,none⟩) FL.length c k b1 o1 hkl rfl;obtain⟨g,hg⟩:=zh0 Fi;have HG:=Hh (zod nv Fi w7 n1 g hg);have Hg:=Hh hg;have HFi:=Hh hFi;obtain⟨na,nc,rfl,z⟩:=id n1;clear z n1 hg hFi;go_wp2_with fail;refine HG.out.mono ?_
    rintro e w8 ⟨rfl,f8⟩;have F8:=Hh (HF.out.trans f8 (fun _ _ q=>q));clear f8 c1 ix;cases g with
    | false =>
     have hbf:b=false:=by
      cases b with
      | false=>rfl
      | true=>exact absurd (Hg.out.2 ((HB.out.1 rfl).2 Fi (List.mem_of_getElem? HFi.out))) (by simp)
     subst hbf;go_wp2;go_ret;exact⟨rfl,F8.out⟩
    | true =>
     have HNx:=Hh (fun(j:Nat) Fi' (hj:j<k+1) (hFj:FL[j]?=some Fi')=>(by
      by_cases e:j=k
      ·rw[e,HFi.out]at hFj
       cases hFj;exact Hg.out.1 rfl
      ·exact HA.out j Fi' (by omega) hFj:zb2 Fi'))
     go_wp2_with fail;go_roundw
     case rel=>exact⟨k+1,by go_num,by omega,by omega,HNx.out,F8.out⟩
     case measure=>simp[intOf];omega
   ·have hbf:b=false:=by
     cases b with
     | false=>rfl
     | true=>have h:=(HB.out.1 rfl).1;omega
    subst hbf;have hbig:¬(FL.length:Int)≤12:=by omega
    go_wp2;go_ret;exact⟨by simp[hbig],HF.out⟩
  ·have hbe:b=decide ((FL.length:Int)≤12):=by
    have hiff:b=true↔(FL.length:Int)≤12:=by
     rw[HB.out];exact⟨fun h=>by have:=h.1;omega,fun h=>⟨by omega,fun Fi hFi=>by
      obtain⟨j,hj,rfl⟩:=List.getElem_of_mem hFi;exact HA.out j _ (by omega) (List.getElem?_eq_getElem hj)⟩⟩
    cases b with
    | true=>exact(decide_eq_true (hiff.1 rfl)).symm
    | false=>exact(decide_eq_false (fun q=>by cases hiff.2 q)).symm
   have HBe:=Hh hbe;clear hbe;go_wp2;go_ret;exact⟨by rw[HBe.out];rfl,HF.out⟩
theorem NodeL.lowR {R:Nat→Prop}{w:World}{v:Value}{FN:List PL}(h:NodeL R encN w v FN):NodeL (fun q=>R q/\q<w.heap.size) encN w v FN:=by
 obtain⟨a,c,rfl,h1,h2,h3⟩:=h;refine⟨a,c,rfl,h1,h2,fun j y hy=>?_⟩;obtain⟨b,off,lv,rv,ha,hb,c1,c2,s1,s2,r1,r2⟩:=h3 j y hy;refine⟨b,off,lv,rv,ha,⟨hb,World.block_lt_of_cell? w _ c1⟩,c1,c2,s1,s2,fun hne q hq=>⟨r1 hne q hq,?_⟩,fun hne q hq=>⟨r2 hne q hq,?_⟩⟩
 ·obtain⟨b',hb',hl⟩:=s1.block hne;rw[hq]at hb';cases hb';exact hl
 ·obtain⟨b',hb',hl⟩:=s2.block hne;rw[hq]at hb';cases hb';exact hl
set_option maxHeartbeats 1000000 in
theorem zop (w:World):Calls Tryz.prog 163 #[] w fun e w'=>∃v',e=.returned (.agg #[v'])/\NodesS w.heap.size w' v' [([],[])]/\Fr NoM w w':=by
 obtain⟨w2,hw2⟩:∃w2,w2=(w.alloc (.cells #[.slice (some ⟨w.heap.size+1,0,none⟩) 1 1] 31)).alloc (.cells #[.slice none 0 0,.slice none 0 0] 85):=⟨_,rfl⟩;have hf2:Fr NoM w w2:=by rw[hw2];exact((Fr.refl NoM w).alloc _).alloc _
 have hb0:w2.heap[w.heap.size]?=some (.cells #[.slice (some ⟨w.heap.size+1,0,none⟩) 1 1] 31 (0,0)):=by
  rw[hw2];exact((Fr.refl NoM _).alloc _).heap (heap_alloc_new w _) (fun q=>q)
 have hb1:w2.heap[w.heap.size+1]?=some (.cells #[.slice none 0 0,.slice none 0 0] 85 (0,0)):=by
  have h:=heap_alloc_new (w.alloc (.cells #[.slice (some ⟨w.heap.size+1,0,none⟩) 1 1] 31)) (.cells #[.slice none 0 0,.slice none 0 0] 85);rw[World.size_alloc]at h;rw[hw2];exact h
 have k0:w2.cell? ⟨w.heap.size,0,none⟩=some (.slice (some ⟨w.heap.size+1,0,none⟩) 1 1):=by rw[cell_of_row w2 _ 0 _ _ _ hb0];rfl
 have HF2:=Hh hf2;have HB1:=Hh hb1;have HK:=Hh k0;clear hf2 hb0 hb1 k0;go_enter Tryz.func163,Tryz.ntmps163;go_upto_region 1 with fail;go_wp2_with fail;rw[←hw2];clear hw2;refine bodyPost_ret (v:=.agg #[.slice (some ⟨w.heap.size+1,0,none⟩) 1 1]) (by simp[results,Tryz.results163,go_sem,HK.out]) rfl ?_
 refine⟨_,rfl,⟨[(.slice none 0 0,.slice none 0 0)],⟨rfl,.inr ⟨w.heap.size+1,1,_,rfl,Nat.le_succ _,HB1.out,by simp,by decide,by simp,by simp[zb5]⟩⟩,rfl,fun j x y hx hy=>?_,fun q hq=>(List.not_mem_nil (a:=q) hq).elim,List.nodup_nil,fun q hq=>(List.not_mem_nil (a:=q) hq).elim⟩,HF2.out⟩;cases j with
 | zero =>
  have e:([],[])=y:=by simpa using hy
  have e':(Value.slice none 0 0,Value.slice none 0 0)=x:=by simpa using hx
  subst e;subst e';exact⟨SliceOf.nil _ _,SliceOf.nil _ _⟩
 | succ j=>simp at hy
end Go.Proofs.YtbbbmjiloihajaaGreatDoor
