import Derived.Deep.QuietTactic
import Derived.BigQuiet
import Derived.Deep.RegionLaw
import Derived.Test.YtkofnbjjbcohgaaGreatDoorZw9
/- Lemmas. -/
namespace Go.Proofs.YtkofnbjjbcohgaaGreatDoor
set_option linter.unusedVariables false
set_option linter.unusedSimpArgs false
open Go.RowKit
theorem za8:(Tryz.prog.info? 3).map (fun i=>(i.zero,i.size,i.bytes))=some (some (.int .i64 0),1,8):=by kernel_rfl
theorem zaa (a:Option Addr)(n c k b off:Nat)(hk:k<n)(ha:a=some ⟨b,off,none⟩)(w:World) :
  (Instr.indexAt 42 (.slice a n c) (.int .i64 (k:Int))).run Tryz.prog w=.ok (.pointer (some ⟨b,off+k,none⟩)) w:=by
 subst ha;go_simp
def betw (x lo hi:Int):Bool:=decide (lo≤x/\x≤hi)
theorem zk9 (x lo hi:Int)(w:World):Calls Tryz.prog 93 #[.int .i64 x,.int .i64 lo,.int .i64 hi] w fun e w'=>e=.returned (.bool (betw x lo hi))/\w=w':=by
 by_cases h1:lo≤x
 ·by_cases h2:x≤hi
  ·have hf:betw x lo hi=true:=by simp[betw,h1,h2]
   have Hf:=Hh hf;clear hf;go_enter Tryz.func93,Tryz.ntmps93;go_wp2;go_ret;exact⟨by rw[Hf.out];rfl,rfl⟩
  ·have hf:betw x lo hi=false:=by simp[betw,h2]
   have Hf:=Hh hf;clear hf;go_enter Tryz.func93,Tryz.ntmps93;go_wp2;go_ret;exact⟨by rw[Hf.out];rfl,rfl⟩
 ·have hf:betw x lo hi=false:=by simp[betw,h1]
  have Hf:=Hh hf;clear hf;go_enter Tryz.func93,Tryz.ntmps93;go_wp2;go_ret;exact⟨by rw[Hf.out];rfl,rfl⟩
theorem zrb (x y:Int)(w:World):Calls Tryz.prog 70 #[.int .i64 x,.int .i64 y] w fun e w'=>e=.returned (.int .i64 (max x y))/\w=w':=by
 by_cases h1:y<x
 ·have Hf:=Hh (show max x y=x by omega)
  go_enter Tryz.func70,Tryz.ntmps70;go_wp2;go_ret;exact⟨by rw[Hf.out];rfl,rfl⟩
 ·have Hf:=Hh (show max x y=y by omega)
  go_enter Tryz.func70,Tryz.ntmps70;go_wp2;go_ret;exact⟨by rw[Hf.out];rfl,rfl⟩
set_option maxHeartbeats 400000 in
theorem zc4 (av bv:Value)(A B:List Int)(w:World)(hA:Ints w av A)(hB:Ints w bv B) :
  Calls Tryz.prog 71 #[av,bv] w fun e w'=>e=.returned (.bool (decide (A=B)))/\∃q,w'=w.drewN q:=by
 obtain⟨aa,ac,rfl,hac,hacm,hA⟩:=hA;obtain⟨ba,bc,rfl,hbc,hbcm,hB⟩:=hB;have HA:=Hh hA;clear hA;have HB:=Hh hB;clear hB;by_cases hn:A.length=B.length
 ·have hne:((A.length:Int) != (B.length:Int))=false:=by simp[hn]
  have hfin:A.take A.length=B.take A.length→decide (A=B)=true:=fun h=>by
   rw[List.take_length,hn,List.take_length]at h;simp[h]
  have HN:=Hh hn;clear hn;have HF:=Hh hfin;clear hfin;go_enter Tryz.func71,Tryz.ntmps71;go_wp2;go_loopw [5] (fun i wr=>∃k q:Nat,k≤A.length/\i=.int .i64 k/\A.take k=B.take k/\wr=w.drewN q) (fun i _=>A.length-(intOf i).toNat)
  case atStart=>exact⟨0,0,by omega,rfl,rfl,rfl⟩
  case round =>
   obtain⟨k,q,hk,rfl,ht,rfl⟩:=hrel;have Ht:=Hh ht;clear ht;by_cases hlt':k<A.length
   ·have hlt2:k<B.length:=by rw[←HN.out];exact hlt'
    obtain⟨b1,o1,ha1,hc1⟩:=HA.out k A[k] (by simp);obtain⟨b2,o2,ha2,hc2⟩:=HB.out k B[k] (by simp);have ix1:=zaa aa A.length ac k b1 o1 hlt' ha1;have ix2:=zaa ba B.length bc k b2 o2 hlt2 ha2;unfold encI at hc1 hc2;clear ha1 ha2;by_cases hxy:A[k]=B[k]
    ·have hxy':(A[k] != B[k])=false:=by simp[hxy]
     have Hxy:=Hh hxy;clear hxy;go_wp2;go_quiet (fail);go_wp2;go_roundw
     case rel=>exact⟨k+1,_,by omega,by go_num,by rw[List.take_succ_eq_append_getElem hlt',List.take_succ_eq_append_getElem hlt2,Ht.out,Hxy.out],rfl⟩
     case measure=>simp[intOf];omega
    ·have hxy':(A[k] != B[k])=true:=by simp[hxy]
     have hfin:decide (A=B)=false:=by
      have:A≠B:=fun e=>by subst e;exact hxy rfl
      simp[this]
     have Hxy:=Hh hxy;clear hxy;have Hfin:=Hh hfin;clear hfin;go_wp2;go_quiet (fail);go_wp2;go_ret;exact⟨by rw[Hfin.out];rfl,_,World.drewN_drewN _ _ _⟩
   ·go_wp2
    go_ret;have hk':k=A.length:=by omega
    subst hk';exact⟨by rw[HF.out Ht.out];rfl,_,rfl⟩
 ·have hne:((A.length:Int) != (B.length:Int))=true:=by rw[bne_iff_ne];omega
  have hfin:decide (A=B)=false:=by
   have:A≠B:=fun e=>hn (by rw[e])
   simp[this]
  have Hfin:=Hh hfin;clear hfin hn;go_enter Tryz.func71,Tryz.ntmps71;go_wp2;go_ret;exact⟨by rw[Hfin.out];rfl,0,rfl⟩
def posN (L:List Nat)(n:Nat):Nat:=(L.takeWhile (fun x=>decide (x<n))).length
def putN (L:List Nat)(n:Nat):List Nat:=if L[posN L n]?=some n then L else L.take (posN L n)++n::L.drop (posN L n)
theorem zng (L:List Nat)(n k:Nat)(hk:k≤L.length)(h1:∀j x,j<k→L[j]?=some x→x<n)(h2:∀x,L[k]?=some x→¬x<n):posN L n=k:=by
 induction L generalizing k with
 | nil=>simp at hk;subst hk;rfl
 | cons y l ih =>
  cases k with
  | zero=>have:=h2 y rfl;simp[posN,this]
  | succ k =>
   have hy:=h1 0 y (by omega) rfl;have:=ih k (by simpa using hk) (fun j x hj hx=>h1 (j+1) x (by omega) (by simpa using hx)) (fun x hx=>h2 x (by simpa using hx));simp only[posN]at this ⊢
   simp[hy,this]
set_option maxHeartbeats 10000000 in
theorem zhu (lv:Value)(L:List Nat)(n:Nat)(w:World)(hL:Nats w lv L)(hl:L.length<1000000000000) :
  Calls Tryz.prog 69 #[lv,.int .i64 (n:Int)] w fun e w'=>∃v',e=.returned v'∧Nats w' v' (putN L n)/\Fr NoM w w'∧∀b,v'.ownBlock=some b→lv.ownBlock=some b∨w.heap.size≤b:=by
 have HS:=Hh hL;obtain⟨a,c,rfl,hac,hcm,hL⟩:=hL;have HL:=Hh hL;clear hL;have Hl:=Hh hl;clear hl;go_enter Tryz.func69,Tryz.ntmps69;go_wp2;go_loop [5] (fun i=>∃k:Nat,k≤L.length/\i=.int .i64 k/\∀j x,j<k→L[j]?=some x→x<n) (fun i=>L.length-(intOf i).toNat)
 case atStart=>exact⟨0,by omega,rfl,by intros;omega⟩
 case round =>
  obtain⟨k,hk,rfl,hj⟩:=hrel;have HJ:=Hh hj;clear hj;by_cases hlt':k<L.length
  ·obtain⟨b1,o1,ha1,hc1⟩:=HL.out k L[k] (by simp)
   have ix1:=zaa a L.length c k b1 o1 hlt' ha1;unfold encN at hc1;clear ha1;by_cases hx:L[k]<n
   ·go_wp2
    go_round
    case rel =>
     refine⟨k+1,by omega,by go_num,fun j x hj hx'=>?_⟩;by_cases e:j=k
     ·subst e;rw[List.getElem?_eq_getElem hlt']at hx';cases hx';exact hx
     ·exact HJ.out j x (by omega) hx'
    case measure=>simp[intOf];omega
   ·have hp:posN L n=k:=zng L n k hk HJ.out (fun x hx'=>by rw[List.getElem?_eq_getElem hlt']at hx';cases hx';exact hx)
    have HP:=Hh hp;clear hp;by_cases he:L[k]=n
    ·have hfin:putN L n=L:=by unfold putN;rw[HP.out,List.getElem?_eq_getElem hlt',he];simp
     have HF:=Hh hfin;clear hfin;have he':((L[k]:Int) == (n:Int))=true:=by simp[he]
     have He:=Hh he;clear he;go_wp2;go_ret;exact⟨_,rfl,by rw[HF.out];exact HS.out,Fr.refl _ _,fun b hb=>.inl hb⟩
    ·have hfin:putN L n=L.take k++n::L.drop k:=by unfold putN;rw[HP.out,List.getElem?_eq_getElem hlt'];simp[he]
     have HF:=Hh hfin;clear hfin;have he':((L[k]:Int) == (n:Int))=false:=by rw[beq_eq_false_iff_ne];omega
     have He:=Hh he;clear he;obtain⟨v1,r1,s1,q1⟩:=zn7 (P:=Tryz.prog) HS.out 42 3 (.int .i64 0) 8 Tryz.underlying42 za8 k hk;obtain⟨v2,r2,s2,q2⟩:=sliceFrom (P:=Tryz.prog) HS.out 42 3 (.int .i64 0) 8 Tryz.underlying42 za8 k hk;have HS1:=Hh (fun(W:World) (f:Fr NoM w W)=>s1.fr0 f);have HS2:=Hh (fun(W:World) (f:Fr NoM w W)=>s2.fr0 f);clear s1 s2 q1 q2;go_wp2;go_region_law (first
      | (refine zbc (enc:=encN) rfl (.tmp 33) (.tmp 36) 42 rfl w.heap.size 3 (.int .i64 0) 8 Tryz.underlying42 za8 rfl (.slice (some ⟨w.heap.size,0,none⟩) 0 0) 0 [] rfl (by exact World.ownsRow_made w #[] 0 (Nat.le_refl _) (by decide) (by simp)) v1 rfl (L.take k) (by exact HS1.out _ (((Fr.refl NoM w).alloc _).drew)) (fun _=>rfl) (by have:=Hl.out;simp;omega) (by decide) ((((Fr.refl NoM w).alloc _).drew).size) ?_;intro v3 w3 h3 f3 q3;have g3:Fr NoM w w3:=Fr.own (e:=3) (size:=1) (n:=0) (xs:=[]) (((Fr.refl NoM w).alloc _).drew) (World.ownsRow_made w #[] 0 (Nat.le_refl _) (by decide) (by simp)) f3)
      | (refine zbc (enc:=encN) rfl (.tmp 33) (.tmp 36) 42 rfl w.heap.size 3 (.int .i64 0) 8 Tryz.underlying42 za8 rfl (.slice (some ⟨w.heap.size,0,none⟩) 0 0) 0 [] rfl (by exact(World.ownsRow_made w #[] 0 (Nat.le_refl _) (by decide) (by simp)).alloc (.cells #[.int .i64 (n:Int)] 3)) v1 rfl (L.take k) (by exact HS1.out _ ((((Fr.refl NoM w).alloc _).alloc _).drew)) (fun _=>rfl) (by have:=Hl.out;simp;omega) (by decide) (((((Fr.refl NoM w).alloc _).alloc _).drew).size) ?_;intro v3 w3 h3 f3 q3;have g3:Fr NoM w w3:=Fr.own (e:=3) (size:=1) (n:=0) (xs:=[]) ((((Fr.refl NoM w).alloc _).alloc _).drew) ((World.ownsRow_made w #[] 0 (Nat.le_refl _) (by decide) (by simp)).alloc (.cells #[.int .i64 (n:Int)] 3)) f3)
      | (refine zbc (enc:=encN) rfl (.tmp 33) (.tmp 36) 42 rfl w.heap.size 3 (.int .i64 0) 8 Tryz.underlying42 za8 rfl (.slice (some ⟨w.heap.size+1,0,none⟩) 0 0) 0 [] rfl (by have h:=World.ownsRow_made (base:=w.heap.size) (e:=3) (size:=1) (w.alloc (.cells #[.int .i64 (n:Int)] 3)) #[] 0 (by simp) (by decide) (by simp);simp only[World.size_alloc]at h;exact h) v1 rfl (L.take k) (by exact HS1.out _ ((((Fr.refl NoM w).alloc _).alloc _).drew)) (fun _=>rfl) (by have:=Hl.out;simp;omega) (by decide) (((((Fr.refl NoM w).alloc _).alloc _).drew).size) ?_;intro v3 w3 h3 f3 q3;have g3:Fr NoM w w3:=Fr.own (e:=3) (size:=1) (n:=0) (xs:=[]) ((((Fr.refl NoM w).alloc _).alloc _).drew) (by have h:=World.ownsRow_made (base:=w.heap.size) (e:=3) (size:=1) (w.alloc (.cells #[.int .i64 (n:Int)] 3)) #[] 0 (by simp) (by decide) (by simp);simp only[World.size_alloc]at h;exact h) f3)
      | (refine zbd (enc:=encN) w (by first|exact g3.alloc _|exact g3) rfl (.tmp 37) (.tmp 39) 42 rfl 3 (.int .i64 0) 8 Tryz.underlying42 za8 rfl v3 (0+(L.take k).length) ([]++(L.take k).map encN) rfl (by first|exact h3.alloc _|exact h3) (.slice (some ⟨w3.heap.size,0,none⟩) 1 1) rfl [n] (by exact SliceOf.one encN w3 n 3) (fun _=>rfl) (by have:=Hl.out;simp;omega) (by decide) ?_;intro v4 w4 h4 f4)
      | (refine zbd (enc:=encN) w (by first|exact g3.alloc _|exact g3) rfl (.tmp 37) (.tmp 39) 42 rfl 3 (.int .i64 0) 8 Tryz.underlying42 za8 rfl v3 (0+(L.take k).length) ([]++(L.take k).map encN) rfl (by first|exact h3.alloc _|exact h3) (.slice (some ⟨w.heap.size+1,0,none⟩) 1 1) rfl [n] (by have h:=(SliceOf.one encN (w.alloc (.cells #[] 3)) n 3).fr (w:=((w.alloc (.cells #[] 3)).alloc (.cells #[encN n] 3)).drew) f3 (by simp[Own1,Value.ownBlock]);simp only[World.size_alloc]at h;exact h) (fun _=>rfl) (by have:=Hl.out;simp;omega) (by decide) ?_;intro v4 w4 h4 f4)
      | (refine zbd (enc:=encN) w (by first|exact g3.alloc _|exact g3) rfl (.tmp 37) (.tmp 39) 42 rfl 3 (.int .i64 0) 8 Tryz.underlying42 za8 rfl v3 (0+(L.take k).length) ([]++(L.take k).map encN) rfl (by first|exact h3.alloc _|exact h3) (.slice (some ⟨w.heap.size,0,none⟩) 1 1) rfl [n] (by exact((SliceOf.one encN w n 3).fr0 ((Fr.refl NoM _).alloc (.cells #[] 3))).fr (w:=((w.alloc (.cells #[encN n] 3)).alloc (.cells #[] 3)).drew) f3 (by simp[Own1,Value.ownBlock])) (fun _=>rfl) (by have:=Hl.out;simp;omega) (by decide) ?_;intro v4 w4 h4 f4)
      | (refine zbd (enc:=encN) w f4 rfl (.tmp 40) (.tmp 43) 42 rfl 3 (.int .i64 0) 8 Tryz.underlying42 za8 rfl v4 _ _ rfl h4 v2 rfl (L.drop k) (by exact HS2.out _ f4) (fun _=>rfl) (by have:=Hl.out;simp;omega) (by decide) ?_;intro v5 w5 h5 f5))
     all_goals
      go_wp2;go_ret;exact⟨v5,rfl,by rw[HF.out];exact SliceOf.of_owns h5 (by simp),f5,fun b hb=>.inr (h5.lt b hb).1⟩
  ·have hk':k=L.length:=by omega
   have hp:posN L n=k:=zng L n k hk HJ.out (fun x hx'=>by rw[hk',List.getElem?_eq_none (Nat.le_refl _)]at hx';cases hx');have HP:=Hh hp;clear hp;have hfin:putN L n=L.take k++n::L.drop k:=by unfold putN;rw[HP.out,hk',List.getElem?_eq_none (Nat.le_refl _)];simp
   have HF:=Hh hfin;clear hfin;have HK:=Hh hk';clear hk';obtain⟨v1,r1,s1,q1⟩:=zn7 (P:=Tryz.prog) HS.out 42 3 (.int .i64 0) 8 Tryz.underlying42 za8 k hk;obtain⟨v2,r2,s2,q2⟩:=sliceFrom (P:=Tryz.prog) HS.out 42 3 (.int .i64 0) 8 Tryz.underlying42 za8 k hk;have HS1:=Hh (fun(W:World) (f:Fr NoM w W)=>s1.fr0 f);have HS2:=Hh (fun(W:World) (f:Fr NoM w W)=>s2.fr0 f);clear s1 s2 q1 q2;go_wp2;go_region_law (first
    | (refine zbc (enc:=encN) rfl (.tmp 33) (.tmp 36) 42 rfl w.heap.size 3 (.int .i64 0) 8 Tryz.underlying42 za8 rfl (.slice (some ⟨w.heap.size,0,none⟩) 0 0) 0 [] rfl (by exact World.ownsRow_made w #[] 0 (Nat.le_refl _) (by decide) (by simp)) v1 rfl (L.take k) (by exact HS1.out _ (((Fr.refl NoM w).alloc _).drew)) (fun _=>rfl) (by have:=Hl.out;simp;omega) (by decide) ((((Fr.refl NoM w).alloc _).drew).size) ?_;intro v3 w3 h3 f3 q3;have g3:Fr NoM w w3:=Fr.own (e:=3) (size:=1) (n:=0) (xs:=[]) (((Fr.refl NoM w).alloc _).drew) (World.ownsRow_made w #[] 0 (Nat.le_refl _) (by decide) (by simp)) f3)
    | (refine zbc (enc:=encN) rfl (.tmp 33) (.tmp 36) 42 rfl w.heap.size 3 (.int .i64 0) 8 Tryz.underlying42 za8 rfl (.slice (some ⟨w.heap.size,0,none⟩) 0 0) 0 [] rfl (by exact(World.ownsRow_made w #[] 0 (Nat.le_refl _) (by decide) (by simp)).alloc (.cells #[.int .i64 (n:Int)] 3)) v1 rfl (L.take k) (by exact HS1.out _ ((((Fr.refl NoM w).alloc _).alloc _).drew)) (fun _=>rfl) (by have:=Hl.out;simp;omega) (by decide) (((((Fr.refl NoM w).alloc _).alloc _).drew).size) ?_;intro v3 w3 h3 f3 q3;have g3:Fr NoM w w3:=Fr.own (e:=3) (size:=1) (n:=0) (xs:=[]) ((((Fr.refl NoM w).alloc _).alloc _).drew) ((World.ownsRow_made w #[] 0 (Nat.le_refl _) (by decide) (by simp)).alloc (.cells #[.int .i64 (n:Int)] 3)) f3)
    | (refine zbc (enc:=encN) rfl (.tmp 33) (.tmp 36) 42 rfl w.heap.size 3 (.int .i64 0) 8 Tryz.underlying42 za8 rfl (.slice (some ⟨w.heap.size+1,0,none⟩) 0 0) 0 [] rfl (by have h:=World.ownsRow_made (base:=w.heap.size) (e:=3) (size:=1) (w.alloc (.cells #[.int .i64 (n:Int)] 3)) #[] 0 (by simp) (by decide) (by simp);simp only[World.size_alloc]at h;exact h) v1 rfl (L.take k) (by exact HS1.out _ ((((Fr.refl NoM w).alloc _).alloc _).drew)) (fun _=>rfl) (by have:=Hl.out;simp;omega) (by decide) (((((Fr.refl NoM w).alloc _).alloc _).drew).size) ?_;intro v3 w3 h3 f3 q3;have g3:Fr NoM w w3:=Fr.own (e:=3) (size:=1) (n:=0) (xs:=[]) ((((Fr.refl NoM w).alloc _).alloc _).drew) (by have h:=World.ownsRow_made (base:=w.heap.size) (e:=3) (size:=1) (w.alloc (.cells #[.int .i64 (n:Int)] 3)) #[] 0 (by simp) (by decide) (by simp);simp only[World.size_alloc]at h;exact h) f3)
    | (refine zbd (enc:=encN) w (by first|exact g3.alloc _|exact g3) rfl (.tmp 37) (.tmp 39) 42 rfl 3 (.int .i64 0) 8 Tryz.underlying42 za8 rfl v3 (0+(L.take k).length) ([]++(L.take k).map encN) rfl (by first|exact h3.alloc _|exact h3) (.slice (some ⟨w3.heap.size,0,none⟩) 1 1) rfl [n] (by exact SliceOf.one encN w3 n 3) (fun _=>rfl) (by have:=Hl.out;simp;omega) (by decide) ?_;intro v4 w4 h4 f4)
    | (refine zbd (enc:=encN) w (by first|exact g3.alloc _|exact g3) rfl (.tmp 37) (.tmp 39) 42 rfl 3 (.int .i64 0) 8 Tryz.underlying42 za8 rfl v3 (0+(L.take k).length) ([]++(L.take k).map encN) rfl (by first|exact h3.alloc _|exact h3) (.slice (some ⟨w.heap.size+1,0,none⟩) 1 1) rfl [n] (by have h:=(SliceOf.one encN (w.alloc (.cells #[] 3)) n 3).fr (w:=((w.alloc (.cells #[] 3)).alloc (.cells #[encN n] 3)).drew) f3 (by simp[Own1,Value.ownBlock]);simp only[World.size_alloc]at h;exact h) (fun _=>rfl) (by have:=Hl.out;simp;omega) (by decide) ?_;intro v4 w4 h4 f4)
    | (refine zbd (enc:=encN) w (by first|exact g3.alloc _|exact g3) rfl (.tmp 37) (.tmp 39) 42 rfl 3 (.int .i64 0) 8 Tryz.underlying42 za8 rfl v3 (0+(L.take k).length) ([]++(L.take k).map encN) rfl (by first|exact h3.alloc _|exact h3) (.slice (some ⟨w.heap.size,0,none⟩) 1 1) rfl [n] (by exact((SliceOf.one encN w n 3).fr0 ((Fr.refl NoM _).alloc (.cells #[] 3))).fr (w:=((w.alloc (.cells #[encN n] 3)).alloc (.cells #[] 3)).drew) f3 (by simp[Own1,Value.ownBlock])) (fun _=>rfl) (by have:=Hl.out;simp;omega) (by decide) ?_;intro v4 w4 h4 f4)
    | (refine zbd (enc:=encN) w f4 rfl (.tmp 40) (.tmp 43) 42 rfl 3 (.int .i64 0) 8 Tryz.underlying42 za8 rfl v4 _ _ rfl h4 v2 rfl (L.drop k) (by exact HS2.out _ f4) (fun _=>rfl) (by have:=Hl.out;simp;omega) (by decide) ?_;intro v5 w5 h5 f5))
   all_goals
    go_wp2;go_ret;exact⟨v5,rfl,by rw[HF.out];exact SliceOf.of_owns h5 (by simp),f5,fun b hb=>.inr (h5.lt b hb).1⟩
theorem zne (L:List Nat)(n:Nat):(putN L n).length≤L.length+1:=by
 unfold putN;split
 ·omega
 ·simp;omega
def za1 (A L:List Nat):List Nat:=L.map fun i=>A.getD i 0
theorem ziu (A L:List Nat)(k:Nat)(hk:k<L.length)(hx:L[k]<A.length):za1 A (L.take (k+1))=za1 A (L.take k) ++ [A[L[k]]]:=by
 unfold za1;rw[List.take_succ_eq_append_getElem hk,List.map_append];congr 1
 simp[List.getD_eq_getElem?_getD,List.getElem?_eq_getElem hx]
set_option maxHeartbeats 1000000 in
theorem zh0 (av lv:Value)(A L:List Nat)(w:World)(hA:Nats w av A)(hL:Nats w lv L)(hlt:∀(j x:Nat),L[j]?=some x→x<A.length)(hl:L.length<1000000000000) :
  Calls Tryz.prog 67 #[av,lv] w fun e w'=>∃v',e=.returned v'∧w'.ownsRow w.heap.size 3 1 v' L.length ((za1 A L).map encN)/\Fr NoM w w':=by
 have HSA:=Hh (fun(W:World) (f:Fr NoM w W)=>hA.fr0 f);have HSL:=Hh (fun(W:World) (f:Fr NoM w W)=>hL.fr0 f);obtain⟨aa,ac,rfl,hac,hacm,hA⟩:=hA;obtain⟨la,lc,rfl,hlc,hlcm,hL⟩:=hL;have HA:=Hh hA;clear hA;have HL:=Hh hL;clear hL;have Hlt:=Hh hlt;clear hlt;have Hl:=Hh hl;clear hl;go_enter Tryz.func67,Tryz.ntmps67;go_wp2;go_loopw [5,6] (fun v i wr=>∃k:Nat,k≤L.length/\i=.int .i64 k/\wr.ownsRow w.heap.size 3 1 v k ((za1 A (L.take k)).map encN)/\Fr NoM w wr) (fun _ i _=>L.length-(intOf i).toNat)
 case atStart=>exact⟨0,by omega,rfl,World.ownsRow_made w #[] 0 (by omega) (by decide) (by simp),(Fr.refl _ _).alloc _⟩
 case round =>
  obtain⟨k,hk,rfl,hown,hfr⟩:=hrel;by_cases hlt':k<L.length
  ·obtain⟨b1,o1,ha1,hc1⟩:=HL.out k L[k] (by simp)
   have hx:=Hlt.out k L[k] (by simp);obtain⟨b2,o2,ha2,hc2⟩:=HA.out L[k] A[L[k]] (by simp);have hc1':=hfr.cell hc1 (fun q=>q);have hc2':=hfr.cell hc2 (fun q=>q);have ix1:=zaa la L.length lc k b1 o1 hlt' ha1;have ix2:=zaa aa A.length ac L[k] b2 o2 hx ha2;unfold encN at hc1' hc2';have hnext:(za1 A (L.take k)).map encN ++ [encN A[L[k]]]=(za1 A (L.take (k+1))).map encN:=by
    rw[ziu A L k hlt' hx,List.map_append];rfl
   have HN:=Hh hnext;have HO:=Hh hown;have HFr:=Hh hfr;clear hc1 hc2 ha1 ha2 hnext hown hfr;go_wp2_with (at_builtin;refine zc0 (enc:=encN) w (HFr.out.alloc _) rfl _ _ 42 rfl 3 (.int .i64 0) 8 Tryz.underlying42 za8 rfl _ k _ rfl (HO.out.alloc _) _ rfl [A[L[k]]] (SliceOf.one encN wr A[L[k]] 3) (fun _=>rfl) ?c1 (by decide) ?_)
   case c1=>have:=Hl.out;simp;omega
   intro v' w' h1 h2;rw[HN.out]at h1;have H1:=Hh h1;have H2:=Hh h2;clear h1 h2;go_wp2;go_roundw
   case rel=>exact⟨k+1,by omega,by go_num,H1.out,H2.out⟩
   case measure=>simp[intOf];omega
  ·have hk':k=L.length:=by omega
   have HK:=Hh hk';have HO:=Hh hown;have HFr:=Hh hfr;clear hk' hown hfr;go_wp2;go_ret;exact⟨_,rfl,by have h:=HO.out;rw[HK.out,List.take_length]at h;exact h,HFr.out⟩
def za6 (L:List Nat):List Nat:=L.foldl putN []
theorem zg1 (L:List Nat)(x:Nat):za6 (L ++ [x])=putN (za6 L) x:=by simp[za6]
theorem zc8 (L:List Nat):(za6 L).length≤L.length:=by
 suffices h:∀(L A:List Nat),(L.foldl putN A).length≤A.length+L.length by have:=h L [];simpa [za6] using this
 intro L;induction L with
 | nil=>intro A;simp
 | cons x l ih=>intro A;have:=ih (putN A x);have:=zne A x;simp only[List.foldl_cons,List.length_cons];omega
set_option maxHeartbeats 1000000 in
theorem zgp (lv:Value)(L:List Nat)(w:World)(hL:Nats w lv L)(hl:L.length<1000000000000) :
  Calls Tryz.prog 66 #[lv] w fun e w'=>∃v',e=.returned v'∧Nats w' v' (za6 L)/\Fr NoM w w'∧∀b,v'.ownBlock=some b→w.heap.size≤b:=by
 obtain⟨la,lc,rfl,hlc,hlcm,hL⟩:=hL;have HL:=Hh hL;clear hL;have Hl:=Hh hl;clear hl;go_enter Tryz.func66,Tryz.ntmps66;go_wp2;go_loopw [3,4] (fun v i wr=>∃k:Nat,k≤L.length/\i=.int .i64 k/\Nats wr v (za6 (L.take k))/\Fr NoM w wr/\∀b,v.ownBlock=some b→w.heap.size≤b) (fun _ i _=>L.length-(intOf i).toNat)
 case atStart=>exact⟨0,by omega,rfl,SliceOf.of_owns (L:=[]) (World.ownsRow_made (base:=0) (e:=3) (size:=1) w #[] 0 (by omega) (by decide) (by simp)) rfl,(Fr.refl _ _).alloc _,by simp[Value.ownBlock]⟩
 case round =>
  obtain⟨k,hk,rfl,hs,hfr,hb⟩:=hrel;by_cases hlt':k<L.length
  ·obtain⟨b1,o1,ha1,hc1⟩:=HL.out k L[k] (by simp)
   have hc1':=hfr.cell hc1 (fun q=>q);have ix1:=zaa la L.length lc k b1 o1 hlt' ha1;unfold encN at hc1';have hnext:putN (za6 (L.take k)) L[k]=za6 (L.take (k+1)):=by rw[List.take_succ_eq_append_getElem hlt',zg1]
   have HN:=Hh hnext;have hlen:(za6 (L.take k)).length<1000000000000:=by have h1:=zc8 (L.take k);have:=Hl.out;have h3:=List.length_take_le k L;omega
   have HLen:=Hh hlen;have HS:=Hh hs;have HFr:=Hh hfr;have HB:=Hh hb;clear hc1 ha1 hnext hs hfr hb hlen;go_wp2_with fail;refine(zhu _ (za6 (L.take k)) L[k] wr HS.out HLen.out).mono ?_
   rintro e w1 ⟨v1,rfl,h1,h2,h3⟩;rw[HN.out]at h1;have H1:=Hh h1;have H2:=Hh h2;have H3:=Hh h3;clear h1 h2 h3;go_wp2;go_roundw
   case rel=>exact⟨k+1,by omega,by go_num,H1.out,HFr.out.trans H2.out (fun _ _ q=>q),fun b hb=>by
     rcases H3.out b hb with h|h
     ·exact HB.out b h
     ·exact Nat.le_trans HFr.out.size h⟩
   case measure=>simp[intOf];omega
  ·have hk':k=L.length:=by omega
   have HK:=Hh hk';have HS:=Hh hs;have HFr:=Hh hfr;have HB:=Hh hb;clear hk' hs hfr hb;go_wp2;go_ret;exact⟨_,rfl,by have h:=HS.out;rw[HK.out,List.take_length]at h;exact h,HFr.out,HB.out⟩
theorem zp0 (x lo hi:Int)(w:World):Calls Tryz.prog 93 #[.int .i64 x,.int .i64 lo,.int .i64 hi] w fun e w'=>e=.returned (.bool (betw x lo hi))/\w'=w :=
 (zk9 x lo hi w).mono fun _ _ h=>⟨h.1,h.2.symm⟩
theorem zoz (x y:Int)(w:World):Calls Tryz.prog 70 #[.int .i64 x,.int .i64 y] w fun e w'=>e=.returned (.int .i64 (max x y))/\w'=w :=
 (zrb x y w).mono fun _ _ h=>⟨h.1,h.2.symm⟩
def zad (lo hi:Int):Option Int→List Int→Bool
 | _,[]=>true
 | none,x::l=>betw x lo hi && zad lo hi (some x) l
 | some y,x::l=>betw x lo hi && (decide (y<x) && zad lo hi (some x) l)
def pv (L:List Int)(k:Nat):Option Int:=if k=0 then none else L[k-1]?
set_option maxHeartbeats 1000000 in
theorem zgq (lv:Value)(L:List Int)(lo hi:Int)(w:World)(hL:Ints w lv L) :
  Calls Tryz.prog 73 #[lv,.int .i64 lo,.int .i64 hi] w fun e w'=>e=.returned (.bool (zad lo hi none L))/\∃q,w'=w.drewN q:=by
 obtain⟨la,lc,rfl,hlc,hlcm,hL⟩:=hL;have HL:=Hh hL;clear hL;go_enter Tryz.func73,Tryz.ntmps73;go_wp2;go_loopw [7] (fun i wr=>∃k q:Nat,k≤L.length/\i=.int .i64 k/\zad lo hi none L=zad lo hi (pv L k) (L.drop k)/\wr=w.drewN q) (fun i _=>L.length-(intOf i).toNat)
 case atStart=>exact⟨0,0,by omega,rfl,rfl,rfl⟩
 case round =>
  obtain⟨k,q,hk,rfl,hr,hw⟩:=hrel;have HW:=Hh hw;by_cases hlt':k<L.length
  ·obtain⟨b1,o1,ha1,hc1⟩:=HL.out k L[k] (by simp)
   have ix1:=zaa la L.length lc k b1 o1 hlt' ha1;have hc1:wr.cell? ⟨b1,o1+k,none⟩=some (.int .i64 L[k]):=by rw[hw];exact hc1
   have hd:L.drop k=L[k]::L.drop (k+1):=List.drop_eq_getElem_cons hlt';rw[hd]at hr;have hpv:pv L (k+1)=some L[k]:=by simp[pv]
   have HPV:=Hh hpv;have Ha1:=Hh ha1;clear hd ha1 hpv hw;by_cases hb:betw L[k] lo hi=true
   ·by_cases h0:k=0
    ·have hn:zad lo hi none L=zad lo hi (pv L (k+1)) (L.drop (k+1)):=by rw[hr,HPV.out,show pv L k=none from by simp[pv,h0]];simp only[zad,hb,Bool.true_and]
     have HN:=Hh hn;have hgt:decide (0<k)=false:=by simp;omega
     clear hn hr h0;go_wp2;go_quiet ((go_at_call 93;exact Calls.quiet_of_same (zp0 _ _ _ _)));go_wp2;go_roundw
     case rel=>exact⟨k+1,_,by omega,by go_num,HN.out,by rw[HW.out];exact World.drewN_drewN _ _ _⟩
     case measure=>simp[intOf];omega
    ·obtain⟨b2,o2,ha2,hc2⟩:=HL.out (k-1) L[k-1] (by simp)
     have ix2:∀(W:World),(Instr.indexAt 42 (.slice la L.length lc) (.int .i64 ((k:Int)-1))).run Tryz.prog W=.ok (.pointer (some ⟨b2,o2+(k-1),none⟩)) W:=by
      intro W;have:=zaa la L.length lc (k-1) b2 o2 (by omega) ha2 W;rw[show((k-1:Nat):Int)=(k:Int)-1 from by omega]at this
      exact this
     have hc2:wr.cell? ⟨b2,o2+(k-1),none⟩=some (.int .i64 L[k-1]):=by rw[HW.out];exact hc2
     have hpk:pv L k=some L[k-1]:=by unfold pv;rw[if_neg h0];exact List.getElem?_eq_getElem (by omega)
     have hk0:0<k:=by omega
     have hgt:decide (0<(k:Int))=true:=by simp;omega
     clear ha2 h0;by_cases hy:L[k-1]<L[k]
     ·have hn:zad lo hi none L=zad lo hi (pv L (k+1)) (L.drop (k+1)):=by rw[hr,HPV.out,hpk];simp[zad,hb,hy]
      have HN:=Hh hn;clear hn hr hpk;go_wp2;go_quiet ((go_at_call 93;exact Calls.quiet_of_same (zp0 _ _ _ _)));go_wp2;go_roundw
      case rel=>exact⟨k+1,_,by omega,by go_num,HN.out,by rw[HW.out];exact World.drewN_drewN _ _ _⟩
      case measure=>simp[intOf];omega
     ·have hn:zad lo hi none L=false:=by rw[hr,hpk];simp[zad,hb,hy]
      have HN:=Hh hn;clear hn hr hpk;go_wp2;go_quiet ((go_at_call 93;exact Calls.quiet_of_same (zp0 _ _ _ _)));go_wp2;go_ret;exact⟨by rw[HN.out];rfl,_,by rw[HW.out];exact World.drewN_drewN _ _ _⟩
   ·have hb':betw L[k] lo hi=false:=by simpa using hb
    have hn:zad lo hi none L=false:=by rw[hr];cases pv L k <;> simp[zad,hb']
    have HN:=Hh hn;clear hn hr hb;go_wp2;go_quiet ((go_at_call 93;exact Calls.quiet_of_same (zp0 _ _ _ _)));go_wp2;go_ret;exact⟨by rw[HN.out];rfl,_,by rw[HW.out];exact World.drewN_drewN _ _ _⟩
  ·have hk':k=L.length:=by omega
   have hn:zad lo hi none L=true:=by rw[hr,hk',List.drop_length];cases pv L L.length <;> rfl
   have HN:=Hh hn;clear hn hr hk' hw;go_wp2;go_ret;exact⟨by rw[HN.out];rfl,_,HW.out⟩
def cmpL:List Nat→List Nat→Int
 | [],[]=>0
 | [],_::_=>-1
 | _::_,[]=>1
 | a::x,b::y=>if a=b then cmpL x y else if a<b then -1 else 1
set_option maxHeartbeats 1000000 in
theorem zg8 (av bv:Value)(A B:List Nat)(w:World)(hA:Nats w av A)(hB:Nats w bv B) :
  Calls Tryz.prog 92 #[av,bv] w fun e w'=>e=.returned (.int .i64 (cmpL A B))/\∃q,w'=w.drewN q:=by
 obtain⟨aa,ac,rfl,hac,hacm,hA⟩:=hA;obtain⟨ba,bc,rfl,hbc,hbcm,hB⟩:=hB;have HA:=Hh hA;clear hA;have HB:=Hh hB;clear hB;go_enter Tryz.func92,Tryz.ntmps92;go_wp2;go_loopw [5] (fun i wr=>∃k q:Nat,k≤A.length/\k≤B.length/\i=.int .i64 k/\cmpL A B=cmpL (A.drop k) (B.drop k)/\wr=w.drewN q) (fun i _=>A.length-(intOf i).toNat)
 case atStart=>exact⟨0,0,by omega,by omega,rfl,rfl,rfl⟩
 case round =>
  obtain⟨k,q,hk,hkb,rfl,hr,rfl⟩:=hrel;by_cases hlt':k<A.length
  ·by_cases hlt2:k<B.length
   ·obtain⟨b1,o1,ha1,hc1⟩:=HA.out k A[k] (by simp)
    obtain⟨b2,o2,ha2,hc2⟩:=HB.out k B[k] (by simp);have ix1:=zaa aa A.length ac k b1 o1 hlt' ha1;have ix2:=zaa ba B.length bc k b2 o2 hlt2 ha2;unfold encN at hc1 hc2;rw[List.drop_eq_getElem_cons hlt',List.drop_eq_getElem_cons hlt2]at hr;clear ha1 ha2;by_cases hxy:A[k]=B[k]
    ·have hxy':((A[k]:Int) != (B[k]:Int))=false:=by simp[hxy]
     have hn:cmpL A B=cmpL (A.drop (k+1)) (B.drop (k+1)):=by rw[hr];simp[cmpL,hxy]
     have HN:=Hh hn;clear hn hr hxy;go_wp2;go_quiet (fail);go_wp2;go_roundw
     case rel=>exact⟨k+1,_,by omega,by omega,by go_num,HN.out,rfl⟩
     case measure=>simp[intOf];omega
    ·have hxy':((A[k]:Int) != (B[k]:Int))=true:=by rw[bne_iff_ne];omega
     by_cases hl:A[k]<B[k]
     ·have hn:cmpL A B=-1:=by rw[hr];simp[cmpL,hxy,hl]
      have HN:=Hh hn;clear hn hr hxy;go_wp2;go_quiet (fail);go_wp2;go_quiet (fail);go_wp2;go_ret;exact⟨by rw[HN.out];rfl,_,by simp only[World.drewN_drewN];rfl⟩
     ·have hn:cmpL A B=1:=by rw[hr];simp[cmpL,hxy,hl]
      have HN:=Hh hn;clear hn hr hxy;go_wp2;go_quiet (fail);go_wp2;go_quiet (fail);go_wp2;go_ret;exact⟨by rw[HN.out];rfl,_,by simp only[World.drewN_drewN];rfl⟩
   ·have hk':k=B.length:=by omega
    have hlt3:B.length<A.length:=by omega
    have hn:cmpL A B=1:=by rw[hr,hk',List.drop_length,List.drop_eq_getElem_cons hlt3];rfl
    have HN:=Hh hn;have HK:=Hh hk';clear hn hr hk';go_wp2;go_ret;exact⟨by rw[HN.out];rfl,_,rfl⟩
  ·have hk':k=A.length:=by omega
   by_cases hlt2:A.length<B.length
   ·have hn:cmpL A B=-1:=by rw[hr,hk',List.drop_length,List.drop_eq_getElem_cons hlt2];rfl
    have HN:=Hh hn;have HK:=Hh hk';clear hn hr hk';go_wp2;go_ret;exact⟨by rw[HN.out];rfl,_,rfl⟩
   ·have hkb':k=B.length:=by omega
    have hn:cmpL A B=0:=by rw[hr,show A.drop k=[]from by rw[hk',List.drop_length],show B.drop k=[]from by rw[hkb',List.drop_length]];rfl
    have HN:=Hh hn;have HK:=Hh hk';clear hn hr hk' hkb';go_wp2;go_ret;exact⟨by rw[HN.out];rfl,_,rfl⟩
theorem zbi:(Tryz.prog.info? 55).map (fun i=>(i.zero,i.size,i.bytes))=some (some (.agg #[.slice none 0 0,.slice none 0 0]),2,48):=by kernel_rfl
theorem zbr (a:Option Addr)(n c k b off:Nat)(hk:k<n)(ha:a=some ⟨b,off,none⟩)(w:World) :
  (Instr.indexAt 25 (.slice a n c) (.int .i64 (k:Int))).run Tryz.prog w=.ok (.pointer (some ⟨b,off+k*2,none⟩)) w:=by
 subst ha;go_simp
def NodeL {α:Type} (R:Nat→Prop) (enc:α→Value) (w:World) (v:Value) (NL:List (List α × List α)):Prop :=
  ∃ a c, v = .slice a NL.length c ∧ NL.length ≤ c ∧ c ≤ 9223372036854775807 ∧
    ∀ (j : Nat) (y : List α × List α), NL[j]? = some y → ∃ b off lv rv, a = some ⟨b, off, none⟩ ∧ R b ∧ w.cell? ⟨b, off + j * 2, none⟩ = some lv ∧ w.cell? ⟨b, off + j * 2 + 1, none⟩ = some rv ∧
      SliceOf enc w lv y.1∧SliceOf enc w rv y.2∧(y.1≠[]→∀ q,lv.ownBlock=some q→R q)∧(y.2≠[]→∀ q,rv.ownBlock=some q→R q)
def AnyB:Nat→Prop:=fun _=>True
section
variable {α:Type}{R:Nat→Prop}{enc:α→Value}{w w':World}{v:Value}{NL:List (List α × List α)}
theorem NodeL.fr {M:Nat→Prop}(h:NodeL R enc w v NL)(hf:Fr M w w')(hm:∀k,R k→¬M k):NodeL R enc w' v NL:=by
 obtain⟨a,c,rfl,h1,h2,h3⟩:=h;refine⟨a,c,rfl,h1,h2,fun j y hy=>?_⟩;obtain⟨b,off,lv,rv,ha,hb,c1,c2,s1,s2,r1,r2⟩:=h3 j y hy;exact⟨b,off,lv,rv,ha,hb,hf.cell c1 (hm b hb),hf.cell c2 (hm b hb),s1.fr hf (fun hne q hq=>hm q (r1 hne q hq)),s2.fr hf (fun hne q hq=>hm q (r2 hne q hq)),r1,r2⟩
theorem NodeL.fr0 (h:NodeL R enc w v NL)(hf:Fr NoM w w'):NodeL R enc w' v NL:=h.fr hf fun _ _ q=>q
theorem NodeL.mono {R':Nat→Prop}(h:NodeL R enc w v NL)(hr:∀k,R k→R' k):NodeL R' enc w v NL:=by
 obtain⟨a,c,rfl,h1,h2,h3⟩:=h;refine⟨a,c,rfl,h1,h2,fun j y hy=>?_⟩;obtain⟨b,off,lv,rv,ha,hb,c1,c2,s1,s2,r1,r2⟩:=h3 j y hy;exact⟨b,off,lv,rv,ha,hr b hb,c1,c2,s1,s2,fun hne q hq=>hr q (r1 hne q hq),fun hne q hq=>hr q (r2 hne q hq)⟩
theorem SliceOf.conv {β:Type}{enc':β→Value}{L:List α}{f:α→β}(h:SliceOf enc w v L)(hf:∀x,enc' (f x)=enc x):SliceOf enc' w v (L.map f):=by
 obtain⟨a,c,rfl,h1,h2,h3⟩:=h;refine⟨a,c,by simp,by simpa using h1,h2,fun j x hx=>?_⟩;rw[List.getElem?_map]at hx;cases hq:L[j]? with
 | none=>rw[hq]at hx;cases hx
 | some y=>rw[hq]at hx;cases hx;rw[hf];exact h3 j y hq
end
def ints (L:List Nat):List Int:=L.map Int.ofNat
theorem Nats.ints {w:World}{v:Value}{L:List Nat}(h:Nats w v L):Ints w v (ints L):=SliceOf.conv h fun _=>rfl
def zby {α:Type}(NL:List (List α × List α)):Bool:=decide (NL.length≤120/\1≤NL.length/\∀y∈NL,y.1.length≤24/\y.2.length≤24)
set_option maxHeartbeats 2000000 in
theorem zra {α:Type}{R:Nat→Prop}{enc:α→Value}(nv:Value)(NL:List (List α × List α))(w:World)(h:NodeL R enc w nv NL) :
  Calls Tryz.prog 72 #[.agg #[nv]] w fun e w'=>e=.returned (.bool (zby NL))/\Fr NoM w w':=by
 obtain⟨a,c,rfl,hac,hcm,hn⟩:=h;have HN:=Hh hn;clear hn;go_enter Tryz.func72,Tryz.ntmps72;go_wp2;go_loop [3] (fun i=>∃k:Nat,k≤NL.length/\k≤121/\i=.int .i64 k/\∀j y,j<k→NL[j]?=some y→y.1.length≤24/\y.2.length≤24) (fun i=>NL.length-(intOf i).toNat)
 case atStart=>exact⟨0,by omega,by omega,rfl,by intros;omega⟩
 case round =>
  obtain⟨k,hk,hk1,rfl,hj⟩:=hrel;have HJ:=Hh hj;clear hj;by_cases hlt:k<NL.length
  ·by_cases hle:k≤120
   ·obtain⟨b,off,lv,rv,ha,_,c1,c2,s1,s2,_,_⟩:=HN.out k NL[k] (by simp)
    have ix:=zbr a NL.length c k b off hlt ha;obtain⟨la,lc,rfl,_,_,_⟩:=s1;obtain⟨ra,rc,rfl,_,_,_⟩:=s2;have hb:b<w.heap.size:=World.block_lt_of_cell? w _ c1;have c1':(w.alloc (.cells #[.slice a NL.length c] 27)).cell? ⟨b,off+k*2,none⟩=some (.slice la NL[k].1.length lc):=(World.cell?_alloc_past _ _ _ hb).trans c1;have c2':(w.alloc (.cells #[.slice a NL.length c] 27)).cell? ⟨b,off+k*2+1,none⟩=some (.slice ra NL[k].2.length rc):=(World.cell?_alloc_past _ _ _ hb).trans c2;clear ha c1 c2;by_cases h1:24<NL[k].1.length
    ·have hf:zby NL=false:=by
      simp only[zby,decide_eq_false_iff_not];intro q;have:=q.2.2 NL[k] (List.getElem_mem _);omega
     have HF:=Hh hf;clear hf;go_wp2;go_ret;exact⟨by rw[HF.out];rfl,(Fr.refl _ _).alloc _⟩
    ·by_cases h2:24<NL[k].2.length
     ·have hf:zby NL=false:=by
       simp only[zby,decide_eq_false_iff_not];intro q;have:=q.2.2 NL[k] (List.getElem_mem _);omega
      have HF:=Hh hf;clear hf;go_wp2;go_ret;exact⟨by rw[HF.out];rfl,(Fr.refl _ _).alloc _⟩
     ·go_wp2
      go_round
      case rel =>
       refine⟨k+1,by omega,by omega,by go_num,fun j y hj hy=>?_⟩;by_cases e:j=k
       ·subst e;rw[List.getElem?_eq_getElem hlt]at hy;cases hy;omega
       ·exact HJ.out j y (by omega) hy
      case measure=>simp[intOf];omega
   ·have hf:zby NL=betw NL.length 1 120:=by
     have:¬NL.length≤120:=by omega
     rw[show zby NL=false from by simp[zby,this],show betw NL.length 1 120=false from by simp[betw];omega]
    have HF:=Hh hf;clear hf;go_wp2_with fail;refine(zk9 _ _ _ _).mono ?_
    rintro e w' ⟨rfl,rfl⟩;go_wp2;go_ret;exact⟨by rw[HF.out];rfl,(Fr.refl _ _).alloc _⟩
  ·have hk':k=NL.length:=by omega
   have hf:zby NL=betw NL.length 1 120:=by
    have hall:∀y∈NL,y.1.length≤24/\y.2.length≤24:=fun y hy=>by
     obtain⟨j,hj,rfl⟩:=List.getElem_of_mem hy;exact HJ.out j _ (by omega) (List.getElem?_eq_getElem hj)
    rw[Bool.eq_iff_iff];simp only[zby,betw,decide_eq_true_eq];constructor
    ·rintro⟨a,b,_⟩;omega
    ·rintro⟨a,b⟩;exact⟨by omega,by omega,hall⟩
   have HF:=Hh hf;clear hf;have HK:=Hh hk';clear hk';go_wp2_with fail;refine(zk9 _ _ _ _).mono ?_
   rintro e w' ⟨rfl,rfl⟩;go_wp2;go_ret;exact⟨by rw[HF.out];rfl,(Fr.refl _ _).alloc _⟩
set_option maxHeartbeats 2000000 in
theorem zr6 {R S:Nat→Prop}(av bv:Value)(A B:List (List Int × List Int))(w:World)(hA:NodeL R encI w av A)(hB:NodeL S encI w bv B) :
  Calls Tryz.prog 74 #[.agg #[av],.agg #[bv]] w fun e w'=>e=.returned (.bool (decide (A=B)))/\Fr NoM w w':=by
 obtain⟨aa,ac,rfl,hac,hacm,hA⟩:=hA;obtain⟨ba,bc,rfl,hbc,hbcm,hB⟩:=hB;have HA:=Hh hA;clear hA;have HB:=Hh hB;clear hB;by_cases hn:A.length=B.length
 ·have hne:((A.length:Int) != (B.length:Int))=false:=by simp[hn]
  have hfin:A.take A.length=B.take A.length→decide (A=B)=true:=fun h=>by
   rw[List.take_length,hn,List.take_length]at h;simp[h]
  have HN:=Hh hn;clear hn;have HF:=Hh hfin;clear hfin;go_enter Tryz.func74,Tryz.ntmps74;go_wp2;obtain⟨w0,hw0⟩:∃w0:World,w0=(w.alloc (.cells #[.slice aa A.length ac] 27)).alloc (.cells #[.slice ba B.length bc] 27):=⟨_,rfl⟩;have F0:Fr NoM w w0:=by rw[hw0];exact((Fr.refl NoM w).alloc _).alloc _
  have k1:w0.cell? ⟨w.heap.size,0,none⟩=some (.slice aa A.length ac):=by
   rw[hw0,World.cell?_alloc_past _ _ _ (by simp),World.cell?_alloc_at _ _ _ _ rfl];rfl
  have k2:w0.cell? ⟨w.heap.size+1,0,none⟩=some (.slice ba B.length bc):=by
   rw[hw0,World.cell?_alloc_at _ _ _ _ (by simp)];rfl
  rw[←hw0];have HF0:=Hh F0;clear F0 hw0;have K1:=Hh k1;have K2:=Hh k2;clear k1 k2;go_loopw [5] (fun i wr=>∃k q:Nat,k≤A.length/\i=.int .i64 k/\A.take k=B.take k/\wr=w0.drewN q) (fun i _=>A.length-(intOf i).toNat)
  case atStart=>exact⟨0,0,by omega,rfl,rfl,rfl⟩
  case round =>
   obtain⟨k,q,hk,rfl,ht,hw⟩:=hrel;have k1:wr.cell? ⟨w.heap.size,0,none⟩=some (.slice aa A.length ac):=by rw[hw];exact K1.out
   have k2:wr.cell? ⟨w.heap.size+1,0,none⟩=some (.slice ba B.length bc):=by rw[hw];exact K2.out
   have Fwr:Fr NoM w wr:=by rw[hw];exact HF0.out.trans (M':=NoM) ⟨rfl,rfl,rfl,Nat.le_refl _,fun _ _ _=>rfl⟩ (fun _ _ q=>q)
   have Ht:=Hh ht;have HW:=Hh hw;have HFw:=Hh Fwr;clear ht hw Fwr;by_cases hlt':k<A.length
   ·have hlt2:k<B.length:=by rw[←HN.out];exact hlt'
    obtain⟨b1,o1,l1,r1,ha1,_,c1,c2,s1,s2,_,_⟩:=HA.out k A[k] (by simp);obtain⟨b2,o2,l2,r2,ha2,_,d1,d2,t1,t2,_,_⟩:=HB.out k B[k] (by simp);have ix1:=zbr aa A.length ac k b1 o1 hlt' ha1;have ix2:=zbr ba B.length bc k b2 o2 hlt2 ha2;have c1':=HFw.out.cell c1 (fun q=>q);have c2':=HFw.out.cell c2 (fun q=>q);have d1':=HFw.out.cell d1 (fun q=>q);have d2':=HFw.out.cell d2 (fun q=>q);have HS1:=Hh (fun(n:Nat)=>s1.fr0 (HFw.out.trans (M':=NoM) (c:=wr.drewN n) ⟨rfl,rfl,rfl,Nat.le_refl _,fun _ _ _=>rfl⟩ (fun _ _ q=>q)));have HS2:=Hh (fun(n:Nat)=>s2.fr0 (HFw.out.trans (M':=NoM) (c:=wr.drewN n) ⟨rfl,rfl,rfl,Nat.le_refl _,fun _ _ _=>rfl⟩ (fun _ _ q=>q)));have HT1:=Hh (fun(n:Nat)=>t1.fr0 (HFw.out.trans (M':=NoM) (c:=wr.drewN n) ⟨rfl,rfl,rfl,Nat.le_refl _,fun _ _ _=>rfl⟩ (fun _ _ q=>q)));have HT2:=Hh (fun(n:Nat)=>t2.fr0 (HFw.out.trans (M':=NoM) (c:=wr.drewN n) ⟨rfl,rfl,rfl,Nat.le_refl _,fun _ _ _=>rfl⟩ (fun _ _ q=>q)));clear ha1 ha2 c1 c2 d1 d2 s1 s2 t1 t2;by_cases e1:A[k].1=B[k].1
    ·have e1':decide (A[k].1=B[k].1)=true:=decide_eq_true e1
     have E1:=Hh e1;clear e1;by_cases e2:A[k].2=B[k].2
     ·have e2':decide (A[k].2=B[k].2)=true:=decide_eq_true e2
      have hAB:A.take (k+1)=B.take (k+1):=by
       have hab:A[k]=B[k]:=Prod.ext E1.out e2;rw[List.take_succ_eq_append_getElem hlt',List.take_succ_eq_append_getElem hlt2,Ht.out,hab]
      have HAB:=Hh hAB;clear e2 hAB;go_wp2;go_quiet ((first|(go_at_call 71;with_reducible exact Calls.quiet_of (zc4 _ _ A[k].1 B[k].1 _ (HS1.out _) (HT1.out _)))|(go_at_call 71;with_reducible exact Calls.quiet_of (zc4 _ _ A[k].2 B[k].2 _ (HS2.out _) (HT2.out _)))));go_wp2;go_roundw
      case rel=>exact⟨k+1,_,by omega,by go_num,HAB.out,by rw[HW.out];exact World.drewN_drewN _ _ _⟩
      case measure=>simp[intOf];omega
     ·have e2':decide (A[k].2=B[k].2)=false:=decide_eq_false e2
      have hf:decide (A=B)=false:=by
       have:A≠B:=fun e=>by subst e;exact e2 rfl
       simp[this]
      have HFn:=Hh hf;clear e2 hf;go_wp2;go_quiet ((first|(go_at_call 71;with_reducible exact Calls.quiet_of (zc4 _ _ A[k].1 B[k].1 _ (HS1.out _) (HT1.out _)))|(go_at_call 71;with_reducible exact Calls.quiet_of (zc4 _ _ A[k].2 B[k].2 _ (HS2.out _) (HT2.out _)))));go_wp2;go_ret;refine⟨congrArg (fun b=>Ending.returned (.bool b)) HFn.out.symm,?_⟩;exact HFw.out.trans (M':=NoM) ⟨rfl,rfl,rfl,Nat.le_refl _,fun _ _ _=>rfl⟩ (fun _ _ q=>q)
    ·have e1':decide (A[k].1=B[k].1)=false:=decide_eq_false e1
     have hf:decide (A=B)=false:=by
      have:A≠B:=fun e=>by subst e;exact e1 rfl
      simp[this]
     have HFn:=Hh hf;clear e1 hf;go_wp2;go_quiet ((first|(go_at_call 71;with_reducible exact Calls.quiet_of (zc4 _ _ A[k].1 B[k].1 _ (HS1.out _) (HT1.out _)))|(go_at_call 71;with_reducible exact Calls.quiet_of (zc4 _ _ A[k].2 B[k].2 _ (HS2.out _) (HT2.out _)))));go_wp2;go_ret;refine⟨congrArg (fun b=>Ending.returned (.bool b)) HFn.out.symm,?_⟩;exact HFw.out.trans (M':=NoM) ⟨rfl,rfl,rfl,Nat.le_refl _,fun _ _ _=>rfl⟩ (fun _ _ q=>q)
   ·have hk':k=A.length:=by omega
    have hf:decide (A=B)=true:=HF.out (by rw[←hk'];exact Ht.out);have HFn:=Hh hf;have HK:=Hh hk';clear hk' hf;go_wp2;go_ret;exact⟨by rw[HFn.out];rfl,HFw.out⟩
 ·have hne:((A.length:Int) != (B.length:Int))=true:=by rw[bne_iff_ne];omega
  have hfin:decide (A=B)=false:=by
   have:A≠B:=fun e=>hn (by rw[e])
   simp[this]
  have Hfin:=Hh hfin;clear hfin hn;go_enter Tryz.func74,Tryz.ntmps74;go_wp2;go_ret;exact⟨by rw[Hfin.out];rfl,((Fr.refl _ _).alloc _).alloc _⟩
def zac (x y:List Nat × List Nat):Bool:=if cmpL x.1 y.1=0 then decide (cmpL x.2 y.2<0)else decide (cmpL x.1 y.1<0)
set_option maxHeartbeats 2000000 in
theorem zht (l1 r1 l2 r2:Value)(x y:List Nat × List Nat)(w:World)(h1:Nats w l1 x.1)(h2:Nats w r1 x.2)(h3:Nats w l2 y.1)(h4:Nats w r2 y.2) :
  Calls Tryz.prog 68 #[.agg #[l1,r1],.agg #[l2,r2]] w fun e w'=>e=.returned (.bool (zac x y))/\Fr NoM w w':=by
 have B1:=Hh (fun(W:World) (f:Fr NoM w W)=>h1.fr0 f);have B2:=Hh (fun(W:World) (f:Fr NoM w W)=>h2.fr0 f);have B3:=Hh (fun(W:World) (f:Fr NoM w W)=>h3.fr0 f);have B4:=Hh (fun(W:World) (f:Fr NoM w W)=>h4.fr0 f);have O1:l1.oneCell'=true:=by obtain⟨_,_,rfl,_⟩:=h1;rfl
 have O2:r1.oneCell'=true:=by obtain⟨_,_,rfl,_⟩:=h2;rfl
 have O3:l2.oneCell'=true:=by obtain⟨_,_,rfl,_⟩:=h3;rfl
 have O4:r2.oneCell'=true:=by obtain⟨_,_,rfl,_⟩:=h4;rfl
 clear h1 h2 h3 h4;have F2:∀n,Fr NoM w ((((w.alloc (.cells #[l1,r1] 55)).alloc (.cells #[l2,r2] 55))).drewN n):=fun n=>(((Fr.refl NoM w).alloc _).alloc _).trans (M':=NoM) ⟨rfl,rfl,rfl,Nat.le_refl _,fun _ _ _=>rfl⟩ (fun _ _ q=>q)
 have HF2:=Hh F2;clear F2;have hd:∀(W:World) (n:Nat),(W.drewN n)=(W.drewN n):=fun _ _=>rfl
 clear hd;by_cases hc:cmpL x.1 y.1=0
 ·have hc':(cmpL x.1 y.1 != 0)=false:=by simp[hc]
  have hr:zac x y=decide (cmpL x.2 y.2<0):=by unfold zac;rw[if_pos hc]
  have HR:=Hh hr;have HC:=Hh hc;clear hr hc;go_enter Tryz.func68,Tryz.ntmps68;go_wp2_with fail;refine(zg8 l1 l2 x.1 y.1 _ (B1.out _ (HF2.out 0)) (B3.out _ (HF2.out 0))).mono ?_
  rintro e w' ⟨rfl,q,rfl⟩;go_wp2_with fail;refine(zg8 r1 r2 x.2 y.2 _ (B2.out _ (HF2.out q)) (B4.out _ (HF2.out q))).mono ?_
  rintro e w' ⟨rfl,q2,rfl⟩;go_wp2;go_ret;exact⟨by rw[HR.out];rfl,HF2.out (q+q2)⟩
 ·have hc':(cmpL x.1 y.1 != 0)=true:=by simp[hc]
  have hr:zac x y=decide (cmpL x.1 y.1<0):=by unfold zac;rw[if_neg hc]
  have HR:=Hh hr;have HC:=Hh hc;clear hr hc;go_enter Tryz.func68,Tryz.ntmps68;go_wp2_with fail;refine(zg8 l1 l2 x.1 y.1 _ (B1.out _ (HF2.out 0)) (B3.out _ (HF2.out 0))).mono ?_
  rintro e w' ⟨rfl,q,rfl⟩;go_wp2;go_ret;exact⟨by rw[HR.out];rfl,HF2.out q⟩
structure DyBox (W:World) (b:Nat) (T P:Int):Prop where
 top:W.cell? ⟨b,0,none⟩=some (.int .i64 T)
 pow:W.cell? ⟨b,1,none⟩=some (.int .i64 P)
theorem DyBox.fr0 {W W':World}{b:Nat}{T P:Int}(h:DyBox W b T P)(hf:Fr NoM W W'):DyBox W' b T P:=⟨hf.cell h.top (fun q=>q),hf.cell h.pow (fun q=>q)⟩
theorem DyBox.made {W W':World}{T P:Int}(hW:W'=W.alloc (.cells #[.int .i64 T,.int .i64 P] 32)):DyBox W' W.heap.size T P:=by
 have h:=heap_alloc_new W (.cells #[.int .i64 T,.int .i64 P] 32);rw[←hW]at h;exact⟨by rw[cell_of_row W' _ 0 _ _ _ h];rfl,by rw[cell_of_row W' _ 1 _ _ _ h];rfl⟩
end Go.Proofs.YtkofnbjjbcohgaaGreatDoor
