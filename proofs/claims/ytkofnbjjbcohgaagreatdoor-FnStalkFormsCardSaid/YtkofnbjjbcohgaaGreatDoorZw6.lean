import Derived.Test.YtkofnbjjbcohgaaGreatDoorShelfS
import Derived.Test.YtkofnbjjbcohgaaGreatDoorZw1
/- Lemmas. -/
namespace Go.Proofs.YtkofnbjjbcohgaaGreatDoor
set_option linter.unusedVariables false
set_option linter.unusedSimpArgs false
open Go.RowKit Go.Sort
theorem ze4 {α:Type}[Inhabited α]{enc:α→Value}{w:World}{base:Nat}{e:TypeId}{g n cap:Nat}{xs:List Value}(h:w.ownsRow base e 1 (.slice (some ⟨g,0,none⟩) n cap) n xs)(d:Array α)(hx:xs=d.toList.map enc):Holds enc w g 0 d:=by
 rcases h.2 with ⟨h0,_⟩|⟨g',cap',cur,hv,hb,hg,hnc,hcm,hs,ht⟩
 ·cases h0
 ·cases hv
  have hl:xs.length=n*1:=h.1;intro j hj;have hjn:j<n:=by rw[hx]at hl;simp at hl;omega
  refine⟨?_,by simp[World.frozen?,hg]⟩;rw[Nat.zero_add,cell_of_row w g j cur _ _ hg];have:(cur.toList.take (n*1))[j]?=some (enc d[j]!):=by
   rw[ht,hx,List.getElem?_map,Array.getElem?_toList,Array.getElem?_eq_getElem hj,getElem!_pos d j hj];rfl
  rw[List.getElem?_take,if_pos (by omega)]at this
  simpa using this
theorem zhx {α:Type}[Inhabited α]{enc:α→Value}{w:World}{g:Nat}{cur:Array Value}{e:TypeId}{fr:Nat × Nat}(h:w.heap[g]?=some (.cells cur e fr))(d:Array α)(q:Nat)(os:Array Obj) :
  (grow (putRow enc (Sort.ahead w q) g 0 d) os).heap[g]?=some (.cells (putCells enc 0 d cur) e fr)/\Fr (fun k=>k=g) w (grow (putRow enc (Sort.ahead w q) g 0 d) os):=by
 have hlt:g<w.heap.size:=(Array.getElem?_eq_some_iff.1 h).1;constructor
 ·rw[heap_grow_old _ _ (by simpa using hlt)]
  unfold putRow mapBlock;simp only[Array.getElem?_modify,if_true,Sort.heap_ahead,h,Option.map_some,onCells]
 ·refine⟨rfl,rfl,rfl,by simp,fun k hk hne=>?_⟩
  rw[heap_grow_old _ _ (by simpa using hk)];unfold putRow mapBlock;simp only[Array.getElem?_modify,Sort.heap_ahead];rw[if_neg (fun e=>hne e.symm)]
theorem zdy {α:Type}[Inhabited α]{enc:α→Value}{w:World}{base:Nat}{e:TypeId}{g n cap:Nat}{xs:List Value}(h:w.ownsRow base e 1 (.slice (some ⟨g,0,none⟩) n cap) n xs)(d:Array α)(hd:d.size=n)(q:Nat)(os:Array Obj) :
  (grow (putRow enc (Sort.ahead w q) g 0 d) os).ownsRow base e 1 (.slice (some ⟨g,0,none⟩) n cap) n (d.toList.map enc)/\Fr (fun k=>k=g) w (grow (putRow enc (Sort.ahead w q) g 0 d) os):=by
 rcases h.2 with ⟨h0,_⟩|⟨g',cap',cur,hv,hb,hg,hnc,hcm,hs,ht⟩
 ·cases h0
 ·cases hv
  obtain⟨h1,h2⟩:=zhx (enc:=enc) hg d q os;refine⟨⟨by simp[hd],.inr ⟨g,cap,_,rfl,hb,h1,hnc,hcm,by simp[putCells,hs],?_⟩⟩,h2⟩;apply List.ext_getElem?
  intro i;rw[List.getElem?_take];by_cases hi:i<n*1
  ·rw[if_pos hi,List.getElem?_map,Array.getElem?_toList,Array.getElem?_toList,Array.getElem?_eq_getElem (xs:=d) (i:=i) (by omega)]
   unfold putCells;rw[Array.getElem?_mapIdx,Array.getElem?_eq_getElem (by omega)];simp only[Option.map_some];rw[if_pos ⟨Nat.zero_le _,by omega⟩,Nat.sub_zero,getElem!_pos d i (by omega)]
  ·rw[if_neg hi,List.getElem?_map,Array.getElem?_toList,Array.getElem?_eq_none (by omega)];rfl
theorem zni {w:World}{base:Nat}{e:TypeId}{g n cap m:Nat}{xs:List Value}(h:w.ownsRow base e 1 (.slice (some ⟨g,0,none⟩) n cap) n xs)(hm:m≤n):w.ownsRow base e 1 (.slice (some ⟨g,0,none⟩) m cap) m (xs.take m):=by
 rcases h.2 with ⟨h0,_⟩|⟨g',cap',cur,hv,hb,hg,hnc,hcm,hs,ht⟩
 ·cases h0
 ·cases hv
  have hl:=h.1;refine⟨by simp;omega,.inr ⟨g,cap,cur,rfl,hb,hg,by omega,hcm,hs,?_⟩⟩;rw[←ht,List.take_take,Nat.mul_one,Nat.mul_one,Nat.min_eq_left hm]
theorem zit (zs:List Int)(h:zs.Pairwise (·≤·)):(Lib.compact zs).Pairwise (· < ·)/\(∀x,x∈Lib.compact zs↔x∈zs)/\(Lib.compact zs).length≤zs.length:=by
 have hle:∀i j:Nat,i≤j→j<zs.length→zs.toArray[i]! ≤ zs.toArray[j]! := by
  intro i j hij hj;rw[getElem!_pos zs.toArray i (by simp;omega),getElem!_pos zs.toArray j (by simpa using hj)];simp only[List.getElem_toArray];rcases Nat.lt_or_ge i j with hlt|hge
  ·exact List.pairwise_iff_getElem.1 h i j (by omega) hj hlt
  ·have:i=j:=by omega
   subst this;exact Int.le_refl _
 have key:∀m,m≤zs.length→(Lib.compactUpTo zs.toArray m).Pairwise (· < ·)/\(∀x,x∈Lib.compactUpTo zs.toArray m↔∃j,j<m/\zs.toArray[j]! = x)/\(Lib.compactUpTo zs.toArray m).length≤m:=by
  intro m;induction m with
  | zero=>intro _;refine⟨by simp[Lib.compactUpTo],fun x=>⟨fun hx=>by simp[Lib.compactUpTo]at hx,fun⟨j,hj,_⟩=>absurd hj (Nat.not_lt_zero _)⟩,by simp[Lib.compactUpTo]⟩
  | succ m ih =>
   intro hm;obtain⟨i1,i2,i3⟩:=ih (by omega);rw[Lib.compactUpTo_succ];by_cases hk:Lib.keeps zs.toArray m=true
   ·rw[if_pos hk]
    refine⟨?_,fun x=>?_,by simp;omega⟩
    ·rw[List.pairwise_append]
     refine⟨i1,by simp,fun x hx y hy=>?_⟩;rw[List.mem_singleton]at hy;subst hy;obtain⟨j,hj,rfl⟩:=(i2 x).1 hx;unfold Lib.keeps at hk;simp only[decide_eq_true_eq]at hk;rcases hk with hk|hk
     ·omega
     ·have h1:=hle j (m-1) (by omega) (by omega)
      have h2:=hle (m-1) m (by omega) (by omega);omega
    ·rw[List.mem_append,i2]
     constructor
     ·rintro(⟨j,hj,e⟩|hx)
      ·exact⟨j,by omega,e⟩
      ·rw[List.mem_singleton]at hx;exact⟨m,by omega,hx.symm⟩
     ·rintro⟨j,hj,e⟩
      rcases Nat.lt_or_ge j m with hlt|hge
      ·exact .inl ⟨j,hlt,e⟩
      ·have:j=m:=by omega
       subst this;exact .inr (List.mem_singleton.2 e.symm)
   ·rw[if_neg hk]
    refine⟨by simpa using i1,fun x=>?_,by simp;omega⟩;rw[List.append_nil,i2];constructor
    ·rintro⟨j,hj,e⟩;exact⟨j,by omega,e⟩
    ·rintro⟨j,hj,e⟩
     rcases Nat.lt_or_ge j m with hlt|hge
     ·exact⟨j,hlt,e⟩
     ·have:j=m:=by omega
      subst this
      unfold Lib.keeps at hk;simp only[decide_eq_true_eq]at hk;have h0:¬j=0:=fun e=>hk (.inl e)
      have h1:zs.toArray[j]! = zs.toArray[j-1]! := Decidable.of_not_not fun e=>hk (.inr e)
      exact⟨j-1,by omega,by rw[←h1];exact e⟩
 obtain⟨k1,k2,k3⟩:=key zs.length (Nat.le_refl _);refine⟨k1,fun x=>?_,k3⟩;unfold Lib.compact;rw[k2];constructor
 ·rintro⟨j,hj,rfl⟩
  rw[getElem!_pos zs.toArray j (by simpa using hj)];simp
 ·intro hx
  obtain⟨j,hj,e⟩:=List.getElem_of_mem hx;exact⟨j,hj,by rw[getElem!_pos zs.toArray j (by simpa using hj)];simpa using e⟩
def zcf (L:List Nat):List Int:=(ints L).mergeSort fun x y=>decide (x≤y)
theorem ziz (L:List Nat):(zcf L).Pairwise (·≤·):=by
 have:=List.pairwise_mergeSort (le:=fun x y:Int=>decide (x≤y)) (fun a b c h1 h2=>by simp at *;omega) (fun a b=>by simp;omega) (ints L);simpa [zcf] using this
theorem zg2 (L:List Nat):(zcf L).Perm (ints L):=List.mergeSort_perm _ _
theorem zkh (L:List Nat):Lib.compact (zcf L)=ints (za6 L):=by
 obtain⟨h1,h2,_⟩:=zit (zcf L) (ziz L);have hnn:∀x∈Lib.compact (zcf L),∃n:Nat,x=(n:Int)/\n∈L:=fun x hx=>by
  have:=((zg2 L).mem_iff).1 ((h2 x).1 hx);unfold ints at this
  obtain⟨n,hn,rfl⟩:=List.mem_map.1 this
  exact⟨n,rfl,hn⟩
 have e:Lib.compact (zcf L)=ints ((Lib.compact (zcf L)).map Int.toNat):=by
  unfold ints;rw[List.map_map];refine((List.map_congr_left fun x hx=>?_).trans (List.map_id' _)).symm;obtain⟨n,rfl,_⟩:=hnn x hx;rfl
 rw[e];congr 1
 refine zgh ?_ (zd3 L) fun x=>?_
 ·refine List.pairwise_map.2 (h1.imp_of_mem fun {a b} ha hb hlt=>?_)
  obtain⟨n,rfl,_⟩:=hnn a ha;obtain⟨m,rfl,_⟩:=hnn b hb;simpa using hlt
 ·rw[zav]
  constructor
  ·intro hx
   obtain⟨y,hy,rfl⟩:=List.mem_map.1 hx;obtain⟨n,rfl,hn⟩:=hnn y hy;simpa using hn
  ·intro hx
   refine List.mem_map.2 ⟨(x:Int),(h2 _).2 (((zg2 L).mem_iff).2 ?_),by simp⟩;unfold ints;exact List.mem_map.2 ⟨x,hx,rfl⟩
theorem zob {base g cap:Nat}(L:List Nat)(w:World)(h:w.ownsRow base 3 1 (.slice (some ⟨g,0,none⟩) L.length cap) L.length (L.map encN))(hl:L.length<1000000000000) :
  Calls Tryz.prog 56 #[.slice (some ⟨g,0,none⟩) L.length cap] w fun e w'=>e=.returned (.tuple #[])/\w'.ownsRow base 3 1 (.slice (some ⟨g,0,none⟩) L.length cap) L.length ((zcf L).map encI)/\Fr (fun k=>k=g) w w':=by
 have hx:L.map encN=(ints L).toArray.toList.map (Value.int .i64):=by simp[ints,encN,Function.comp_def]
 have hH:=ze4 (enc:=Value.int .i64) h (ints L).toArray hx;have hlen:(ints L).length=L.length:=by simp[ints]
 have hlt:g<w.heap.size:=(h.lt g rfl).2;have hc:=Any.slices_Sort_int Tryz.laySort g 0 cap (ints L) w hH hlt (by rw[hlen];omega);rw[hlen]at hc;refine Calls.mono (P:=Tryz.prog) hc ?_
 rintro e w' ⟨rfl,n,os,rfl⟩;obtain⟨h1,h2⟩:=zdy (enc:=Value.int .i64) h (zcf L).toArray (by simp[zcf,ints]) n os;exact⟨rfl,h1,h2⟩
theorem ztm (b off c:Nat)(L:List Nat)(w:World)(hL:Nats w (.slice (some ⟨b,off,none⟩) L.length c) L)(hl:L.length<1000000000000) :
  Calls Tryz.prog 55 #[.slice (some ⟨b,off,none⟩) L.length c] w fun e w'=>∃g cap,e=.returned (.slice (some ⟨g,0,none⟩) L.length cap)/\w'.ownsRow w.heap.size 3 1 (.slice (some ⟨g,0,none⟩) L.length cap) L.length (L.map encN)/\Fr NoM w w':=by
 have hlen:(ints L).length=L.length:=by simp[ints]
 obtain⟨a,c',e,h1,h2,h3⟩:=hL;have hc:=Any.slices_Clone_int Tryz.layClone b off L.length c (ints L) w (by omega) (by omega) (fun j hj=>by
  rw[hlen]at hj;obtain⟨b',off',e1,c1⟩:=h3 j L[j] (List.getElem?_eq_getElem _);cases e;cases e1
  rw[c1];simp[ints,encN,hj])
 refine Calls.mono (P:=Tryz.prog) hc ?_
 rintro e' w' ⟨v',rfl,h4,h5,h6⟩;rcases h4.2 with ⟨h0,_⟩|⟨g,cap,cur,rfl,hr⟩
 ·exact absurd h0 h5
 ·refine⟨g,cap,rfl,?_,Fr.of_below h6⟩
  have e:((ints L).take L.length).map (Value.int .i64)=L.map encN:=by
   rw[List.take_of_length_le (by omega)];simp[ints,encN,Function.comp_def]
  rw[←e];exact h4
theorem zo2 {base g cap:Nat}(zs:List Int)(w:World)(h:w.ownsRow base 3 1 (.slice (some ⟨g,0,none⟩) zs.length cap) zs.length (zs.map encI))(hl:zs.length<1000000000000)(hcl:(Lib.compact zs).length≤zs.length) :
  Calls Tryz.prog 57 #[.slice (some ⟨g,0,none⟩) zs.length cap] w fun e w'=>e=.returned (.slice (some ⟨g,0,none⟩) (Lib.compact zs).length cap)/\w'.ownsRow base 3 1 (.slice (some ⟨g,0,none⟩) (Lib.compact zs).length cap) (Lib.compact zs).length ((Lib.compact zs).map encI)/\Fr (fun k=>k=g) w w':=by
 have hcap:zs.length≤cap:=by
  rcases h.2 with ⟨h0,_⟩|⟨g',cap',cur,hv,_,_,hnc,_⟩
  ·cases h0
  ·cases hv;exact hnc
 have hH:=ze4 (enc:=Value.int .i64) h zs.toArray rfl;have hc:=Any.slices_Compact_int Tryz.layCompact g 0 cap zs w hH (by omega) hcap;refine Calls.mono (P:=Tryz.prog) hc ?_
 rintro e w' ⟨rfl,q,rfl⟩;obtain⟨h1,h2⟩:=zdy (enc:=Value.int .i64) h (Lib.compact zs++List.replicate (zs.length-(Lib.compact zs).length) 0).toArray (by simp;omega) q #[];rw[grow_empty]at h1 h2;refine⟨rfl,?_,h2⟩;have h3:=zni h1 hcl;rw[List.map_append,List.take_left' (by simp)]at h3;exact h3
theorem zmr (b off c:Nat)(L:List Nat)(w:World)(hL:Nats w (.slice (some ⟨b,off,none⟩) L.length c) L)(hl:L.length<1000000000000) :
  Calls Tryz.prog 31 #[.slice (some ⟨b,off,none⟩) L.length c] w fun e w'=>∃g cap,e=.returned (.slice (some ⟨g,0,none⟩) (za6 L).length cap)/\w'.ownsRow w.heap.size 3 1 (.slice (some ⟨g,0,none⟩) (za6 L).length cap) (za6 L).length ((za6 L).map encN)/\Fr NoM w w':=by
 have hlS:(zcf L).length=L.length:=by simp[zcf,ints]
 have hcl:=(zit (zcf L) (ziz L)).2.2;have hcs:=zkh L;have HL:=Hh hL;have Hl:=Hh hl;have HlS:=Hh hlS;have Hcl:=Hh hcl;have Hcs:=Hh hcs;clear hL hl hlS hcl hcs;go_enter Tryz.func31,Tryz.ntmps31;go_wp2_with fail;refine(ztm b off c L w HL.out Hl.out).mono ?_
 rintro e w1 ⟨g,cap,rfl,h1,f1⟩;have H1:=Hh h1;have F1:=Hh f1;clear h1 f1;go_wp2_with fail;refine(zob L w1 H1.out Hl.out).mono ?_
 rintro e w2 ⟨rfl,h2,f2⟩;have H2:=Hh (show w2.ownsRow w.heap.size 3 1 (.slice (some ⟨g,0,none⟩) (zcf L).length cap) (zcf L).length ((zcf L).map encI)by rw[HlS.out];exact h2);have F2:=Hh f2;clear h2 f2;go_wp2_with fail;rw[←HlS.out];refine(zo2 (zcf L) w2 H2.out (by rw[HlS.out];exact Hl.out) Hcl.out).mono ?_
 rintro e w3 ⟨rfl,h3,f3⟩;rw[Hcs.out]at h3 ⊢;have hlen:(ints (za6 L)).length=(za6 L).length:=by simp[ints]
 rw[hlen]at h3 ⊢;have H3:=Hh h3;have F3:=Hh f3;clear h3 f3;go_wp2;go_ret;refine⟨g,cap,rfl,?_,?_⟩
 ·have e:(ints (za6 L)).map encI=(za6 L).map encN:=by simp[ints,encN,encI,Function.comp_def]
  rw[←e];exact H3.out
 ·refine(F1.out.trans F2.out (fun k hk e=>?_)).trans F3.out (fun k hk e=>?_)
  ·have:=(H1.out.lt g rfl).1;omega
  ·have:=(H1.out.lt g rfl).1;omega
end Go.Proofs.YtkofnbjjbcohgaaGreatDoor
