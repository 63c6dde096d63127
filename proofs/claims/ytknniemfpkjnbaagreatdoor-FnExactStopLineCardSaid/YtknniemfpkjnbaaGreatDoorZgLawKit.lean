import Derived.Test.YtknniemfpkjnbaaGreatDoorZgPoolNode
/- What the claim of FnExactStopLineCard needs of: OrderKit LawKit. -/
namespace Go.Proofs.YtknniemfpkjnbaaGreatDoor
set_option linter.unusedVariables false
set_option linter.unusedSimpArgs false
open Go.RowKit
def RowB (w:World)(q:Nat):Prop:=∃cur:Array Value,w.heap[q]?=some (.cells cur 3 (0,0))
theorem RowB.fr {M:Nat→Prop}{w w':World}{q:Nat}(h:RowB w q)(hf:Fr M w w')(hm:¬M q):RowB w' q:=by
 obtain⟨cur,h⟩:=h;exact⟨cur,hf.heap h hm⟩
def zan (NV:List (Value × Value)):List Nat:=(zar NV).filterMap Value.ownBlock
theorem zmx (NV:List (Value × Value))(l r:Value):zan (NV ++ [(l,r)])=zan NV ++ [l,r].filterMap Value.ownBlock:=by simp[zan,zar]
theorem zc6 {NV:List (Value × Value)}{j:Nat}{x:Value × Value}(h:NV[j]?=some x):(∀q,x.1.ownBlock=some q→q∈zan NV)/\∀q,x.2.ownBlock=some q→q∈zan NV:=by
 have hx:=List.mem_of_getElem? h;constructor
 ·intro q hq;exact List.mem_filterMap.2 ⟨x.1,List.mem_flatMap.2 ⟨x,hx,by simp⟩,hq⟩
 ·intro q hq;exact List.mem_filterMap.2 ⟨x.2,List.mem_flatMap.2 ⟨x,hx,by simp⟩,hq⟩
theorem zgu (x:Value × Value)(NV:List (Value × Value)):zan (x::NV)=[x.1,x.2].filterMap Value.ownBlock++zan NV:=by
 simp only[zan,zar,List.flatMap_cons,List.filterMap_append]
theorem zua {l r:Value}{q:Nat}(h:l.ownBlock=some q):q∈[l,r].filterMap Value.ownBlock:=List.mem_filterMap.2 ⟨l,by simp,h⟩
theorem zu9 {l r:Value}{q:Nat}(h:r.ownBlock=some q):q∈[l,r].filterMap Value.ownBlock:=List.mem_filterMap.2 ⟨r,by simp,h⟩
theorem zpu {NV:List (Value × Value)}(h:(zan NV).Nodup){i:Nat}{x:Value × Value}(hx:NV[i]?=some x)(q:Nat)(hq:x.1.ownBlock=some q):x.2.ownBlock≠some q:=by
 induction NV generalizing i with
 | nil=>simp at hx
 | cons y l ih =>
  rw[zgu,List.nodup_append]at h;cases i with
  | zero =>
   have e:y=x:=by simpa using hx
   subst e;intro hq';have h1:=h.1;simp[List.filterMap_cons,hq,hq']at h1
  | succ i=>exact ih h.2.1 (by simpa using hx)
theorem zg7 {NV:List (Value × Value)}(h:(zan NV).Nodup){i j:Nat}{x z:Value × Value}(hx:NV[i]?=some x)(hz:NV[j]?=some z)(hij:i≠j)(q:Nat)(hq:x.1.ownBlock=some q∨x.2.ownBlock=some q):z.1.ownBlock≠some q/\z.2.ownBlock≠some q:=by
 induction NV generalizing i j with
 | nil=>simp at hx
 | cons y l ih =>
  rw[zgu,List.nodup_append]at h;have hm:∀(k:Nat) (u:Value × Value),l[k]?=some u→(u.1.ownBlock=some q∨u.2.ownBlock=some q)→q∈zan l:=fun k u hu hq=>by
   rcases hq with hq|hq
   ·exact(zc6 hu).1 q hq
   ·exact(zc6 hu).2 q hq
  have hp:∀(u:Value × Value),(u.1.ownBlock=some q∨u.2.ownBlock=some q)→q∈[u.1,u.2].filterMap Value.ownBlock:=fun u hq=>by
   rcases hq with hq|hq
   ·exact zua hq
   ·exact zu9 hq
  cases i with
  | zero =>
   have e:y=x:=by simpa using hx
   subst e;cases j with
   | zero=>exact absurd rfl hij
   | succ j =>
    have hz:l[j]?=some z:=by simpa using hz
    refine⟨fun e=>h.2.2 q (hp _ hq) q (hm j z hz (.inl e)) rfl,fun e=>h.2.2 q (hp _ hq) q (hm j z hz (.inr e)) rfl⟩
  | succ i =>
   have hx:l[i]?=some x:=by simpa using hx
   cases j with
   | zero =>
    have e:y=z:=by simpa using hz
    subst e;refine⟨fun e=>h.2.2 q (hp _ (.inl e)) q (hm i x hx hq) rfl,fun e=>h.2.2 q (hp _ (.inr e)) q (hm i x hx hq) rfl⟩
   | succ j=>exact ih h.2.1 hx (by simpa using hz) (fun e=>hij (by rw[e]))
theorem zxk {w:World}{L:List Nat}{b off n c i:Nat}(x:Nat)(h:Nats w (.slice (some ⟨b,off,none⟩) n c) L)(hb:RowB w b)(hi:i<L.length) :
  (∃u,w.cell? ⟨b,off+i,none⟩=some u)/\w.frozen? ⟨b,off+i,none⟩=false/\Nats (w.setCell ⟨b,off+i,none⟩ (encN x)) (.slice (some ⟨b,off,none⟩) n c) (L.set i x)/\RowB (w.setCell ⟨b,off+i,none⟩ (encN x)) b:=by
 obtain⟨cur,hb⟩:=hb;obtain⟨a,c',e,h1,h2,h3⟩:=h;cases e
 obtain⟨b',off',e,c1⟩:=h3 i L[i] (List.getElem?_eq_getElem hi);cases e
 have hs:=heap_set (i:=off+i) hb (encN x);have hsz:off+i<cur.size:=by
  rw[cell_of_row w b (off+i) cur _ _ hb]at c1;exact(Array.getElem?_eq_some_iff.1 c1).1
 refine⟨⟨_,c1⟩,by simp[World.frozen?,hb],⟨some ⟨b,off,none⟩,c,by rw[List.length_set],by rw[List.length_set];exact h1,h2,fun j y hy=>⟨b,off,rfl,?_⟩⟩,⟨_,hs⟩⟩;rw[cell_of_row _ b (off+j) _ _ _ hs];rw[List.getElem?_set]at hy;by_cases e:i=j
 ·subst e
  rw[if_pos rfl,if_pos hi]at hy;cases hy
  rw[Array.getElem?_setIfInBounds_self_of_lt hsz]
 ·rw[if_neg e]at hy
  obtain⟨b2,off2,e2,c2⟩:=h3 j y hy;cases e2
  rw[cell_of_row w b (off+j) cur _ _ hb]at c2;rw[Array.getElem?_setIfInBounds_ne (by omega)];exact c2
set_option maxHeartbeats 400000 in
theorem zdk (av bv:Value)(A B:List Int)(w:World)(hA:Ints w av A)(hB:Ints w bv B) :
  Calls Tryz.prog 12 #[av,bv] w fun e w'=>e=.returned (.bool (decide (A=B)))/\∃q,w'=w.drewN q:=by
 obtain⟨aa,ac,rfl,hac,hacm,hA⟩:=hA;obtain⟨ba,bc,rfl,hbc,hbcm,hB⟩:=hB;have HA:=Hh hA;clear hA;have HB:=Hh hB;clear hB;by_cases hn:A.length=B.length
 ·have hne:((A.length:Int) != (B.length:Int))=false:=by simp[hn]
  have hfin:A.take A.length=B.take A.length→decide (A=B)=true:=fun h=>by
   rw[List.take_length,hn,List.take_length]at h;simp[h]
  have HN:=Hh hn;clear hn;have HF:=Hh hfin;clear hfin;go_enter Tryz.func12,Tryz.ntmps12;go_wp2;go_loopw [5] (fun i wr=>∃k q:Nat,k≤A.length/\i=.int .i64 k/\A.take k=B.take k/\wr=w.drewN q) (fun i _=>A.length-(intOf i).toNat)
  case atStart=>exact⟨0,0,by omega,rfl,rfl,rfl⟩
  case round =>
   obtain⟨k,q,hk,rfl,ht,rfl⟩:=hrel;have Ht:=Hh ht;clear ht;by_cases hlt':k<A.length
   ·have hlt2:k<B.length:=by rw[←HN.out];exact hlt'
    obtain⟨b1,o1,ha1,hc1⟩:=HA.out k A[k] (by simp);obtain⟨b2,o2,ha2,hc2⟩:=HB.out k B[k] (by simp);have ix1:=za6 aa A.length ac k b1 o1 hlt' ha1;have ix2:=za6 ba B.length bc k b2 o2 hlt2 ha2;unfold encI at hc1 hc2;clear ha1 ha2;by_cases hxy:A[k]=B[k]
    ·have hxy':(A[k] != B[k])=false:=by simp[hxy]
     have Hxy:=Hh hxy;clear hxy;go_wp2;go_quiet (fail);go_wp2;go_roundw
     case rel=>exact⟨k+1,_,by omega,by go_num,by rw[List.take_succ_eq_append_getElem hlt',List.take_succ_eq_append_getElem hlt2,Ht.out,Hxy.out],rfl⟩
     case measure=>simp[intOf];omega
    ·have hxy':(A[k] != B[k])=true:=by simp[hxy]
     have hfin:decide (A=B)=false:=by
      have:A≠B:=fun e=>by subst e;exact hxy rfl
      simp[this]
     have Hxy:=Hh hxy;clear hxy;have Hfin:=Hh hfin;clear hfin;go_wp2;go_quiet (fail);go_wp2;go_ret;exact⟨by rw[Hfin.out];rfl,_,World.drewN_drewN _ _ _⟩
   ·go_wp2
    go_ret;have hk':k=A.length:=by omega
    subst hk';exact⟨by rw[HF.out Ht.out];rfl,_,rfl⟩
 ·have hne:((A.length:Int) != (B.length:Int))=true:=by rw[bne_iff_ne];omega
  have hfin:decide (A=B)=false:=by
   have:A≠B:=fun e=>hn (by rw[e])
   simp[this]
  have Hfin:=Hh hfin;clear hfin hn;go_enter Tryz.func12,Tryz.ntmps12;go_wp2;go_ret;exact⟨by rw[Hfin.out];rfl,0,rfl⟩
theorem zpa (av bv:Value)(A B:List Nat)(w:World)(hA:Nats w av A)(hB:Nats w bv B) :
  Calls Tryz.prog 12 #[av,bv] w fun e w'=>e=.returned (.bool (decide (A=B)))/\∃q,w'=w.drewN q:=by
 refine(zdk av bv (ints A) (ints B) w hA.ints hB.ints).mono ?_
 rintro e w' ⟨rfl,h⟩;have e1:decide (ints A=ints B)=decide (A=B):=by
  by_cases h:A=B
  ·subst h;simp
  ·rw[decide_eq_false h,decide_eq_false (fun e=>h (zi0 e))]
 rw[e1];exact⟨rfl,h⟩
set_option maxHeartbeats 1000000 in
theorem znm (v:Value)(L:List Nat)(k:Nat)(w:World)(hL:Nats w v L)(hB:∀q,v.ownBlock=some q→RowB w q)(hk:k+L.length<1000000000) :
  Calls Tryz.prog 15 #[v,.int .i64 (k:Int)] w fun e w'=>e=.returned (.int .i64 ((k+L.length:Nat):Int))/\Nats w' v (List.range' k L.length)/\(∀q,v.ownBlock=some q→RowB w' q)/\Fr (Own1 v) w w':=by
 obtain⟨a,c,rfl,z⟩:=id hL;clear z;have HL:=Hh hL;have HB:=Hh hB;clear hL hB;go_enter Tryz.func15,Tryz.ntmps15;go_wp2;go_loopw [5,1] (fun i kv W=>∃j m:Nat,i=.int .i64 j/\kv=.int .i64 m/\m=k+j/\j≤L.length/\Nats W (.slice a L.length c) (List.range' k j++L.drop j)/\(∀q,(Value.slice a L.length c).ownBlock=some q→RowB W q)/\Fr (Own1 (.slice a L.length c)) w W) (fun i _ _=>L.length-(intOf i).toNat)
 case atStart=>exact⟨0,k,rfl,rfl,rfl,Nat.zero_le _,by simpa using HL.out,HB.out,Fr.refl _ _⟩
 case round =>
  obtain⟨j,m,rfl,rfl,hm,hj,hn,hb,hf⟩:=hrel;by_cases hlt:j<L.length
  ·have hlen:(List.range' k j++L.drop j).length=L.length:=by simp;omega
   have hmb:m<1000000000:=by omega
   obtain⟨a',c',e,h1,h2,h3⟩:=id hn;rw[hlen]at e;cases e
   obtain⟨b,off,ha,hcc⟩:=h3 j _ (List.getElem?_eq_getElem (by omega));clear hcc;subst ha;obtain⟨⟨u,hu⟩,hz,hset,hrow⟩:=zxk m hn (hb b rfl) (i:=j) (by omega);have ix:=za6 (some ⟨b,off,none⟩) L.length c j b off hlt rfl;have hnext:(List.range' k j++L.drop j).set j m=List.range' k (j+1)++L.drop (j+1):=by
    rw[List.set_append_right _ _ (by simp),List.length_range',Nat.sub_self,List.drop_eq_getElem_cons hlt,List.set_cons_zero,hm,List.range'_concat,Nat.one_mul];simp
   rw[hnext]at hset;have hfw:=Fr.setCell hf ⟨b,off+j,none⟩ (encN m) (fun _=>rfl);have HM:=Hh hm;have HSet:=Hh hset;have HRow:=Hh hrow;have HFw:=Hh hfw;clear hm hn hb hf h1 h2 h3 hset hrow hfw hlen hnext;go_wp2;go_roundw
   case rel=>exact⟨j+1,m+1,by go_num,by go_num,by rw[HM.out];rfl,by omega,HSet.out,fun q hq=>by
    have e:b=q:=Option.some.inj hq;subst e;exact HRow.out,HFw.out⟩
   case measure=>simp[intOf];omega
  ·have hj':j=L.length:=by omega
   subst hj';have hn':Nats wr (.slice a L.length c) (List.range' k L.length):=by simpa using hn
   have HM:=Hh hm;have HN:=Hh hn';have HB2:=Hh hb;have HF:=Hh hf;clear hm hn hn' hb hf;go_wp2;go_ret;exact⟨by rw[HM.out];rfl,HN.out,HB2.out,HF.out⟩
set_option maxHeartbeats 1000000 in
theorem zns (v:Value)(n k:Nat)(w:World)(hL:Nats w v (List.range' k n))(hk:k+n<1000000000) :
  Calls Tryz.prog 16 #[v,.int .i64 (k:Int)] w fun e w'=>e=.returned (.int .i64 ((k+n:Nat):Int))/\w'=w:=by
 obtain⟨a,c,rfl,h1,h2,h3⟩:=hL;rw[List.length_range']at h1 ⊢;have H3:=Hh h3;clear h3;go_enter Tryz.func16,Tryz.ntmps16;go_wp2;go_loop [5,1] (fun i kv=>∃j m:Nat,i=.int .i64 j/\kv=.int .i64 m/\m=k+j/\j≤n) (fun i _=>n-(intOf i).toNat)
 case atStart=>exact⟨0,k,rfl,rfl,rfl,Nat.zero_le _⟩
 case round =>
  obtain⟨j,m,rfl,rfl,hm,hj⟩:=hrel;by_cases hlt:j<n
  ·have hmb:m<1000000000:=by omega
   obtain⟨b,off,rfl,c0⟩:=H3.out j m (by rw[List.getElem?_range' hlt,hm,Nat.one_mul]);have c1:w.cell? ⟨b,off+j,none⟩=some (.int .i64 (m:Int)):=c0;clear c0;have ix:=za6 (some ⟨b,off,none⟩) n c j b off hlt rfl;have hne:((m:Int) != (m:Int))=false:=by simp
   have HM:=Hh hm;clear hm;go_wp2;go_round
   case rel=>exact⟨j+1,m+1,by go_num,by go_num,by rw[HM.out];rfl,by omega⟩
   case measure=>simp[intOf];omega
  ·have hj':j=n:=by omega
   subst hj';have HM:=Hh hm;clear hm;go_wp2;go_ret;exact⟨by rw[HM.out];rfl,rfl⟩
end Go.Proofs.YtknniemfpkjnbaaGreatDoor
