import Derived.Test.YtghekfmfonoocaaGreatDoorZt2
import Derived.Test.YtghekfmfonoocaaGreatDoorZt6
/- Lemmas. -/
namespace Go.Proofs.YtghekfmfonoocaaGreatDoor
set_option linter.unusedVariables false
set_option linter.unusedSimpArgs false
open Go.RowKit
def zkv (U:List Nat) (pb sb:Nat) (mo mc ms:Value) (w:World) (V:List PL) (M I:Nat→Prop) (g:Bool) (T P:Int) (e:Ending) (w':World):Prop :=
  ∃ (i : Nat) (okn : Bool) (V' : List PL) (BV' : List Nat) (M' I' : Nat → Prop) (f' : Nat → Option Nat), e = .returned (.tuple #[.int .i64 (i : Int), .bool okn]) ∧
    PSt encN NegMO U pb sb mo mc ms (.map (some sb)) w' V' BV' M' I' f'∧PNx sb w V M I w' V' M' I'∧(okn=true→g=true∧i < V'.length∧(za0 V').getD i 0=numC T P.toNat)∧(okn=false→(g && zam (numN T P.toNat))=false)
set_option maxRecDepth 4000 in
set_option maxHeartbeats 8000000 in
theorem zpr {U:List Nat}(hUl:U.length<1000000)(pb sb:Nat)(mo mc ms:Value)(T P:Int)(g:Bool)(hg:g=true↔GoodD T P)(hU:g=true→T.natAbs/2^P.toNat<120→∀a,SubC (numC T P.toNat) a→a∈U)
  (V:List PL) (BV:List Nat) (M I:Nat→Prop) (f:Nat→Option Nat) (w:World) (hst:PSt encN NegMO U pb sb mo mc ms (.map (some sb)) w V BV M I f) :
  Calls Tryz.prog 59 #[.pointer (some ⟨pb,0,none⟩),.agg #[.int .i64 T,.int .i64 P]] w fun e w'=>zkv U pb sb mo mc ms w V M I g T P e w':=by
 obtain⟨w1,hw1⟩:∃w1,w1=w.alloc (.cells #[.int .i64 T,.int .i64 P] 29):=⟨_,rfl⟩;have f1:Fr NoM w w1:=by rw[hw1];exact(Fr.refl NoM w).alloc _
 have e1:w1.heap[w.heap.size]?=some (.cells #[.int .i64 T,.int .i64 P] 29 (0,0)):=by rw[hw1];exact heap_alloc_new w _
 have HK:=Hh (fun(W:World) (f:Fr NoM w1 W)=>(by
  have h0:=f.heap e1 (fun q=>q);exact⟨by rw[cell_of_row W _ 0 _ _ _ h0];rfl,by rw[cell_of_row W _ 1 _ _ _ h0];rfl⟩:W.cell? ⟨w.heap.size,0,none⟩=some (.int .i64 T)/\W.cell? ⟨w.heap.size,1,none⟩=some (.int .i64 P)))
 have HGd:=Hh (ze7 T P w1 g hg);have HSt:=Hh (hst.fr0 f1);have F1:=Hh f1;have HUl:=Hh hUl;have HG:=Hh hg;have HU:=Hh hU;clear hst f1 e1 hUl hg hU;obtain⟨k0,k1⟩:=HK.out w1 (Fr.refl _ _);go_enter Tryz.func59,Tryz.ntmps59;go_wp2_with fail;rw[←hw1];clear hw1;(with_reducible refine HGd.out.mono ?_);rintro e w2 ⟨rfl,f2⟩;have F2:=Hh f2;clear f2 k0 k1;obtain⟨k0,k1⟩:=HK.out w2 F2.out;cases g with
 | false =>
  have HE:=Hh (show zkv U pb sb mo mc ms w V M I false T P (.returned (.tuple #[.int .i64 ((0:Nat):Int),.bool false])) w2 from⟨0,false,V,BV,M,I,f,rfl,HSt.out.fr0 F2.out,PNx.of0 (F1.out.trans F2.out (fun _ _ q=>q)),(fun h=>by cases h),(fun _=>rfl)⟩);go_wp2;go_ret2;exact HE.out
 | true =>
  have hgd:GoodD T P:=by have h:=HG.out;simpa using h
  obtain⟨p,rfl,hp,hr,ht⟩:=hgd.nat;obtain⟨n,hn⟩:∃n,n=T.natAbs:=⟨_,rfl⟩;have hmax:max T (-T)=(n:Int):=by omega
  have htb:-1000000≤T/\T≤1000000:=by omega
  obtain⟨m,hm⟩:∃m,m=n/2^p:=⟨_,rfl⟩;have hml:m≤n:=by rw[hm];exact Nat.div_le_self _ _
  have hmi:(n:Int)/2^p=(m:Int):=by rw[hm];simp
  have hnb:m≤numB T p:=by
   unfold numB;rw[hm,hn];by_cases h0:p=0
   ·rw[if_pos h0,h0];simp
   ·rw[if_neg h0];omega
  by_cases hbig:120≤m
  ·have hfit:(true && zam (numN T p))=false:=by rw[ztv hr (by omega)];rfl
   have HE:=Hh (show zkv U pb sb mo mc ms w V M I true T (p:Int) (.returned (.tuple #[.int .i64 ((0:Nat):Int),.bool false])) w2 from⟨0,false,V,BV,M,I,f,rfl,HSt.out.fr0 F2.out,PNx.of0 (F1.out.trans F2.out (fun _ _ q=>q)),(fun h=>by cases h),(fun _=>hfit)⟩);clear hm hn hfit hnb hr;go_wp2;go_ret2;exact HE.out
  ·have hU:=HU.out (by simp) (by show T.natAbs/2^p<120;rw[←hn,←hm];omega)
   have hU:∀a,SubC (numC T p) a→a∈U:=hU;have HN:=Hh (zvd HUl.out pb sb mo mc ms _ T p (Nat.lt_succ_self _) hr (by omega) hp hU V BV M I f w2 (HSt.out.fr0 F2.out));clear hm hn hnb hr hU;go_wp2_with fail;(with_reducible refine HN.out.mono ?_);rintro e w3 ⟨i,V3,B3,M3,I3,f3',rfl,st3,nx3,l3,q3⟩;have hlen:=st3.len;have hul:=HUl.out;have hn4:Nats (w3.alloc (.cells #[.int .i64 (i:Int)] 3)) (.slice (some ⟨w3.heap.size,0,none⟩) 1 1) [i]:=SliceOf.one encN w3 i 3;have HPa:=Hh (zmd pb V3 B3 [i] mo mc ms (.map (some sb)) _ (w3.alloc (.cells #[.int .i64 (i:Int)] 3)) (st3.pool.fr0 ((Fr.refl NoM w3).alloc _)) hn4 (fun x hx=>by rw[List.mem_singleton.1 hx];exact l3) (fun j y hy=>st3.ok.opts' j y hy) (by simp) (by omega) (st3.ok.lens (by omega)));have HSt3:=Hh st3;have HNx3:=Hh ((PNx.of0 (F1.out.trans F2.out (fun _ _ q=>q))).trans nx3);have HI3:=Hh (And.intro l3 q3);clear st3 nx3 l3 q3 hlen hul hn4 k0 k1;go_wp2_with fail;(with_reducible refine HPa.out.mono ?_);rintro e w4 ⟨gq,cq,Q,rfl,hQ,hnd,hmem,f4⟩;have f34:Fr NoM w3 w4:=((Fr.refl NoM w3).alloc _).trans f4 (fun _ _ q=>q);obtain⟨okn,hok⟩:∃okn,okn=decide ((Q.length:Int)≤120):=⟨_,rfl⟩;have HE:=Hh (show zkv U pb sb mo mc ms w V M I true T (p:Int) (.returned (.tuple #[.int .i64 (i:Int),.bool okn])) w4 from⟨i,okn,V3,B3,M3,I3,f3',rfl,HSt3.out.fr0 f34,HNx3.out.trans (PNx.of0 f34),(fun _=>⟨rfl,HI3.out.1,HI3.out.2⟩),(fun h=>by
    rw[hok,decide_eq_false_iff_not]at h;have hres:FormRes V3 B3 i false []:=.inl ⟨rfl,rfl,Q,hnd,hmem,by omega⟩;have h1:=(FormRes.is HSt3.out.ok HI3.out.1 hres).1;rw[zdh HSt3.out.ok HI3.out.1 HI3.out.2]at h1;show(true && zam (numN T p))=false
    unfold numN;rw[←h1];rfl)⟩)
   have hql:Q.length≤1000000:=by
    have h1:=hnd.length_le_of_subset (l₂:=List.range V3.length) (fun z hz=>List.mem_range.2 (by
     have h2:=(hmem z).1 hz;exact HSt3.out.ok.reach (fun r hr=>by rw[List.mem_singleton.1 hr];exact HI3.out.1) h2))
    rw[List.length_range]at h1;have:=HSt3.out.len;have:=HUl.out;omega
   clear hQ hnd hmem f4 f34;have hE:=HE.out;rw[hok]at hE;have HE:=Hh hE;clear hok hE;go_wp2;all_goals
    go_ret2;first|exact HE.out|(rename_i hx;have hE:=HE.out;simp[hx]at hE;exact hE)
set_option maxRecDepth 4000 in
set_option maxHeartbeats 8000000 in
theorem zmh (T P:Int)(w:World)(g:Bool)(hg:g=true↔GoodD T P)(ok:Bool)(hok:ok=(g && zam (numN T P.toNat))) :
  Calls Tryz.prog 25 #[.agg #[.int .i64 T,.int .i64 P]] w fun e w'=>∃v',e=.returned (.tuple #[.agg #[v'],.bool ok])/\NodesS w.heap.size w' v' (if ok=true then numN T P.toNat else [])/\Fr NoM w w':=by
 obtain⟨RN,hRN⟩:∃RN,RN=(if ok=true then numN T P.toNat else []):=⟨_,rfl⟩;rw[←hRN];have HRN:=Hh hRN;clear hRN;obtain⟨w1,hw1⟩:∃w1,w1=(w.alloc (.cells #[.int .i64 T,.int .i64 P] 29)).alloc (.cells #[.slice none 0 0] 26):=⟨_,rfl⟩;have f1:Fr NoM w w1:=by rw[hw1];exact((Fr.refl NoM w).alloc _).alloc _
 have hs1:w1.heap.size=w.heap.size+2:=by rw[hw1];simp
 have e0:w1.heap[w.heap.size]?=some (.cells #[.int .i64 T,.int .i64 P] 29 (0,0)):=by rw[hw1];exact((Fr.refl NoM _).alloc _).heap (heap_alloc_new w _) (fun q=>q)
 have e1:w1.heap[w.heap.size+1]?=some (.cells #[.slice none 0 0] 26 (0,0)):=by
  have h:=heap_alloc_new (w.alloc (.cells #[.int .i64 T,.int .i64 P] 29)) (.cells #[.slice none 0 0] 26);rw[World.size_alloc]at h;rw[hw1];exact h
 have HK:=Hh (fun(W:World) (f:Fr (fun q=>w1.heap.size≤q) w1 W)=>(by
  have h0:=f.heap e0 (fun q=>by omega);have h1:=f.heap e1 (fun q=>by omega);exact⟨by rw[cell_of_row W _ 0 _ _ _ h0];rfl,by rw[cell_of_row W _ 1 _ _ _ h0];rfl,by rw[cell_of_row W _ 0 _ _ _ h1];rfl,by simp[World.frozen?,h1]⟩:W.cell? ⟨w.heap.size,0,none⟩=some (.int .i64 T)/\W.cell? ⟨w.heap.size,1,none⟩=some (.int .i64 P)/\W.cell? ⟨w.heap.size+1,0,none⟩=some (.slice none 0 0)/\W.frozen? ⟨w.heap.size+1,0,none⟩=false))
 have F1:=Hh f1;have HS1:=Hh hs1;have HG:=Hh hg;have HOk:=Hh hok;clear f1 hs1 e0 e1 hg hok;go_enter Tryz.func25,Tryz.ntmps25;go_wp2_with fail;rw[←hw1];clear hw1;(with_reducible refine(zff w1).mono ?_);rintro e w2 ⟨rfl,hp2,hmaps,f2⟩;obtain⟨pb,hpb⟩:∃pb,pb=w1.heap.size+5:=⟨_,rfl⟩;obtain⟨sb,hsb⟩:∃sb,sb=w1.heap.size+4:=⟨_,rfl⟩;have hmap:=hmaps 4 (by omega);rw[←hsb]at hmap hp2;rw[←hpb]at hp2 ⊢;obtain⟨mo,hmo⟩:∃v,v=Value.map (some (w1.heap.size+1)):=⟨_,rfl⟩;obtain⟨mc,hmc⟩:∃v,v=Value.map (some (w1.heap.size+2)):=⟨_,rfl⟩;obtain⟨ms,hms⟩:∃v,v=Value.map (some (w1.heap.size+3)):=⟨_,rfl⟩;rw[←hmo,←hmc,←hms]at hp2;clear hmaps hmo hmc hms;obtain⟨U,hU⟩:∃U,U=(if g=true then numU T P.toNat 121 else []):=⟨_,rfl⟩;have hUl:U.length<1000:=by
  rw[hU];cases g with
  | false=>simp
  | true =>
   obtain⟨p,rfl,hp,_⟩:=(HG.out.1 rfl).nat;rw[if_pos rfl,ztx];have e:(p:Int).toNat=p:=rfl;omega
 have hUin:g=true→T.natAbs/2^P.toNat<120→∀a,SubC (numC T P.toNat) a→a∈U:=fun h h2 a ha=>by
  rw[hU,if_pos h];obtain⟨p,rfl,hp,hr,_⟩:=(HG.out.1 h).nat;exact zyr hr h2 a ha
 have hlo:=hp2.low;have hst:PSt encN NegMO U pb sb mo mc ms (.map (some sb)) w2 [] [] (fun q=>(q=w1.heap.size∨q=pb)/\q<w2.heap.size) (fun q=>NoM q/\q<w2.heap.size) (fun _=>none) :=
  ⟨hlo,PoolOK.nil,fun x hx=>by simp at hx,⟨#[],0,hmap,by simp,by simp,by simp⟩,NegMO.none [],fun q hq=>⟨hq.2,by rcases hq.1 with h|h <;> omega⟩,fun q hq=>⟨hq.2,hq.1.elim⟩⟩
 have HNd:=Hh (zpr (U:=U) (by omega) pb sb mo mc ms T P g HG.out hUin [] [] _ _ _ w2 hst);have F2:=Hh f2;have HUl:=Hh hUl;have HPb:=Hh (And.intro hpb hsb);clear hp2 hlo hst hmap hU hUl hUin f2 hpb hsb;obtain⟨k0,k1,k2,k3⟩:=HK.out w2 F2.out.any;go_wp2_with fail;(with_reducible refine HNd.out.mono ?_);rintro e w3 ⟨i,okn,V,BV,M,I,ff,rfl,st,nx,hy,hn⟩;have f3:Fr (fun q=>w1.heap.size≤q) w1 w3:=F2.out.any.trans nx.fr (fun k _ h=>by
  have:=HPb.out;rcases h with h|h
  ·rcases h.1 with h|h <;> omega
  ·omega)
 have F3:=Hh f3;have HSt:=Hh st;have HY:=Hh hy;have HN:=Hh hn;clear st nx hy hn f3 k0 k1 k2 k3;obtain⟨k0,k1,k2,k3⟩:=HK.out w3 F3.out;cases okn with
 | false =>
  have hk:ok=false:=by
   have h:=HN.out;have h2:=HOk.out;simp only[true_implies,forall_const]at h;rw[h2];exact h
  subst hk;have hRN:=HRN.out;rw[if_neg (by decide)]at hRN;subst hRN;go_wp2;refine bodyPost_ret (v:=.tuple #[.agg #[.slice none 0 0],.bool false]) (by simp[results,Tryz.results25,go_sem,k2,k3]) rfl ?_
  exact⟨_,rfl,NodesS.nil _ _,(F1.out.trans F3.out (fun k hk h=>by have h:w1.heap.size≤k:=h;have:=HS1.out;omega)).setCell _ _ (fun h=>by have h:w.heap.size+1<w.heap.size:=h;omega)⟩
 | true =>
  obtain⟨hgt,hi,hc⟩:g=true/\i<V.length/\(za0 V).getD i 0=numC T P.toNat:=by
   have h:=HY.out;simp only[true_implies,forall_const]at h;exact h
  have hlen:=HSt.out.len;have HFm:=Hh (zhh pb i V BV mo mc ms (.map (some sb)) w3 HSt.out.pool HSt.out.ok hi (by have:=HUl.out;omega));have hfo:=zdh HSt.out.ok hi hc;have HRs:=Hh (fun(okf:Bool) (FR:List PL) (hres:FormRes V BV i okf FR)=>(by
   obtain⟨h1,h2⟩:=FormRes.is HSt.out.ok hi hres;rw[hfo]at h1 h2;have hk:ok=okf:=by rw[HOk.out,hgt,h1];rfl
   refine⟨hk.symm,?_⟩;rw[HRN.out,h2,hk];rfl:okf=ok/\FR=RN))
  clear hgt hi hc hlen hfo;go_wp2_with fail;(with_reducible refine HFm.out.mono ?_);rintro e w4 ⟨nv,okf,FR,rfl,hres,hns,f4⟩;obtain⟨rfl,rfl⟩:=HRs.out okf FR hres;have F4:=Hh (F3.out.trans f4 (fun _ _ q=>q.elim));have HNs:=Hh hns;have HZ:=Hh (show w.heap.size+2≤w3.heap.size from by have:=F3.out.size;have:=HS1.out;omega);obtain⟨an,cn,rfl,zz⟩:=id hns.nodeL;clear zz hns f4 hres k0 k1 k2 k3;obtain⟨k0,k1,k2,k3⟩:=HK.out w4 F4.out;go_wp2;refine bodyPost_ret (v:=.tuple #[.agg #[.slice an FR.length cn],.bool okf]) (by simp[results,Tryz.results25,go_sem,k2,k3]) rfl ?_
  refine⟨_,rfl,?_,(F1.out.trans F4.out (fun k hk h=>by have h:w1.heap.size≤k:=h;have:=HS1.out;omega)).setCell _ _ (fun h=>by have h:w.heap.size+1<w.heap.size:=h;omega)⟩;exact(HNs.out.fr (Fr.set w4 ⟨w.heap.size+1,0,none⟩ (.slice an FR.length cn)) (fun q hq _ e=>by have e:q=w.heap.size+1:=e;have:=HZ.out;omega)).base (D':=w.heap.size) (by have:=HZ.out;omega)
end Go.Proofs.YtghekfmfonoocaaGreatDoor
