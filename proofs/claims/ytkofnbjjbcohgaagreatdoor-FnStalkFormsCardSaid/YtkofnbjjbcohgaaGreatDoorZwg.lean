import Derived.Test.YtkofnbjjbcohgaaGreatDoorZw8
import Derived.Test.YtkofnbjjbcohgaaGreatDoorZwf
/- Lemmas. -/
namespace Go.Proofs.YtkofnbjjbcohgaaGreatDoor
set_option linter.unusedVariables false
set_option linter.unusedSimpArgs false
open Go.RowKit
theorem zxy (b n c k:Nat)(hk:k<n)(w:World) :
  (Instr.indexAt 96 (.slice (some ⟨b,0,none⟩) n c) (.int .i64 (k:Int))).run Tryz.prog w=.ok (.pointer (some ⟨b,k*3,none⟩)) w:=by
 go_simp
theorem zia (n:Nat)(W:World)(hn:n<1000000000):∃cur:Array Value,cur.size=n*2/\(Instr.makeSlice 25 (.int .i64 0) (.int .i64 (n:Int))).run Tryz.prog W=.ok (.slice (some ⟨W.heap.size,0,none⟩) 0 n) (W.alloc (.cells cur 55)):=by
 obtain⟨i0,hi,hz0,hz1,hz2⟩:=info_parts zbi;have h:=run_make (P:=Tryz.prog) W 25 55 i0 _ Tryz.underlying25 hi hz0 .i64 .i64 0 n (by omega) (by omega) (by rw[hz2];omega) (by omega);rw[hz1,Int.toNat_natCast]at h;exact⟨_,by simp[madeCells],h⟩
structure OutS (V:List PL) (w1:World) (g cap rb:Nat) (Q A:List Nat) (n:Nat) (W:World) (nv:Value):Prop where
 list:W.ownsRow w1.heap.size 3 1 (.slice (some ⟨g,0,none⟩) Q.length cap) Q.length ((A++Q.drop n).map encN)
 rank:MapF encN encN W rb (zgs A)
 nodes:NodesS (rb+1) W nv (A.map fun x=>zb7 A (za4 V x))
 fr:Fr NoM w1 W
theorem Fr.drewN {M:Nat→Prop}{a w:World}(h:Fr M a w)(n:Nat):Fr M a (w.drewN n):=⟨h.os,h.tape,h.output,h.size,h.block⟩
theorem zk3 {base g cap n k x:Nat}{xs:List Nat}{w:World}(h:w.ownsRow base 3 1 (.slice (some ⟨g,0,none⟩) n cap) n (xs.map encN))(hx:xs[k]?=some x):w.cell? ⟨g,k,none⟩=some (.int .i64 (x:Int)):=by
 obtain⟨a,c,e,_,_,h3⟩:=SliceOf.of_owns h rfl;obtain⟨b,off,e2,c2⟩:=h3 k x hx;subst e2;cases e
 simpa [encN] using c2
theorem zsm {w:World}{base g n cap:Nat}{L:List Nat}(h:w.ownsRow base 3 1 (.slice (some ⟨g,0,none⟩) n cap) n (L.map encN))(k x:Nat)(hk:k<n) :
  (∃u,w.cell? ⟨g,k,none⟩=some u)/\w.frozen? ⟨g,k,none⟩=false/\(w.setCell ⟨g,k,none⟩ (encN x)).ownsRow base 3 1 (.slice (some ⟨g,0,none⟩) n cap) n ((L.set k x).map encN):=by
 have hl:=h.1;rcases h.2 with ⟨h0,_⟩|⟨g',cap',cur,hv,hb,hg,hnc,hcm,hs,ht⟩
 ·cases h0
 ·cases hv
  have hL:k<L.length:=by simp at hl;omega
  refine⟨⟨encN L[k],?_⟩,by simp[World.frozen?,hg],by simpa using hl,.inr ⟨g,cap,_,rfl,hb,heap_set hg (encN x),hnc,hcm,by simp[hs],?_⟩⟩
  ·rw[cell_of_row w g k cur _ _ hg]
   have:(cur.toList.take (n*1))[k]?=some (encN L[k]):=by rw[ht,List.getElem?_map,List.getElem?_eq_getElem hL];rfl
   rw[List.getElem?_take,if_pos (by omega)]at this
   simpa using this
  ·rw[Array.toList_setIfInBounds,List.take_set,ht,List.map_set]
theorem zr0 {base g cap n j x:Nat}{G:List Nat}{lv rv:Nat→Value}{w:World}(h:w.ownsRow base 99 3 (.slice (some ⟨g,0,none⟩) n cap) n (zem lv rv G))(hn:n=G.length)(hx:G[j]?=some x) :
  w.cell? ⟨g,j*3,none⟩=some (.int .i64 (x:Int))/\w.cell? ⟨g,j*3+1,none⟩=some (lv x)/\w.cell? ⟨g,j*3+2,none⟩=some (rv x):=by
 rcases h.2 with ⟨h0,_⟩|⟨g',cap',cur,hv,hb,hg,hnc,hcm,hs,ht⟩
 ·cases h0
 ·cases hv
  have hj:=(List.getElem?_eq_some_iff.1 hx).1;obtain⟨f0,f1,f2⟩:=zmp lv rv G j x hx;have key:∀i v,i<n*3→(zem lv rv G)[i]?=some v→w.cell? ⟨g,i,none⟩=some v:=by
   intro i v hi hv;rw[cell_of_row w g i cur _ _ hg];rw[←ht,List.getElem?_take,if_pos hi]at hv;simpa using hv
  exact⟨key _ _ (by omega) f0,key _ _ (by omega) f1,key _ _ (by omega) f2⟩
theorem zkp {Q:List Nat}{n m:Nat}(h:n+m<Q.length):(Q.drop n).take (m+1)=(Q.drop n).take m ++ [Q[n+m]]:=by
 have h1:m<(Q.drop n).length:=by simp;omega
 rw[List.take_succ_eq_append_getElem h1,List.getElem_drop]
theorem zv7 {Q:List Nat}{n m:Nat}(hn:Q.Nodup)(h:n+m<Q.length):Q[n+m] ∉ (Q.drop n).take m:=by
 have h1:((Q.drop n).take (m+1)).Nodup:=(List.take_sublist _ _).nodup ((List.drop_sublist _ _).nodup hn);rw[zkp h,List.nodup_append]at h1;intro hx;exact h1.2.2 _ hx _ (List.mem_singleton.2 rfl) rfl
set_option maxRecDepth 4000 in
set_option maxHeartbeats 8000000 in
theorem zsn {M I:Nat→Prop}(pb:Nat)(V:List PL)(BV R:List Nat)(mo mc ms mn rv:Value)(w:World)(hP:PoolS M I w pb V BV mo mc ms mn)(hR:Nats w rv R)(hRt:∀x∈R,x<V.length)(hV0:0<V.length)
  (hopt:∀(j:Nat) (y:PL),V[j]?=some y→(∀i∈y.1,i<V.length)/\∀i∈y.2,i<V.length) (hrl:R.length<1000000000) (hn:V.length<1000000000) (hlen:∀y∈V,y.1.length<1000000000/\y.2.length<1000000000)
  (hQ:∀Q:List Nat,Q.Nodup→(∀x,x∈Q↔ReachV V R x)→Q.Pairwise (fun a b=>BV.getD a 0≤BV.getD b 0)→QOk V BV Q) :
  Calls Tryz.prog 34 #[.pointer (some ⟨pb,0,none⟩),rv] w fun e w'=>∃(lv nv:Value) (Q:List Nat) (FN:List PL),e=.returned (.tuple #[lv,nv])/\OrderIs V BV R Q FN/\w'.ownsRow w.heap.size 3 1 lv Q.length (Q.map encN)/\NodesS w.heap.size w' nv FN/\Fr NoM w w':=by
 obtain⟨ra,rc,rfl,z1⟩:=id hR;clear z1;have HP:=Hh hP;have HR:=Hh hR;have HRt:=Hh hRt;have Hopt:=Hh hopt;have Hn:=Hh hn;have HLen:=Hh hlen;have HQ:=Hh hQ;have HRl:=Hh hrl;have HV0:=Hh hV0;clear hP hR hRt hopt hlen hQ hn hrl hV0;go_enter Tryz.func34,Tryz.ntmps34;go_wp2_with fail;obtain⟨w1,hw1⟩:∃w1,w1=w.alloc (.cells #[.pointer (some ⟨pb,0,none⟩)] 44):=⟨_,rfl⟩;have hf1:Fr NoM w w1:=by rw[hw1];exact(Fr.refl NoM w).alloc _
 have hB1:w1.heap[w.heap.size]?=some (.cells #[.pointer (some ⟨pb,0,none⟩)] 44 (0,0)):=by rw[hw1];exact heap_alloc_new w _
 rw[←hw1];have HF1:=Hh hf1;have HB1:=Hh hB1;clear hf1 hB1 hw1;refine(zm3 pb V BV R mo mc ms mn (.slice ra R.length rc) w1 (HP.out.fr0 HF1.out) (HR.out.fr0 HF1.out) HRt.out Hopt.out HRl.out Hn.out HLen.out).mono ?_
 rintro e w2 ⟨g,cap,Q0,rfl,h2,hnd,hmem,f2⟩;have H2:=Hh h2;have HND:=Hh hnd;have HMem:=Hh hmem;have F2:=Hh f2;clear h2 hnd hmem f2;go_wp2_with fail;obtain⟨lv0,rv0,bv,fb,LS,RS,hA,hI1,hI2,_⟩:=HP.out;have hbn:Nats w bv BV:=SliceOf.of_owns hA.born rfl;have hbvl:BV.length=V.length:=hA.lenB;have HBvb:=Hh (fun q (hq:bv.ownBlock=some q)=>(hA.born.lt q hq).2);have hpl:pb<w.heap.size:=(Array.getElem?_eq_some_iff.1 hA.blk).1;have hpb2:w.cell? ⟨pb,2,none⟩=some bv:=by rw[cell_of_row w pb 2 _ _ _ hA.blk];rfl
 have hg1:=(H2.out.lt g rfl).1;have hsz1:=HF1.out.size;have hQl:∀x∈Q0,x<BV.length:=fun x hx=>by
  rw[hbvl];have hr:=(HMem.out x).1 hx;clear hx;induction hr with
  | root h=>exact HRt.out _ h
  | @left x y _ hy ih=>rw[List.getD_eq_getElem?_getD,List.getElem?_eq_getElem ih]at hy;exact(Hopt.out x _ (List.getElem?_eq_getElem ih)).1 y hy
  | @right x y _ hy ih=>rw[List.getD_eq_getElem?_getD,List.getElem?_eq_getElem ih]at hy;exact(Hopt.out x _ (List.getElem?_eq_getElem ih)).2 y hy
 have hQn:Q0.length≤V.length:=by
  have:=HND.out.length_le_of_subset (l₂:=List.range V.length) (fun x hx=>List.mem_range.2 (by rw[←hbvl];exact hQl x hx));simpa using this
 have hBc:w2.cell? ⟨w.heap.size,0,none⟩=some (.pointer (some ⟨pb,0,none⟩)):=F2.out.cell (by rw[cell_of_row w1 _ 0 _ _ _ HB1.out];rfl) (fun q=>q);have hBlt:w.heap.size<w1.heap.size:=(Array.getElem?_eq_some_iff.1 HB1.out).1;have hf2:Fr NoM w w2:=HF1.out.trans F2.out (fun _ _ q=>q);refine(zs0 (B:=w.heap.size) (pb:=pb) Q0 BV bv w2 H2.out hQl (by rw[hbvl];exact HV0.out) (by have:=Hn.out;omega) hBc (hf2.cell hpb2 (fun q=>q)) (hbn.fr0 hf2) (by omega) (by omega) (fun q hq=>by have:=HBvb.out q hq;omega)).mono ?_
 rintro e w3 ⟨rfl,Q,hperm,hsorted,h3,f3⟩;have hlq:Q0.length=Q.length:=hperm.length_eq.symm;rw[hlq];have hq:=HQ.out Q ((hperm.nodup_iff).2 HND.out) (fun x=>(hperm.mem_iff).trans (HMem.out x)) hsorted;have hQl':∀x∈Q,x<V.length:=fun x hx=>by rw[←hbvl];exact hQl x ((hperm.mem_iff).1 hx)
 have hQn':Q.length<1000000000:=by have:=Hn.out;omega
 have hmem':∀x,x∈Q↔ReachV V R x:=fun x=>(hperm.mem_iff).trans (HMem.out x)
 have hf3:Fr NoM w1 w3:=F2.out.trans f3 (fun q hq e=>by omega);have HQo:=Hh hq;have HQl:=Hh hQl';have HQn:=Hh hQn';have HMem:=Hh hmem';have H3:=Hh h3;have F3:=Hh hf3;have HG1:=Hh hg1;have HPl:=Hh hpl;have HBlt:=Hh hBlt;have HBvl:=Hh hbvl;clear hBc hf2 hQl hQn hperm hsorted hlq hq hQl' hmem' hf3 h3 f3 hg1 hsz1 hpl hBlt hbvl;clear HND H2 F2
 -- what is read of the pool
 obtain⟨la,lc,rfl,hlc,hlcm,hlcell⟩:=SliceOf.of_owns (enc:=encV) (L:=LS) hA.left (List.map_id'' (fun _=>rfl) LS).symm;obtain⟨ua,uc,rfl,huc,hucm,hucell⟩:=SliceOf.of_owns (enc:=encV) (L:=RS) hA.right (List.map_id'' (fun _=>rfl) RS).symm;obtain⟨va,vc,rfl,hvc,hvcm,hvcell⟩:=hbn;have HC:=Hh (fun(W:World) (f:Fr NoM w1 W)=>show W.cell? ⟨w.heap.size,0,none⟩=some (.pointer (some ⟨pb,0,none⟩))/\W.cell? ⟨pb,0,none⟩=some (.slice la LS.length lc)/\W.cell? ⟨pb,1,none⟩=some (.slice ua RS.length uc)/\W.cell? ⟨pb,2,none⟩=some (.slice va BV.length vc)from
  have f0:=HF1.out.trans f (fun _ _ q=>q)
  ⟨f.cell (by rw[cell_of_row w1 _ 0 _ _ _ HB1.out];rfl) (fun q=>q),f0.cell (by rw[cell_of_row w pb 0 _ _ _ hA.blk];rfl) (fun q=>q),f0.cell (by rw[cell_of_row w pb 1 _ _ _ hA.blk];rfl) (fun q=>q),f0.cell hpb2 (fun q=>q)⟩)
 have HO:=Hh (fun(x:Nat) (hx:x<V.length)=>show ∃ba oa va bb ob vb,la=some ⟨ba,oa,none⟩/\w.cell? ⟨ba,oa+x,none⟩=some va/\Nats w va (za4 V x).1/\ua=some ⟨bb,ob,none⟩/\w.cell? ⟨bb,ob+x,none⟩=some vb/\Nats w vb (za4 V x).2 from by
  have e3:LS[x]?=some (LS[x]'(by rw[hA.lenL];exact hx)):=List.getElem?_eq_getElem _
  have e4:RS[x]?=some (RS[x]'(by rw[hA.lenR];exact hx)):=List.getElem?_eq_getElem _
  obtain⟨ba,oa,e1,c1⟩:=hlcell x _ e3;obtain⟨bb,ob,e2,c2⟩:=hucell x _ e4;have hn:za4 V x=V[x]:=by unfold za4;rw[List.getD_eq_getElem?_getD,List.getElem?_eq_getElem hx];rfl
  rw[hn];exact⟨ba,oa,_,bb,ob,_,e1,c1,(hI1 x _ V[x] e3 (List.getElem?_eq_getElem _)).1,e2,c2,(hI2 x _ V[x] e4 (List.getElem?_eq_getElem _)).1⟩)
 have HV:=Hh hvcell;have HLl:=Hh hA.lenL;have HRl2:=Hh hA.lenR;clear hA hI1 hI2 hlcell hucell hvcell hpb2;have hmm:∀(t:TypeId) (w:World),(Instr.makeMap t none).run Tryz.prog w=.ok (.map (some w.heap.size)) (w.alloc (.map #[] 0)):=fun t w=>run_makeMap t w
 obtain⟨cur,hcur,mk⟩:=zia Q.length (w3.alloc (.map #[] 0)) hQn';have HCur:=Hh hcur;clear hcur hQn';go_wp2_with fail;obtain⟨rb,hrb⟩:∃rb,rb=w3.heap.size:=⟨_,rfl⟩;obtain⟨w4,hw4⟩:∃w4,w4=(w3.alloc (.map #[] 0)).alloc (.cells cur 55):=⟨_,rfl⟩;have ho4:OutS V w1 g cap rb Q [] 0 w4 (.slice (some ⟨rb+1,0,none⟩) 0 Q.length):=by
  have f4:Fr NoM w3 w4:=by rw[hw4];exact((Fr.refl NoM w3).alloc _).alloc _
  refine⟨by simpa using za2 H3.out f4 (fun _ _ q=>q),?_,?_,F3.out.trans f4 (fun _ _ q=>q)⟩
  ·rw[hw4,hrb]
   have h:=(MapF.made encN encN w3).fr ((Fr.refl NoM _).alloc (.cells cur 55)) (fun q=>q);rwa [show zgs []=fun _=>none from funext fun x=>by simp[zgs]]
  ·rw[hw4,show rb+1=(w3.alloc (.map #[] 0)).heap.size from by rw[hrb];simp]
   exact NodesS.made _ _ (by have:=HQn.out;omega) cur HCur.out
 have hgrb:g<rb/\w.heap.size<g:=by have:=(H3.out.lt g rfl).2;have:=HG1.out;have:=HBlt.out;omega
 rw[←hw4,←hrb];have HO4:=Hh ho4;have HGrb:=Hh hgrb;have HRb:=Hh (show rb<w4.heap.size from by rw[hw4,hrb];simp;omega);clear ho4 hgrb hw4 hrb mk hmm;go_loopw [8,9] (fun v0 i W=>∃(n:Nat) (nv:Value) (A:List Nat),nv=v0/\i=.int .i64 n/\GInv V BV Q A n/\OutS V w1 g cap rb Q A n W nv/\rb<W.heap.size) (fun _ i _=>Q.length-(intOf i).toNat)
 case atStart=>exact⟨0,_,[],rfl,rfl,GInv.start V BV Q,HO4.out,HRb.out⟩
 case round =>
  obtain⟨n,nv,A,rfl,rfl,hG,hO,hrb⟩:=hrel;have HGI:=Hh hG;have HOS:=Hh hO;have HRbr:=Hh hrb;clear hG hO hrb;by_cases hlt:n<Q.length
  ·go_wp2_with fail
   obtain⟨w5,hw5⟩:∃w5,w5=wr.alloc (.cells #[] 99):=⟨_,rfl⟩;have he5:=ERow.made wr V A;have hf5:Fr NoM wr w5:=by rw[hw5];exact(Fr.refl NoM wr).alloc _
   rw[←hw5]at he5;rw[←hw5];have HE5:=Hh he5;have HF5:=Hh hf5;clear he5 hf5 hw5;have hq0:Q.getD n 0=Q[n]:=by rw[List.getD_eq_getElem?_getD,List.getElem?_eq_getElem hlt];rfl
   obtain⟨y,hy⟩:∃y,y=Q[n]:=⟨_,rfl⟩;have hAl:A.length=n:=by have:=HGI.out.perm.length_eq;simp at this;omega
   have HQ0:=Hh (show Q.getD n 0=y from hq0.trans hy.symm);have HY:=Hh hy;have HAl:=Hh hAl;have HLt:=Hh hlt;clear hq0 hy hAl;obtain⟨zs,hzs⟩:∃z,z=wr.heap.size:=⟨_,rfl⟩;rw[←hzs]at HE5 ⊢;have HZs:=Hh hzs;clear hzs;go_loopw [10,11] (fun gv i W=>∃(k m gb gc:Nat) (lv rv:Nat→Value) (G:List Nat),gv=.slice (some ⟨gb,0,none⟩) m gc/\i=.int .i64 k/\k=n+m/\k≤Q.length/\m=G.length/\G=(Q.drop n).take m/\(∀x∈G,BV.getD x 0=BV.getD y 0)/\ERow zs W (.slice (some ⟨gb,0,none⟩) m gc) G lv rv (fG V A G)/\Fr NoM wr W) (fun _ i _=>Q.length-(intOf i).toNat)
   case atStart=>exact⟨n,0,_,_,_,_,[],rfl,rfl,by omega,by have:=HLt.out;omega,rfl,by simp,by simp,HE5.out,HF5.out⟩
   case round =>
    obtain⟨w6,rfl⟩:∃w6,w6=wr:=⟨_,rfl⟩;obtain⟨k,m,gb,gc,lv,rv,G,rfl,rfl,hk,hkl,hm,hG,hGb,hE,hF⟩:=hrel;have hf6:Fr NoM w1 w6:=HOS.out.fr.trans hF (fun _ _ q=>q);obtain⟨c0,c1,c2,c3⟩:=HC.out w6 hf6;have hlist:=za2 HOS.out.list hF (fun _ _ q=>q);have hget:∀j,n≤j→(A++Q.drop n)[j]?=Q[j]?:=fun j hj=>by
     have:=HAl.out;rw[List.getElem?_append_right (by omega),List.getElem?_drop];congr 1;omega
    have hyQ:y<V.length:=by rw[HY.out];exact HQl.out _ (List.getElem_mem _)
    have cn:w6.cell? ⟨g,n,none⟩=some (.int .i64 (y:Int)):=zk3 hlist (by rw[hget n (Nat.le_refl _),HY.out];exact List.getElem?_eq_getElem _);have ixn:=zd9 g Q.length cap n HLt.out;obtain⟨b1,o1,e1,d1⟩:=HV.out y (BV.getD y 0) (by rw[List.getD_eq_getElem?_getD,List.getElem?_eq_getElem (by rw[HBvl.out];exact hyQ)];rfl);have ixy:=zaa va BV.length vc y b1 o1 (by rw[HBvl.out];exact hyQ) e1;obtain⟨yb,hyb⟩:∃b,b=BV.getD y 0:=⟨_,rfl⟩;rw[←hyb]at d1;have cy:w6.cell? ⟨b1,o1+y,none⟩=some (.int .i64 (yb:Int)):=(HF1.out.trans hf6 (fun _ _ q=>q)).cell d1 (fun q=>q);obtain⟨cb,hcb⟩:∃b:Bool,b=decide (k<Q.length/\BV.getD (Q.getD k 0) 0=yb):=⟨_,rfl⟩;have HCb:=Hh hcb;have HYb:=Hh hyb;have HK:=Hh hk;have HKl:=Hh hkl;have HM:=Hh hm;have HGd:=Hh hG;have HGb:=Hh hGb;have HE:=Hh hE;have HF:=Hh hF;have HList:=Hh hlist;have HGet:=Hh hget;have HF6:=Hh hf6;have HYq:=Hh hyQ;clear hcb hyb hk hkl hm hG hGb hE hF hlist hget hf6 hyQ d1 e1;go_upto_region 9 with fail;go_cut [57]from 31 to 57 (fun c wx=>c=.bool cb/\Fr NoM w6 wx)
    case first =>
     -- <<A
     by_cases h1:k<Q.length
     ·obtain⟨x,hx⟩:∃x,x=Q[k]:=⟨_,rfl⟩
      have hxQ:x<V.length:=by rw[hx];exact HQl.out _ (List.getElem_mem _)
      have ck:w6.cell? ⟨g,k,none⟩=some (.int .i64 (x:Int)):=zk3 HList.out (by rw[HGet.out k (by have:=HK.out;omega),hx];exact List.getElem?_eq_getElem _);have ixk:=zd9 g Q.length cap k h1;obtain⟨b2,o2,e2,d2⟩:=HV.out x (BV.getD x 0) (by rw[List.getD_eq_getElem?_getD,List.getElem?_eq_getElem (by rw[HBvl.out];exact hxQ)];rfl);have ixx:=zaa va BV.length vc x b2 o2 (by rw[HBvl.out];exact hxQ) e2;obtain⟨xb,hxb⟩:∃b,b=BV.getD x 0:=⟨_,rfl⟩;rw[←hxb]at d2;have cx:w6.cell? ⟨b2,o2+x,none⟩=some (.int .i64 (xb:Int)):=(HF1.out.trans HF6.out (fun _ _ q=>q)).cell d2 (fun q=>q);have hqk:Q.getD k 0=x:=by rw[hx,List.getD_eq_getElem?_getD,List.getElem?_eq_getElem h1];rfl
      have hce:cb=decide (xb=yb):=by rw[HCb.out,hqk,←hxb];simp[h1]
      have hd:decide ((k:Int)<(Q.length:Int))=true:=by simp;exact h1
      have HX:=Hh hx;have HXq:=Hh hxQ;have HXb:=Hh hxb;have HQk:=Hh hqk;clear hx hxQ d2 e2 hxb hqk;by_cases h2:xb=yb
      ·subst h2
       rw[decide_eq_true rfl]at hce;have HCe:=Hh hce;clear hce;go_quiet (fail);go_wp2;go_meet
       case rel=>exact⟨congrArg Value.bool HCe.out.symm,(Fr.refl NoM w6).drewN _⟩
      ·rw[decide_eq_false h2]at hce
       have HCe:=Hh hce;clear hce;have h3:((xb:Int) == (yb:Int))=false:=by simp;omega
       have h4:¬(xb:Int)=(yb:Int):=by omega
       clear h2;go_quiet (fail);go_wp2;go_meet
       case rel=>exact⟨congrArg Value.bool HCe.out.symm,(Fr.refl NoM w6).drewN _⟩
     ·have hd:decide ((k:Int)<(Q.length:Int))=false:=by simp;omega
      have hce:cb=false:=by rw[HCb.out];simp[h1]
      have HCe:=Hh hce;clear hce;go_quiet (fail);go_wp2;go_meet
      case rel=>exact⟨congrArg Value.bool HCe.out.symm,(Fr.refl NoM w6).drewN _⟩
     -- A>>
    case rest =>
     obtain⟨rfl,hfc⟩:=hcut;obtain⟨w7,rfl⟩:∃w7,w7=wc:=⟨_,rfl⟩;clear c0 c1 c2 c3 cn ixn ixy cy;have hE7:=HE.out.fr hfc (fun _ _ _ q=>q);have hF7:=HF.out.trans hfc (fun _ _ q=>q);have hf7:=HF6.out.trans hfc (fun _ _ q=>q);have hl7:=za2 HList.out hfc (fun _ _ q=>q);have HE7:=Hh hE7;have HF7:=Hh hF7;have Hf7:=Hh hf7;have HL7:=Hh hl7;clear hE7 hF7 hf7 hl7 hfc HE HF HF6 HList;by_cases hc:k<Q.length/\BV.getD (Q.getD k 0) 0=yb
     ·-- <<A
      obtain⟨h1,h2⟩:=hc;have e:cb=true:=by rw[HCb.out];exact decide_eq_true ⟨h1,h2⟩
      subst e;obtain⟨x,hx⟩:∃x,x=Q[k]:=⟨_,rfl⟩;have hqk:Q.getD k 0=x:=by rw[hx,List.getD_eq_getElem?_getD,List.getElem?_eq_getElem h1];rfl
      rw[hqk]at h2;have hxQ:x∈Q:=by rw[hx];exact List.getElem_mem _
      have hxV:=HQl.out x hxQ;have ck:w7.cell? ⟨g,k,none⟩=some (.int .i64 (x:Int)):=zk3 HL7.out (by rw[HGet.out k (by have:=HK.out;omega),hx];exact List.getElem?_eq_getElem _);have ixk:=zd9 g Q.length cap k h1;obtain⟨c0,c1,c2,_⟩:=HC.out w7 Hf7.out;obtain⟨ba,oa,v1,bb,ob,v2,e1,d1,n1,e2,d2,n2⟩:=HO.out x hxV;have f07:=HF1.out.trans Hf7.out (fun _ _ q=>q);have d1':=HF1.out.cell d1 (fun q=>q);have d2':=HF1.out.cell d2 (fun q=>q);clear d1 d2;have ixl:=zvf la LS.length lc x ba oa (by rw[HLl.out];exact hxV) e1;have ixr:=zvf ua RS.length uc x bb ob (by rw[HRl2.out];exact hxV) e2;have hgrp:=HQo.out.group HGI.out HLt.out hxQ (by rw[h2,HYb.out,HQ0.out]);have hup:=HQo.out.up x hxQ;obtain⟨L1,hL1⟩:∃L,L=(za4 V x).1:=⟨_,rfl⟩;obtain⟨L2,hL2⟩:∃L,L=(za4 V x).2:=⟨_,rfl⟩;have hll:L1.length<1000000000/\L2.length<1000000000:=by
       have hm:za4 V x∈V:=by unfold za4;rw[List.getD_eq_getElem?_getD,List.getElem?_eq_getElem hxV];exact List.getElem_mem _
       rw[hL1,hL2];exact HLen.out _ hm
      rw[←hL1]at n1 hgrp hup;rw[←hL2]at n2 hgrp hup;obtain⟨a1,c3,rfl,z1⟩:=id n1;obtain⟨a2,c4,rfl,z2⟩:=id n2;clear z1 z2;have n1:=n1.fr0 f07;have n2:=n2.fr0 f07;have HX:=Hh hx;have HXq:=Hh hxQ;have HXV:=Hh hxV;have HH2:=Hh h2;have HN1:=Hh n1;have HN2:=Hh n2;have HGr:=Hh hgrp;have HUp:=Hh hup;have HL1:=Hh hL1;have HL2:=Hh hL2;have HLL:=Hh hll;have HH1:=Hh h1;have HRank:=Hh (fun(W:World) (f:Fr NoM w7 W)=>HOS.out.rank.fr (HF7.out.trans f (fun _ _ q=>q)) (fun q=>q));have HN1':=Hh (fun(W:World) (f:Fr NoM w7 W)=>HN1.out.fr0 f);have HN2':=Hh (fun(W:World) (f:Fr NoM w7 W)=>HN2.out.fr0 f);have HSS:=Hh (fun(W:World) (f:Fr NoM w1 W)=>have c:=HC.out W f;(⟨c.1,c.2.1,c.2.2.1,f.cell d1' (fun q=>q),f.cell d2' (fun q=>q)⟩:W.cell? ⟨w.heap.size,0,none⟩=some (.pointer (some ⟨pb,0,none⟩))/\W.cell? ⟨pb,0,none⟩=some (.slice la LS.length lc)/\W.cell? ⟨pb,1,none⟩=some (.slice ua RS.length uc)/\W.cell? ⟨ba,oa+x,none⟩=some (.slice a1 L1.length c3)/\W.cell? ⟨bb,ob+x,none⟩=some (.slice a2 L2.length c4)));clear c0 c1 c2 d1' d2' hx hxQ hxV h2 n1 n2 hgrp hup hL1 hL2 hll e1 e2 f07 hqk;go_upto_region 12 with fail;have hGn:(Q.drop n).take (m+1)=G ++ [x]/\x ∉ G:=by
       have hk:=HK.out;subst hk;rw[HGd.out,HX.out];exact⟨zkp HH1.out,zv7 HQo.out.nodup HH1.out⟩
      have HGn:=Hh hGn;have HBd:=Hh (show(m+1)*56≤140737488355328 by have:=HK.out;have:=HH1.out;have:=HQn.out;omega);have HZb:=Hh (show zs≤w7.heap.size by rw[HZs.out];exact HF7.out.size);have F0:Fr NoM w7 w7.drew:=(Fr.refl NoM w7).drew;have J0:Fr NoM w1 w7.drew:=Hf7.out.drew;clear hGn;go_region_held3 (fun(W:World)=>W.cell? ⟨w.heap.size,0,none⟩=some (.pointer (some ⟨pb,0,none⟩))/\W.cell? ⟨pb,0,none⟩=some (.slice la LS.length lc)/\W.cell? ⟨pb,1,none⟩=some (.slice ua RS.length uc)/\W.cell? ⟨ba,oa+x,none⟩=some (.slice a1 L1.length c3)/\W.cell? ⟨bb,ob+x,none⟩=some (.slice a2 L2.length c4))
       (first|exact HSS.out _ (by assumption)|exact HSS.out _ (Fr.alloc (by assumption) _))
       (first
        | (go_at_call 61;(with_reducible refine(zhn (.slice a1 L1.length c3) L1 A rb _ (HN1'.out _ (by assumption)) (HRank.out _ (by assumption)) HGr.out.1 HUp.out.1 HLL.out.1).mono ?_);rintro e w8 ⟨g8,rfl,n8,lo8,hi8,f8,b8⟩;have F8:Fr NoM w7 w8:=Fr.trans (by assumption) f8 (fun _ _ q=>q);have J8:Fr NoM w1 w8:=Hf7.out.trans F8 (fun _ _ q=>q))
        | (go_at_call 61;(with_reducible refine(zhn (.slice a2 L2.length c4) L2 A rb _ (HN2'.out _ (by assumption)) (HRank.out _ (by assumption)) HGr.out.2 HUp.out.2 HLL.out.2).mono ?_);rintro e w9 ⟨g9,rfl,n9,lo9,hi9,f9,b9⟩;have F9:Fr NoM w7 w9:=Fr.trans (by assumption) f9 (fun _ _ q=>q);have J9:Fr NoM w1 w9:=Hf7.out.trans F9 (fun _ _ q=>q))
        | (refine zhf rfl (.tmp 64) (.tmp 86) 96 rfl zs 99 _ 3 56 Tryz.underlying96 zt5 rfl (by decide) (.slice (some ⟨gb,0,none⟩) m gc) m (zem lv rv G) rfl (by have h:=za2 HE7.out.row (F9.alloc (.cells #[.int .i64 (x:Int),.slice (some ⟨g8,0,none⟩) L1.length L1.length,.slice (some ⟨g9,0,none⟩) L2.length L2.length] 99)) (fun _ _ q=>q);rw[←HM.out]at h;exact h) w9.heap.size rfl [encN x,.slice (some ⟨g8,0,none⟩) L1.length L1.length,.slice (some ⟨g9,0,none⟩) L2.length L2.length] 99 (heap_alloc_new w9 _) rfl (by intro u hu;simp at hu;rcases hu with rfl|rfl|rfl <;> rfl) HBd.out (by decide) (by have:=HZb.out;have:=F9.size;simp;omega) ?_;intro v10 w10 h10 f10 b10;have J10:Fr NoM w1 w10:=(J9.alloc _).trans f10 (fun q hq e=>by have h1:=(HE7.out.row.lt q e).1;have h2:=HOS.out.fr.size;have h3:=HZs.out;omega))
        | fail)
      all_goals
       obtain⟨gb',gc',rfl,z3,z4⟩:=zbg h10 (Nat.succ_pos m);have H10:=Hh h10;have F10:=Hh f10;have B10:=Hh b10;have N8:=Hh n8;have N9:=Hh n9;have G8:=Hh f8;have G9:=Hh f9;have K8:=Hh F8;have K9:=Hh F9;have B8:=Hh b8;have B9:=Hh b9;have S8:=Hh (And.intro lo8 hi8);have S9:=Hh (And.intro lo9 hi9);clear h10 f10 b10 n8 n9 b8 b9 f8 f9 F8 F9 F0 J0 J8 J9 J10 z3 z4 lo8 hi8 lo9 hi9;have hq9:=HQn.out;go_wp2;go_roundw
       case rel =>
        have hrow:=HE7.out.row;have hE:=HE7.out;rw[HM.out]at hE;have hZ:=HZs.out;have hz7:=HF7.out.size;have s8:=S8.out;have s9:=S9.out;have k8:=K8.out.size;have k9:=K9.out.size;have g9s:=G9.out.size;have o8:∀q,(Value.slice (some ⟨g8,0,none⟩) L1.length L1.length).ownBlock=some q→zs≤q/\q<(w9.alloc (.cells #[.int .i64 (x:Int),.slice (some ⟨g8,0,none⟩) L1.length L1.length,.slice (some ⟨g9,0,none⟩) L2.length L2.length] 99)).heap.size/\(Value.slice (some ⟨gb,0,none⟩) G.length gc).ownBlock≠some q:=fun q hq=>by
         have e:g8=q:=Option.some.inj hq;subst e;have h1:w7.heap.size≤g8:=s8.1;have h2:=(hrow.lt gb rfl).2;exact⟨by omega,by simp;omega,fun e=>by have e:gb=g8:=Option.some.inj e;omega⟩
        have o9:∀q,(Value.slice (some ⟨g9,0,none⟩) L2.length L2.length).ownBlock=some q→zs≤q/\q<(w9.alloc (.cells #[.int .i64 (x:Int),.slice (some ⟨g8,0,none⟩) L1.length L1.length,.slice (some ⟨g9,0,none⟩) L2.length L2.length] 99)).heap.size/\(Value.slice (some ⟨gb,0,none⟩) G.length gc).ownBlock≠some q:=fun q hq=>by
         have e:g9=q:=Option.some.inj hq;subst e;have h1:w8.heap.size≤g9:=s9.1;have h2:=(hrow.lt gb rfl).2;exact⟨by omega,by simp;omega,fun e=>by have e:gb=g9:=Option.some.inj e;omega⟩
        have hfr9:=K9.out.alloc (.cells #[.int .i64 (x:Int),.slice (some ⟨g8,0,none⟩) L1.length L1.length,.slice (some ⟨g9,0,none⟩) L2.length L2.length] 99);refine⟨k+1,m+1,gb',gc',setV lv x (.slice (some ⟨g8,0,none⟩) L1.length L1.length),setV rv x (.slice (some ⟨g9,0,none⟩) L2.length L2.length),G ++ [x],rfl,by go_num,by have:=HK.out;omega,by have:=HH1.out;omega,by have:=HM.out;simp;omega,HGn.out.1.symm,fun z hz=>?_,?_,?_⟩
        ·rcases List.mem_append.1 hz with hz|hz
         ·exact HGb.out z hz
         ·rw[List.mem_singleton]at hz;subst hz;rw[HH2.out,HYb.out]
        ·have h10:=H10.out
         have f10:=F10.out;have b10:=B10.out;rw[HM.out]at h10 f10 b10 ⊢;have o89:∀q,(Value.slice (some ⟨g8,0,none⟩) L1.length L1.length).ownBlock=some q→(Value.slice (some ⟨g9,0,none⟩) L2.length L2.length).ownBlock≠some q:=fun q hq hq'=>by
          have e8:g8=q:=Option.some.inj hq;have e9:g9=q:=Option.some.inj hq';have h1:w8.heap.size≤g9:=s9.1;have h2:g8<w8.heap.size:=s8.2;omega
         have oge:∀q,(Value.slice (some ⟨g8,0,none⟩) L1.length L1.length).ownBlock=some q∨(Value.slice (some ⟨g9,0,none⟩) L2.length L2.length).ownBlock=some q→w7.heap.size≤q:=fun q hq=>by
          rcases hq with hq|hq
          ·have e8:g8=q:=Option.some.inj hq
           have h1:w7.heap.size≤g8:=s8.1;omega
          ·have e9:g9=q:=Option.some.inj hq
           have h1:w8.heap.size≤g9:=s9.1;omega
         have oth:∀q,(Value.slice (some ⟨g8,0,none⟩) L1.length L1.length).ownBlock=some q∨(Value.slice (some ⟨g9,0,none⟩) L2.length L2.length).ownBlock=some q→RowB (w9.alloc (.cells #[.int .i64 (x:Int),.slice (some ⟨g8,0,none⟩) L1.length L1.length,.slice (some ⟨g9,0,none⟩) L2.length L2.length] 99)) q:=fun q hq=>by
          rcases hq with hq|hq
          ·have e8:g8=q:=Option.some.inj hq
           subst e8;exact B8.out.fr (G9.out.alloc _) (fun q=>q)
          ·have e9:g9=q:=Option.some.inj hq
           subst e9;exact B9.out.fr ((Fr.refl NoM w9).alloc _) (fun q=>q)
         refine hE.snoc HGn.out.2 hfr9 o89 oge oth ⟨?_,o8⟩ ⟨?_,o9⟩ h10 f10 b10
         ·rw[show(zb7 A (za4 V x)).1=zd0 A L1 from by rw[HL1.out];rfl]
          exact N8.out.fr0 (G9.out.alloc _)
         ·rw[show(zb7 A (za4 V x)).2=zd0 A L2 from by rw[HL2.out];rfl]
          exact N9.out.fr0 ((Fr.refl NoM w9).alloc _)
        ·exact(HF7.out.trans hfr9 (fun _ _ q=>q)).trans F10.out (fun q hq e=>by have h1:=(hrow.lt q e).1;omega)
       case measure=>simp[intOf];have:=HH1.out;omega
      -- A>>
     ·have e:cb=false:=by rw[HCb.out];exact decide_eq_false hc
      subst e;have hm0:0<m:=by
       rcases Nat.eq_zero_or_pos m with h|h
       ·exfalso;apply hc
        have hk:k=n:=by have:=HK.out;omega
        rw[hk];exact⟨HLt.out,by rw[HQ0.out,HYb.out]⟩
       ·exact h
      have hend:n+m=Q.length∨BV.getD (Q.getD (n+m) 0) 0≠BV.getD (Q.getD n 0) 0:=by
       rcases Nat.lt_or_ge (n+m) Q.length with h|h
       ·right
        intro e;exact hc ⟨by have:=HK.out;omega,by rw[HK.out,e,HQ0.out,HYb.out]⟩
       ·left;have:=HK.out;have:=HKl.out;omega
      have HM0:=Hh hm0;have HEnd:=Hh hend;clear hm0 hend hc;go_wp2_with fail;have hs:=zs1 G lv rv (fG V A G) w7 (by have h:=HE7.out.row;rw[HM.out]at h;exact h) (by have:=HM.out;have:=HK.out;have:=HKl.out;have:=HQn.out;omega)
       (fun i=>⟨(HE7.out.left i).1,fun q hq e=>((HE7.out.left i).2 q hq).2.2 (by rw[e];rfl)⟩) (fun i=>⟨(HE7.out.right i).1,fun q hq e=>((HE7.out.right i).2 q hq).2.2 (by rw[e];rfl)⟩)
      rw[←HM.out]at hs;refine hs.mono ?_
      clear hs;rintro e w8 ⟨rfl,G',hp,hsrt,h8,f8⟩;have hgl:G'.length=m:=by rw[hp.length_eq,←HM.out]
      rw[hgl]at h8;have hgb:=HE7.out.row.lt gb rfl;have hE8:ERow zs w8 (.slice (some ⟨gb,0,none⟩) m gc) G' lv rv (fG V A G):=by
       refine⟨by rw[hgl];exact h8,fun i=>⟨(HE7.out.left i).1.fr f8 (fun _ q hq e=>((HE7.out.left i).2 q hq).2.2 (by rw[e];rfl)),fun q hq=>⟨((HE7.out.left i).2 q hq).1,Nat.lt_of_lt_of_le ((HE7.out.left i).2 q hq).2.1 f8.size,((HE7.out.left i).2 q hq).2.2⟩⟩,
        fun i=>⟨(HE7.out.right i).1.fr f8 (fun _ q hq e=>((HE7.out.right i).2 q hq).2.2 (by rw[e];rfl)),fun q hq=>⟨((HE7.out.right i).2 q hq).1,Nat.lt_of_lt_of_le ((HE7.out.right i).2 q hq).2.1 f8.size,((HE7.out.right i).2 q hq).2.2⟩⟩,(zmx hp).nodup_iff.2 HE7.out.sep,fun i q hq=>(HE7.out.thaw i q hq).fr f8 (fun e=>by
        rcases hq with hq|hq
        ·exact((HE7.out.left i).2 q hq).2.2 (by rw[e];rfl)
        ·exact((HE7.out.right i).2 q hq).2.2 (by rw[e];rfl))⟩
      have hF8:Fr NoM wr w8:=HF7.out.trans f8 (fun q hq e=>by have:=HZs.out;omega);have hsr:G'.Pairwise fun a b=>zac (zb7 A (za4 V b)) (zb7 A (za4 V a))=false:=hsrt.imp_of_mem fun {a b} ha hb h=>by
       have e1:fG V A G a=zb7 A (za4 V a):=if_pos ((hp.mem_iff).1 ha);have e2:fG V A G b=zb7 A (za4 V b):=if_pos ((hp.mem_iff).1 hb);rw[e1,e2]at h;exact h
      have hnext:=HGI.out.step HQo.out HM0.out (by have:=HK.out;have:=HKl.out;omega) HGd.out (fun x hx=>by rw[HQ0.out];exact HGb.out x hx) HEnd.out hp hsr;have HNext:=Hh hnext;have HE8:=Hh hE8;have HF8:=Hh hF8;have HGl:=Hh hgl;have HP':=Hh hp;have HGbl:=Hh hgb;clear hnext hE8 hF8 hgl hp hgb hsr hsrt h8 f8;go_wp2_with fail;have hN0:=HOS.out.nodes;obtain⟨NV0,hn0⟩:=hN0;have hb0:∀q∈zb6 NV0,q<zs:=fun q hq=>by have h1:=(hn0.blk q hq).2.1;have h2:=HZs.out;omega
      have HN0:=Hh hn0;have HB0:=Hh hb0;clear hn0 hb0;go_loopw [8,92] (fun v0 i W=>∃(j:Nat) (nv':Value),nv'=v0/\i=.int .i64 j/\j≤m/\W.ownsRow w1.heap.size 3 1 (.slice (some ⟨g,0,none⟩) Q.length cap) Q.length ((A++G'.take j++(Q.drop n).drop j).map encN)/\MapF encN encN W rb (zgs (A++G'.take j)) ∧
       (∃NV,NodesN (rb+1) W nv' ((A.map fun x=>zb7 A (za4 V x))++(G'.take j).map fun x=>zb7 A (za4 V x)) NV/\∀q∈zb6 NV,q<zs∨q∈zbb lv rv (G'.take j))/\(∀q,nv'.ownBlock=some q→nv.ownBlock=some q∨w8.heap.size≤q)/\Fr (fun q=>q=g∨q=rb∨nv.ownBlock=some q) w8 W) (fun _ i _=>m-(intOf i).toNat)
      case atStart =>
       refine⟨0,_,rfl,rfl,Nat.zero_le _,?_,?_,?_,fun q hq=>.inl hq,Fr.refl _ _⟩
       ·simpa using za2 HOS.out.list HF8.out (fun _ _ q=>q)
       ·simpa using HOS.out.rank.fr HF8.out (fun q=>q)
       ·exact⟨NV0,by simpa using HN0.out.fr HF8.out (fun _ _ _ q=>q),fun q hq=>.inl (HB0.out q hq)⟩
      case round =>
       obtain⟨w9,rfl⟩:∃w9,w9=wr:=⟨_,rfl⟩;obtain⟨j,nv',rfl,rfl,hj,hlist,hrank,hnodes,hnb,hfr⟩:=hrel;by_cases hj2:j<m
       ·have hjG:j<G'.length:=by rw[HGl.out];exact hj2
        obtain⟨x,hx⟩:∃x,x=G'[j]:=⟨_,rfl⟩;have hx2:G'[j]?=some x:=by rw[hx];exact List.getElem?_eq_getElem _
        have hgbl:=HGbl.out;have hE9:=HE8.out.fr hfr (fun q h1 h2 e=>by
         have hz:=HZs.out;have hgr:=HGrb.out;have hrb:=HRbr.out;rcases e with rfl|rfl|e
         ·omega
         ·omega
         ·have:=(HN0.out.row.lt q e).2;omega)
        obtain⟨d0,d1,d2⟩:=zr0 (n:=m) (by have h:=hE9.row;rw[HGl.out]at h;exact h) HGl.out.symm hx2;obtain⟨xl,hxl⟩:∃v,v=lv x:=⟨_,rfl⟩;obtain⟨xr,hxr⟩:∃v,v=rv x:=⟨_,rfl⟩;have hel:Nats w9 (lv x) (fG V A G x).1/\∀q,(lv x).ownBlock=some q→zs≤q/\q<w8.heap.size:=⟨(hE9.left x).1,fun q hq=>⟨((HE8.out.left x).2 q hq).1,((HE8.out.left x).2 q hq).2.1⟩⟩;have her:Nats w9 (rv x) (fG V A G x).2/\∀q,(rv x).ownBlock=some q→zs≤q/\q<w8.heap.size:=⟨(hE9.right x).1,fun q hq=>⟨((HE8.out.right x).2 q hq).1,((HE8.out.right x).2 q hq).2.1⟩⟩;rw[←hxl]at d1 hel;rw[←hxr]at d2 her;have hfx:fG V A G x=zb7 A (za4 V x):=if_pos ((HP'.out.mem_iff).1 (by rw[hx];exact List.getElem_mem _));rw[hfx]at hel her;obtain⟨a1,c1,rfl,z1⟩:=id hel.1;obtain⟨a2,c2,rfl,z2⟩:=id her.1;clear z1 z2;have ixe:=zxy gb m gc j hj2;have HX:=Hh hx;have HX2:=Hh hx2;have HEl:=Hh hel;have HEr:=Hh her;have HLi:=Hh hlist;have HRk:=Hh hrank;have HNo:=Hh hnodes;have HNb:=Hh hnb;have HFr:=Hh hfr;have HE9:=Hh hE9;have HJ:=Hh hj;have HXl:=Hh hxl.symm;have HXr:=Hh hxr.symm;clear hx hx2 hxl hxr hel her hfx hlist hrank hnodes hnb hfr hE9 hgbl hj;go_upto_region 17 with fail;obtain⟨n1,hn1⟩:∃n1,n1=(zb7 A (za4 V x)).1.length:=⟨_,rfl⟩;obtain⟨n2,hn2⟩:∃n2,n2=(zb7 A (za4 V x)).2.length:=⟨_,rfl⟩;rw[←hn1,←hn2];obtain⟨w10,hw10⟩:∃w10,w10=w9.alloc (.cells #[.int .i64 (x:Int),.slice a1 n1 c1,.slice a2 n2 c2] 99):=⟨_,rfl⟩;have hf10:Fr NoM w9 w10:=by rw[hw10];exact(Fr.refl NoM w9).alloc _
        have hb10:w10.heap[w9.heap.size]?=some (.cells #[.int .i64 (x:Int),.slice a1 n1 c1,.slice a2 n2 c2] 99 (0,0)):=by rw[hw10];exact heap_alloc_new w9 _
        rw[←hw10];have hnj:n+j<Q.length:=by have:=HK.out;have:=HKl.out;omega
        have hq9:=HQn.out;have hcell:∀W:World,Fr (fun q=>q=g∨q=rb) w10 W→W.cell? ⟨w9.heap.size,0,none⟩=some (.int .i64 (x:Int))/\W.cell? ⟨w9.heap.size,1,none⟩=some (.slice a1 n1 c1)/\W.cell? ⟨w9.heap.size,2,none⟩=some (.slice a2 n2 c2):=fun W f=>by
         have hne:¬(w9.heap.size=g∨w9.heap.size=rb):=by
          have:=HGrb.out;have:=HRbr.out;have:=HF8.out.size;have:=HFr.out.size;omega
         have hb:=f.heap hb10 hne;exact⟨by rw[cell_of_row _ _ 0 _ _ _ hb];rfl,by rw[cell_of_row _ _ 1 _ _ _ hb];rfl,by rw[cell_of_row _ _ 2 _ _ _ hb];rfl⟩
        have HCell:=Hh hcell;have HF10:=Hh hf10;have HNj:=Hh hnj;have HN1:=Hh hn1;have HN2:=Hh hn2;have HHs:=Hh (show w10.heap.size=w9.heap.size+1 from by rw[hw10];simp);clear hb10 hw10 hcell hf10 hn1 hn2 d0 d1 d2 ixe;obtain⟨⟨u0,hu0⟩,hfz,hset⟩:=zsm (za2 HLi.out HF10.out (fun _ _ q=>q)) (n+j) x HNj.out;have ixs:∀W,(Instr.indexAt 42 (.slice (some ⟨g,0,none⟩) Q.length cap) (.int .i64 ((n:Int)+(j:Int)))).run Tryz.prog W=.ok (.pointer (some ⟨g,n+j,none⟩)) W:=fun W=>zd9 g Q.length cap (n+j) HNj.out W
        obtain⟨e0,_,_⟩:=HCell.out w10 (Fr.refl _ _);have HSet:=Hh hset;clear hset;go_upto_region 18 with fail;obtain⟨w11,hw11⟩:∃w11,w11=w10.setCell ⟨g,n+j,none⟩ (.int .i64 (x:Int)):=⟨_,rfl⟩;have hf11:Fr (fun q=>q=g∨q=rb) w10 w11:=by rw[hw11];exact Fr.setCell (Fr.refl _ w10) _ _ (fun _=>.inl rfl)
        have hl11:w11.ownsRow w1.heap.size 3 1 (.slice (some ⟨g,0,none⟩) Q.length cap) Q.length (((A++G'.take j++(Q.drop n).drop j).set (n+j) x).map encN):=by rw[hw11];exact HSet.out
        have hr11:MapF encN encN w11 rb (zgs (A++G'.take j)):=by
         rw[hw11];exact(HRk.out.fr HF10.out (fun q=>q)).fr (Fr.setCell (Fr.refl (fun q=>q=g) w10) _ _ (fun _=>rfl)) (by have:=HGrb.out;omega)
        rw[←hw11];obtain⟨w12,hrun,hmap,hf12⟩:=MapF.store (P:=Tryz.prog) hr11 (KeyAt.nat Tryz.underlying3) Tryz.underlying66 x (n+j);have hrun:(Instr.mapUpdate 66 (.map (some rb)) (.int .i64 (x:Int)) (.int .i64 ((n:Int)+(j:Int)))).run Tryz.prog w11=.ok () w12:=hrun;have hF12:Fr (fun q=>q=g∨q=rb) w10 w12:=hf11.trans hf12 (fun q _ e=>.inr e);have hl12:=za2 hl11 hf12 (fun q hq e=>by have h1:g=q:=Option.some.inj hq;have e:q=rb:=e;have:=HGrb.out;omega);obtain⟨e1,_,_⟩:=HCell.out w11 hf11;obtain⟨_,e2,e3⟩:=HCell.out w12 hF12;have HF12:=Hh hF12;have HL12:=Hh hl12;have HMap:=Hh hmap;clear hf11 hl11 hr11 hw11 hf12 hF12 hl12 hmap hu0 hfz ixs e0;obtain⟨NV,hN,hNb⟩:=HNo.out;have hrow:=hN.row;have hnl:=hN.len;have HRow:=Hh hrow;have HNl:=Hh hnl;have HNN:=Hh hN;have HNB:=Hh hNb;have hnvl:NV.length=n+j:=by
         have h1:=HAl.out;have h2:=HGl.out;rw[hnl];simp;omega
        have HNvl:=Hh hnvl;have HB12:=Hh (show(NV.length+1)*48≤140737488355328 by omega);have hF90:Fr (fun q=>q=g∨q=rb) w9 w12:=((HF10.out.mono (fun _ _ q=>q.elim)).trans HF12.out (fun _ _ e=>e));have HF90:=Hh hF90;clear hrow hnl hN hNb hnvl hF90;go_wp2_with (at_builtin;refine zh9 rfl _ _ 25 rfl (rb+1) 55 _ 2 48 Tryz.underlying25 zbi rfl (by decide) nv' NV.length (zay NV) rfl (by exact za2 HRow.out (HF90.out.alloc _) (fun q hq e=>by have h1:=(HRow.out.lt q hq).1;have:=HGrb.out;rcases e with e|e <;> omega)) w12.heap.size rfl [.slice a1 n1 c1,.slice a2 n2 c2] 55 (heap_alloc_new w12 _) rfl (by intro u hu;simp at hu;rcases hu with rfl|rfl <;> rfl) HB12.out (by decide) (by have:=HRbr.out;have:=HF8.out.size;have:=HFr.out.size;have:=HF90.out.size;simp;omega) ?_);intro v13 w13 h13 f13 b13;have H13:=Hh h13;have F13:=Hh f13;have B13:=Hh b13;clear h13 f13 b13 hrun e1 e2 e3;go_wp2;go_roundw
        case rel =>
         have hgr:=HGrb.out;have hzs:=HZs.out;have hs8:=HF8.out.size;have hs9:=HFr.out.size;have hsa:Fr (fun q=>q=g∨q=rb) w9 (w12.alloc (.cells #[.slice a1 n1 c1,.slice a2 n2 c2] 55)):=HF90.out.alloc _;have hNodes:=HNN.out.fr hsa (fun q h1 _ e=>by rcases e with e|e <;> omega);have hent:∀(u:Value) (L:List Nat),(Nats w9 u L/\∀q,u.ownBlock=some q→zs≤q/\q<w8.heap.size)→Nats (w12.alloc (.cells #[.slice a1 n1 c1,.slice a2 n2 c2] 55)) u L/\∀q,u.ownBlock=some q→rb+1≤q/\q<(w12.alloc (.cells #[.slice a1 n1 c1,.slice a2 n2 c2] 55)).heap.size/\nv'.ownBlock≠some q:=fun u L ⟨h1,h2⟩ =>
          ⟨h1.fr hsa (fun _ q hq e=>by have:=(h2 q hq).1;have:=HRbr.out;rcases e with e|e <;> omega),fun q hq=>by
           obtain⟨h3,h4⟩:=h2 q hq;have h5:=hsa.size;have h6:=HRbr.out;refine⟨by omega,by omega,fun e=>?_⟩;rcases HNb.out q e with h|h
           ·have:=(HN0.out.row.lt q h).2
            omega
           ·omega⟩
         have hx2:=HX2.out;have hjl:j<G'.length:=by rw[HGl.out];exact hj2
         have htk:G'.take (j+1)=G'.take j ++ [x]:=by rw[List.take_succ_eq_append_getElem hjl,HX.out]
         have hAG:(A++G'.take j).length=n+j:=by have:=HAl.out;simp;omega
         have hnx:x ∉ A++G'.take j:=by
          have hnd:(A++G').Nodup:=(HNext.out.perm.nodup_iff).2 ((List.take_sublist _ _).nodup HQo.out.nodup);rw[show A++G'=(A++G'.take j)++G'.drop j from by rw[List.append_assoc,List.take_append_drop],List.drop_eq_getElem_cons hjl,←HX.out,List.nodup_append]at hnd;intro h;exact hnd.2.2 x h x (List.mem_cons_self ..) rfl
         refine⟨j+1,v13,rfl,by go_num,by omega,?_,?_,?_,fun q hq=>?_,?_⟩
         ·have h1:=za2 (HL12.out.alloc (.cells #[.slice a1 n1 c1,.slice a2 n2 c2] 55)) F13.out (fun q hq e=>by
           have e1:g=q:=Option.some.inj hq;have:=(HRow.out.lt q e).1;omega)
          have e1:(A++G'.take j++(Q.drop n).drop j).set (n+j) x=A++G'.take (j+1)++(Q.drop n).drop (j+1):=by
           have hjd:j<(Q.drop n).length:=by simp;omega
           rw[List.drop_eq_getElem_cons hjd,List.set_append_right _ _ (by omega),hAG,Nat.sub_self,List.set_cons_zero,htk];simp
          rw[e1]at h1;exact h1
         ·have h1:=(HMap.out.fr ((Fr.refl NoM w12).alloc (.cells #[.slice a1 n1 c1,.slice a2 n2 c2] 55)) (fun q=>q)).fr F13.out (fun e=>by
           have:=(HRow.out.lt rb e).1;omega)
          rw[show n+j=(A++G'.take j).length from hAG.symm,zpx _ _ hnx,List.append_assoc,←htk]at h1;exact h1
         ·rw[htk,List.map_append,List.map_cons,List.map_nil,←List.append_assoc]
          have hb13:v13.ownBlock=nv'.ownBlock∨∃b,v13.ownBlock=some b/\(w12.alloc (.cells #[.slice a1 n1 c1,.slice a2 n2 c2] 55)).heap.size≤b:=by
           rw[World.size_alloc];exact B13.out
          have HXL:=Hh (show lv x=.slice a1 n1 c1 from by rw[HN1.out];exact HXl.out);have HXR:=Hh (show rv x=.slice a2 n2 c2 from by rw[HN2.out];exact HXr.out);have hsp:(zbb lv rv (G'.take j ++ [x])).Nodup:=by
           have h1:=HE8.out.sep;rw[←List.take_append_drop (j+1) G',htk,zc7,List.nodup_append]at h1;exact h1.1
          rw[zc7,zfe,List.nodup_append,HXL.out,HXR.out]at hsp;refine⟨_,NodesN.snoc (w:=w12.alloc (.cells #[.slice a1 n1 c1,.slice a2 n2 c2] 55)) (l:=.slice a1 n1 c1) (r:=.slice a2 n2 c2) (v:=nv') hNodes ?_ ?_ ?_ ?_ ?_ H13.out F13.out hb13,?_⟩
          ·have he:=hent _ _ HEl.out;rw[←HN1.out]at he;exact he
          ·have he:=hent _ _ HEr.out;rw[←HN2.out]at he;exact he
          ·intro q hq hq'
           have h1:=hsp.2.1;simp[List.filterMap_cons,hq,hq']at h1
          ·intro q hq
           have hno:q ∉ [Value.slice a1 n1 c1,Value.slice a2 n2 c2].filterMap Value.ownBlock:=fun hp=>by
            rcases HNB.out q hq with h|h
            ·rcases zez hp with hp|hp
             ·have:=(HEl.out.2 q (by rw[←HN1.out];exact hp)).1;omega
             ·have:=(HEr.out.2 q (by rw[←HN2.out];exact hp)).1;omega
            ·exact hsp.2.2 q h q hp rfl
           exact⟨fun e=>hno (List.mem_filterMap.2 ⟨_,List.mem_cons_self ..,e⟩),fun e=>hno (List.mem_filterMap.2 ⟨_,List.mem_cons_of_mem _ (List.mem_cons_self ..),e⟩)⟩
          ·intro q hq
           have h1:=HE9.out.thaw x q (by rw[HXL.out,HXR.out];exact hq);refine h1.fr hsa (fun e=>?_);have h2:zs≤q:=by
            rcases hq with hq|hq
            ·exact(HEl.out.2 q (by rw[←HN1.out];exact hq)).1
            ·exact(HEr.out.2 q (by rw[←HN2.out];exact hq)).1
           have:=HRbr.out;rcases e with e|e <;> omega
          ·intro q hq
           rw[zck,List.mem_append]at hq;rw[zc7,zfe,HXL.out,HXR.out];rcases hq with hq|hq
           ·rcases HNB.out q hq with h|h
            ·exact .inl h
            ·exact .inr (List.mem_append_left _ h)
           ·exact .inr (List.mem_append_right _ hq)
         ·rcases B13.out with h|⟨b,h,h2⟩
          ·rw[h]at hq;exact HNb.out q hq
          ·rw[h]at hq;cases hq
           right
           have:=HF90.out.size;omega
         ·refine(HFr.out.trans hsa (fun q _ e=>?_)).trans F13.out (fun q hq e=>?_)
          ·rcases e with e|e
           ·exact .inl e
           ·exact .inr (.inl e)
          ·rcases HNb.out q e with h|h
           ·exact .inr (.inr h)
           ·omega
        case measure=>simp[intOf];omega
       ·have hjm:j=m:=by omega
        subst hjm;rw[show G'.take j=G' from by rw[←HGl.out,List.take_length]]at hlist hrank hnodes;rw[List.drop_drop]at hlist;have HLi:=Hh hlist;have HRk:=Hh hrank;have HNo:=Hh hnodes;have HFr:=Hh hfr;clear hlist hrank hnodes hnb hfr hj2 hj;have hkn:=HK.out;have hkl:=HKl.out;have hq9:=HQn.out;clear HK HKl;go_wp2;go_roundw
        case rel =>
         have hgr:=HGrb.out;have hsz:=HF8.out.size;have hs9:=HFr.out.size;have hrb:=HRbr.out;have hg1:=HG1.out;refine⟨n+j,_,A++G',rfl,by go_num,HNext.out,⟨HLi.out,HRk.out,?_,?_⟩,by omega⟩
         ·have hn:=HNo.out
          rw[List.map_append];have e1:(A.map fun x=>zb7 (A++G') (za4 V x))=A.map fun x=>zb7 A (za4 V x):=List.map_congr_left fun x hx=>zbn (HQo.out.closed HGI.out hx).1 (HQo.out.closed HGI.out hx).2
          have e2:(G'.map fun x=>zb7 (A++G') (za4 V x))=G'.map fun x=>zb7 A (za4 V x):=List.map_congr_left fun x hx=>by
           have hxG:=(HP'.out.mem_iff).1 hx;have hxQ:x∈Q:=by rw[HGd.out]at hxG;exact List.mem_of_mem_drop (List.mem_of_mem_take hxG)
           have hg:=HQo.out.group HGI.out HLt.out hxQ (by rw[HQ0.out];exact HGb.out x hxG);exact zbn hg.1 hg.2
          rw[e1,e2];obtain⟨NVf,hnf,_⟩:=hn;exact⟨NVf,hnf⟩
         ·refine(HOS.out.fr.trans HF8.out (fun _ _ q=>q)).trans HFr.out (fun q hq e=>?_)
          rcases e with e|e|e
          ·omega
          ·omega
          ·have:=(HN0.out.row.lt q e).1
           omega
        case measure=>simp[intOf];have:=HM0.out;omega
  ·have hnl:=HGI.out.le
   have hnq:n=Q.length:=by omega
   subst hnq;clear hlt hnl;go_wp2;go_ret2;have hl:=HOS.out.list;have hal:A.length=Q.length:=by have:=HGI.out.perm.length_eq;simpa using this
   rw[List.drop_length,List.append_nil]at hl;refine⟨_,_,A,_,rfl,HGI.out.order HQo.out.nodup HMem.out,?_,HOS.out.nodes.base (by have:=HGrb.out;omega),HF1.out.trans HOS.out.fr (fun _ _ q=>q)⟩;rw[hal];exact zb2 hl HF1.out.size
end Go.Proofs.YtkofnbjjbcohgaaGreatDoor
