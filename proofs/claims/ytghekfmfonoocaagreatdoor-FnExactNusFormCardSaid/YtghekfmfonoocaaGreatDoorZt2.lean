import Derived.Test.YtghekfmfonoocaaGreatDoorShelfG
import Derived.Test.YtghekfmfonoocaaGreatDoorZt15
import Derived.Test.YtghekfmfonoocaaGreatDoorZtt
/- Lemmas. -/
namespace Go.Proofs.YtghekfmfonoocaaGreatDoor
set_option linter.unusedVariables false
set_option linter.unusedSimpArgs false
open Go.RowKit
def zru (Q:List Nat)(x:Nat):Option Bool:=if x∈Q then some true else none
theorem zni (Q:List Nat)(x:Nat):upd (zru Q) x true=zru (Q ++ [x]):=by
 funext y
 unfold upd zru;by_cases h:y=x
 ·subst h;simp
 ·simp[h]
theorem ybs (a:Option Addr)(n c k b off:Nat)(hk:k<n)(ha:a=some ⟨b,off,none⟩)(w:World) :
  (Instr.indexAt 130 (.slice a n c) (.int .i64 (k:Int))).run Tryz.prog w=.ok (.pointer (some ⟨b,off+k,none⟩)) w:=by
 subst ha;go_simp
theorem zy0 (a b:Option Addr)(n c m d:Nat)(W:World):(Instr.index 165 (.agg #[.slice a n c,.slice b m d]) (.int .i64 0)).run Tryz.prog W=.ok (.slice a n c) W:=by
 simp[Instr.index,asIntOf,run_underlying Tryz.underlying165,part,Tryz.sizeOf82]
theorem zxz (a b:Option Addr)(n c m d:Nat)(W:World):(Instr.index 165 (.agg #[.slice a n c,.slice b m d]) (.int .i64 1)).run Tryz.prog W=.ok (.slice b m d) W:=by
 simp[Instr.index,asIntOf,run_underlying Tryz.underlying165,part,Tryz.sizeOf82]
structure PInv (V:List PL) (R Q:List Nat):Prop where
 nodup:Q.Nodup
 reach:∀x∈Q,ReachV V R x
theorem PInv.add {V:List PL}{R Q:List Nat}{x:Nat}(h:PInv V R Q)(hx:ReachV V R x)(hn:x ∉ Q):PInv V R (Q ++ [x]) :=
 ⟨List.nodup_append.2 ⟨h.nodup,by simp,fun a ha b hb e=>by simp at hb;subst hb;subst e;exact hn ha⟩,fun y hy=>by
  rw[List.mem_append,List.mem_singleton]at hy;rcases hy with hy|rfl
  ·exact h.reach y hy
  ·exact hx⟩
theorem PInv.len {V:List PL}{R Q:List Nat}(h:PInv V R Q)(hR:∀x∈R,x<V.length)(hopt:∀(j:Nat) (y:PL),V[j]?=some y→(∀i∈y.1,i<V.length)/\∀i∈y.2,i<V.length):(∀x∈Q,x<V.length)/\Q.length≤V.length:=by
 have hlt:∀x,ReachV V R x→x<V.length:=fun x hx=>by
  induction hx with
  | root hx=>exact hR _ hx
  | @left x y _ hy ih =>
   rw[List.getD_eq_getElem?_getD,List.getElem?_eq_getElem ih]at hy;exact(hopt x _ (List.getElem?_eq_getElem ih)).1 y hy
  | @right x y _ hy ih =>
   rw[List.getD_eq_getElem?_getD,List.getElem?_eq_getElem ih]at hy;exact(hopt x _ (List.getElem?_eq_getElem ih)).2 y hy
 have h1:∀x∈Q,x<V.length:=fun x hx=>hlt x (h.reach x hx)
 refine⟨h1,?_⟩;have:=h.nodup.length_le_of_subset (l₂:=List.range V.length) (fun x hx=>List.mem_range.2 (h1 x hx));simpa using this
structure Seen (w0 w:World) (v:Value) (Q:List Nat):Prop where
 row:w.ownsRow (w0.heap.size+1) 3 1 v Q.length (Q.map encN)
 seen:MapF encN encB w w0.heap.size (zru Q)
 fr:Fr NoM w0 w
theorem Seen.look {w0 w:World}{v:Value}{Q:List Nat}(h:Seen w0 w v Q)(x:Nat):(Instr.lookup 164 (.map (some w0.heap.size)) (.int .i64 (x:Int)) false).run Tryz.prog w=.ok (.bool (decide (x∈Q))) w:=by
 have:=MapF.look (P:=Tryz.prog) h.seen (KeyAt.nat Tryz.underlying3) Tryz.underlying164 (Tryz.zeroValue4 _) x false;simp only[Bool.false_eq_true,if_false]at this
 rw[show(.int .i64 (x:Int):Value)=encN x from rfl,this];unfold zru;by_cases hx:x∈Q <;> simp[hx,encB]
set_option maxRecDepth 4000 in
set_option maxHeartbeats 8000000 in
theorem zmd {M I:Nat→Prop}(pb:Nat)(V:List PL)(BV R:List Nat)(mo mc ms mn rv:Value)(w:World)(hP:PoolS M I w pb V BV mo mc ms mn)(hR:Nats w rv R)(hRt:∀x∈R,x<V.length)
  (hopt:∀(j:Nat) (y:PL),V[j]?=some y→(∀i∈y.1,i<V.length)/\∀i∈y.2,i<V.length) (hrl:R.length<1000000000) (hn:V.length<1000000000) (hlen:∀y∈V,y.1.length<1000000000/\y.2.length<1000000000) :
  Calls Tryz.prog 106 #[.pointer (some ⟨pb,0,none⟩),rv] w fun e w'=>∃(g cap:Nat) (Q:List Nat),e=.returned (.slice (some ⟨g,0,none⟩) Q.length cap)/\w'.ownsRow w.heap.size 3 1 (.slice (some ⟨g,0,none⟩) Q.length cap) Q.length (Q.map encN)/\Q.Nodup/\(∀x,x∈Q↔ReachV V R x)/\Fr NoM w w':=by
 obtain⟨ra,rc,rfl,hrc,hrcm,hrcell⟩:=id hR;have HP:=Hh hP;have HRc:=Hh hrcell;have HRt:=Hh hRt;have Hopt:=Hh hopt;have Hn:=Hh hn;have HLen:=Hh hlen;have hmm:∀(t:TypeId) (w:World),(Instr.makeMap t none).run Tryz.prog w=.ok (.map (some w.heap.size)) (w.alloc (.map #[] 0)):=fun t w=>run_makeMap t w
 clear hP hR hrcell hRt hopt hlen;go_enter Tryz.func106,Tryz.ntmps106;go_wp2;obtain⟨w1,hw1⟩:∃w1,w1=(w.alloc (.map #[] 0)).alloc (.cells #[] 3):=⟨_,rfl⟩;have hs1:Seen w w1 (.slice (some ⟨w.heap.size+1,0,none⟩) 0 0) []:=by
  refine⟨?_,?_,by rw[hw1];exact((Fr.refl NoM w).alloc _).alloc _⟩
  ·have h:=World.ownsRow_made (base:=w.heap.size+1) (e:=3) (size:=1) (w.alloc (.map #[] 0)) #[] 0 (by simp) (by decide) (by simp)
   simp only[World.size_alloc]at h;rw[hw1];exact h
  ·rw[hw1]
   have h:=(MapF.made encN encB w).fr ((Fr.refl NoM _).alloc (.cells #[] 3)) (fun q=>q);rwa [show zru []=fun _=>none from funext fun x=>by simp[zru]]
 rw[←hw1];have HS1:=Hh hs1;clear hs1 hw1 hmm;go_loopw [6,18] (fun v0 i W=>∃(k:Nat) (v:Value) (Q:List Nat),v=v0/\i=.int .i64 k/\k≤R.length/\Seen w W v Q/\PInv V R Q/\(∃g cap,v=.slice (some ⟨g,0,none⟩) Q.length cap)/\∀x∈R.take k,x∈Q) (fun _ i _=>R.length-(intOf i).toNat)
 case atStart=>exact⟨0,_,[],rfl,rfl,Nat.zero_le _,HS1.out,⟨by simp,by simp⟩,⟨_,_,rfl⟩,by simp⟩
 case round =>
  obtain⟨k,v,Q,rfl,rfl,hk,hS,hI,⟨g,cap,hv⟩,hsub⟩:=hrel;subst hv;by_cases hlt:k<R.length
  ·obtain⟨b1,o1,ha,d1⟩:=HRc.out k R[k] (List.getElem?_eq_getElem _)
   have c1:wr.cell? ⟨b1,o1+k,none⟩=some (.int .i64 (R[k]:Int)):=hS.fr.cell d1 (fun q=>q);have ix:=zaa ra R.length rc k b1 o1 hlt ha;have hlook:=hS.look R[k];have hreach:ReachV V R R[k]:=.root (List.getElem_mem _);have hnext:∀Q':List Nat,(∀x∈Q,x∈Q')→R[k]∈Q'→∀x∈R.take (k+1),x∈Q':=fun Q' h1 h2 x hx=>by
    rw[List.take_succ_eq_append_getElem hlt,List.mem_append,List.mem_singleton]at hx;rcases hx with hx|rfl
    ·exact h1 x (hsub x hx)
    ·exact h2
   have HS:=Hh hS;have HI:=Hh hI;have HRe:=Hh hreach;have HNx:=Hh hnext;clear hS hI hsub hreach hnext ha d1;by_cases hx:R[k]∈Q
   ·rw[decide_eq_true hx]at hlook
    have HX:=Hh hx;clear hx;go_wp2;go_roundw
    case rel=>exact⟨k+1,_,Q,rfl,by go_num,by omega,HS.out,HI.out,⟨_,_,rfl⟩,HNx.out Q (fun _ h=>h) HX.out⟩
    case measure=>simp[intOf];omega
   ·rw[decide_eq_false hx]at hlook
    have HX:=Hh hx;clear hx;obtain⟨hlV,hlQ⟩:=HI.out.len HRt.out Hopt.out;obtain⟨w6,hrun,hmap6,hf6⟩:=MapF.store (P:=Tryz.prog) (w:=wr) HS.out.seen (KeyAt.nat Tryz.underlying3) Tryz.underlying164 R[k] true;have hrun:(Instr.mapUpdate 164 (.map (some w.heap.size)) (.int .i64 (R[k]:Int)) (.bool true)).run Tryz.prog wr=.ok () w6:=hrun;rw[zni]at hmap6;have hr6:=za3 HS.out.row hf6 (fun q hq e=>by have:=(HS.out.row.lt q hq).1;omega);have HMap6:=Hh hmap6;have HF6:=Hh hf6;have HR6:=Hh hr6;have hQ9:Q.length<1000000000:=by omega
    clear hmap6 hf6 hr6 hlV hlQ;go_wp2_with (at_builtin;refine zc1 w6 rfl _ _ 82 rfl (w.heap.size+1) 3 (.int .i64 0) 8 Tryz.underlying82 za9 rfl (.slice (some ⟨g,0,none⟩) Q.length cap) Q.length (Q.map encN) rfl HR6.out (encN R[k]) rfl rfl ?c1 (by decide) ?c2 ?_)
    case c1=>omega
    case c2=>have:=(HR6.out.lt g rfl);omega
    intro v7 w7 h7 f7 _;obtain⟨g7,p7,hv7,_,_⟩:=zbr h7 (Nat.succ_pos _);have hs7:Seen w w7 v7 (Q ++ [R[k]]):=by
     refine⟨by rw[List.length_append,List.map_append];exact h7,HMap6.out.fr f7 (fun e=>by have:=(HR6.out.lt _ e).1;omega),?_⟩;refine(HS.out.fr.trans HF6.out (fun q hq e=>by omega)).trans f7 (fun q hq e=>by have:=(HR6.out.lt q e).1;omega)
    have hv7':v7=.slice (some ⟨g7,0,none⟩) (Q ++ [R[k]]).length p7:=by rw[List.length_append];exact hv7
    have HS7:=Hh hs7;have HV7:=Hh hv7';clear h7 f7 hs7 hv7 hv7' hrun;go_wp2;go_roundw
    case rel=>exact⟨k+1,_,Q ++ [R[k]],rfl,by go_num,by omega,HS7.out,HI.out.add HRe.out HX.out,⟨_,_,HV7.out⟩,HNx.out _ (fun _ h=>List.mem_append_left _ h) (by simp)⟩
    case measure=>simp[intOf];omega
  ·have hk':k=R.length:=by omega
   subst hk';rw[List.take_length]at hsub;have HS:=Hh hS;have HI:=Hh hI;have HSub:=Hh hsub;clear hS hI hsub hk
   -- what is read of the pool
   obtain⟨lv,rv,bv,fb,LS,RS,hA,hI1,hI2,_⟩:=HP.out;obtain⟨la,lc,rfl,hlc,hlcm,hlcell⟩:=SliceOf.of_owns (enc:=encV) (L:=LS) hA.left (List.map_id'' (fun _=>rfl) LS).symm;obtain⟨ua,uc,rfl,huc,hucm,hucell⟩:=SliceOf.of_owns (enc:=encV) (L:=RS) hA.right (List.map_id'' (fun _=>rfl) RS).symm;have hblk:=hA.blk;have hLl:=hA.lenL;have hRl:=hA.lenR;have HC:=Hh (fun(W:World) (f:Fr NoM w W)=>show W.cell? ⟨pb,0,none⟩=some (.slice la LS.length lc)/\W.cell? ⟨pb,1,none⟩=some (.slice ua RS.length uc)from
    ⟨f.cell (by rw[cell_of_row w pb 0 _ _ _ hblk];rfl) (fun q=>q),f.cell (by rw[cell_of_row w pb 1 _ _ _ hblk];rfl) (fun q=>q)⟩)
   have HO:=Hh (fun(W:World) (f:Fr NoM w W) (x:Nat) (hx:x<V.length)=>show ∃ba oa va bb ob vb,la=some ⟨ba,oa,none⟩/\W.cell? ⟨ba,oa+x,none⟩=some va/\Nats W va V[x].1/\ua=some ⟨bb,ob,none⟩/\W.cell? ⟨bb,ob+x,none⟩=some vb/\Nats W vb V[x].2 from by
    obtain⟨ba,oa,e1,c1⟩:=hlcell x LS[x] (List.getElem?_eq_getElem _);obtain⟨bb,ob,e2,c2⟩:=hucell x RS[x] (List.getElem?_eq_getElem _);exact⟨ba,oa,_,bb,ob,_,e1,f.cell c1 (fun q=>q),((hI1 x LS[x] V[x] (List.getElem?_eq_getElem _) (List.getElem?_eq_getElem _)).1).fr0 f,e2,f.cell c2 (fun q=>q),((hI2 x RS[x] V[x] (List.getElem?_eq_getElem _) (List.getElem?_eq_getElem _)).1).fr0 f⟩)
   have HLl:=Hh hLl;have HRl:=Hh hRl;clear hA hI1 hI2 hlcell hucell hblk hLl hRl;go_wp2;go_loopw [6,9] (fun v0 i W=>∃(k:Nat) (v:Value) (Q:List Nat),v=v0/\i=.int .i64 k/\k≤Q.length/\Seen w W v Q/\PInv V R Q/\(∃g cap,v=.slice (some ⟨g,0,none⟩) Q.length cap)/\(∀x∈R,x∈Q)/\∀x∈Q.take k,(∀z∈(V.getD x ([],[])).1,z∈Q)/\∀z∈(V.getD x ([],[])).2,z∈Q) (fun _ i _=>V.length-(intOf i).toNat)
   case atStart=>exact⟨0,_,Q,rfl,rfl,Nat.zero_le _,HS.out,HI.out,⟨_,_,rfl⟩,HSub.out,by simp⟩
   case round =>
    obtain⟨k,v,Q,rfl,rfl,hk,hS,hI,⟨g,cap,hv⟩,hsub,hdone⟩:=hrel;subst hv;obtain⟨hQV,hQl⟩:=hI.len HRt.out Hopt.out;by_cases hlt:k<Q.length
    ·obtain⟨q,hq⟩:∃q,q=Q[k]:=⟨_,rfl⟩
     have hqV:q<V.length:=by rw[hq];exact hQV _ (List.getElem_mem _)
     obtain⟨hc0,hc1⟩:=HC.out _ hS.fr;obtain⟨ba,oa,va,bb,ob,vb,e1,c1,n1,e2,c2,n2⟩:=HO.out w (Fr.refl _ _) q hqV;have c1:=hS.fr.cell c1 (fun q=>q);have c2:=hS.fr.cell c2 (fun q=>q);have ixq:=zdm g Q.length cap k hlt;have ixl:=ybs la LS.length lc q ba oa (by rw[HLl.out];exact hqV) e1;have ixr:=ybs ua RS.length uc q bb ob (by rw[HRl.out];exact hqV) e2;have cq:wr.cell? ⟨g,k,none⟩=some (.int .i64 (q:Int)):=by
      obtain⟨a',c',e,_,_,h⟩:=SliceOf.of_owns (L:=Q) hS.row rfl;obtain⟨b,off,e2,hc⟩:=h k Q[k] (List.getElem?_eq_getElem _);subst e2;cases e;rw[hq];simpa [encN] using hc
     have hgd:V[q]=V.getD q ([],[]):=by rw[List.getD_eq_getElem?_getD,List.getElem?_eq_getElem hqV];rfl
     rw[hgd]at n1 n2;obtain⟨L1,hL1⟩:∃L,L=(V.getD q ([],[])).1:=⟨_,rfl⟩;obtain⟨L2,hL2⟩:∃L,L=(V.getD q ([],[])).2:=⟨_,rfl⟩;rw[←hL1]at n1;rw[←hL2]at n2;obtain⟨a1,c3,rfl,h11,h12,h13⟩:=id n1;obtain⟨a2,c4,rfl,h21,h22,h23⟩:=id n2;have HS:=Hh hS;have HI:=Hh hI;have HSub:=Hh hsub;have HDone:=Hh hdone;have HQV:=Hh hQV;have HQl:=Hh hQl;have HQ:=Hh hq;have HQq:=Hh hqV;have HN1:=Hh n1;have HN2:=Hh n2;have HEL1:=Hh hL1;have HEL2:=Hh hL2;have HGd:=Hh hgd;clear hgd hL1 hL2 hS hI hsub hdone hQV hq e1 e2 n1 n2 h13 h23;go_wp2;go_quiet (fail);obtain⟨w13,hw13⟩:∃w13,w13=wr.drewN nq:=⟨_,rfl⟩;have hf13:Fr NoM wr w13:=by rw[hw13];exact⟨rfl,rfl,rfl,Nat.le_refl _,fun _ _ _=>rfl⟩
     rw[←hw13];have HF13:=Hh hf13;clear hf13 hw13 c1 c2 cq hc0 hc1 ixq ixl ixr;go_wp2_with fail;go_loopw [6,60] (fun v0 i W=>∃(m:Nat) (v:Value) (Q1:List Nat),v=v0/\i=.int .i64 m/\m≤2/\Seen w W v Q1/\PInv V R Q1/\(∃g cap,v=.slice (some ⟨g,0,none⟩) Q1.length cap)/\Q <+: Q1/\(1≤m→∀z∈L1,z∈Q1)/\(2≤m→∀z∈L2,z∈Q1)) (fun _ i _=>2-(intOf i).toNat)
     case atStart =>
      have hS:=HS.out;exact⟨0,_,Q,rfl,rfl,by omega,⟨za3 hS.row HF13.out (fun _ _ q=>q),hS.seen.fr HF13.out (fun q=>q),hS.fr.trans HF13.out (fun _ _ q=>q)⟩,HI.out,⟨_,_,rfl⟩,List.prefix_refl _,fun h=>by omega,fun h=>by omega⟩
     case round =>
      obtain⟨m,v,Q1,rfl,rfl,hm,hS1,hI1,⟨g1,cap1,hv⟩,hpre,hL1,hL2⟩:=hrel;subst hv;have HS1:=Hh hS1;have HI1:=Hh hI1;have HPre:=Hh hpre;have HL1:=Hh hL1;have HL2:=Hh hL2;clear hS1 hI1 hpre hL1 hL2;by_cases hm2:m<2
      ·obtain⟨oa,oc,OL,hix,hOL,hNL⟩:∃(oa:Option Addr) (oc:Nat) (OL:List Nat),(∀W,(Instr.index 165 (.agg #[.slice a1 L1.length c3,.slice a2 L2.length c4]) (.int .i64 (m:Int))).run Tryz.prog W=.ok (.slice oa OL.length oc) W)/\OL=(if m=0 then L1 else L2)/\Nats w (.slice oa OL.length oc) OL:=by
        have hm':m=0∨m=1:=by omega
        rcases hm' with rfl|rfl
        ·exact⟨a1,c3,L1,fun W=>zy0 _ _ _ _ _ _ W,rfl,HN1.out⟩
        ·exact⟨a2,c4,L2,fun W=>zxz _ _ _ _ _ _ W,rfl,HN2.out⟩
       have hqr:ReachV V R q:=by rw[HQ.out];exact HI.out.reach _ (List.getElem_mem _)
       have hor:∀z∈OL,ReachV V R z:=fun z hz=>by
        rw[hOL]at hz;split at hz
        ·exact .left hqr (by rw[←HEL1.out];exact hz)
        ·exact .right hqr (by rw[←HEL2.out];exact hz)
       have holen:OL.length<1000000000:=by
        have:=HLen.out _ (List.getElem_mem hqV);rw[HGd.out]at this
        rw[hOL,HEL1.out,HEL2.out];split <;> omega
       obtain⟨na,nc,e,_,_,hNc⟩:=hNL;cases e
       have HOL:=Hh hOL;have HOr:=Hh hor;have HNc:=Hh hNc;clear hOL hor hNc hqr;go_wp2;rw[show decide ((m:Int)<2)=true from by simp;omega];have HM2:=Hh hm2;clear hm2;go_loopw [6,65] (fun v0 i W=>∃(j:Nat) (v:Value) (Q2:List Nat),v=v0/\i=.int .i64 j/\j≤OL.length/\Seen w W v Q2/\PInv V R Q2/\(∃g cap,v=.slice (some ⟨g,0,none⟩) Q2.length cap)/\Q1 <+: Q2/\∀z∈OL.take j,z∈Q2) (fun _ i _=>OL.length-(intOf i).toNat)
       case atStart=>exact⟨0,_,Q1,rfl,rfl,Nat.zero_le _,HS1.out,HI1.out,⟨_,_,rfl⟩,List.prefix_refl _,by simp⟩
       case round =>
        obtain⟨j,v,Q2,rfl,rfl,hj,hS2,hI2,⟨g2,cap2,hv⟩,hpre2,hsub2⟩:=hrel;subst hv;by_cases hlt2:j<OL.length
        ·obtain⟨b3,o3,ha3,d3⟩:=HNc.out j OL[j] (List.getElem?_eq_getElem _)
         have c3':wr.cell? ⟨b3,o3+j,none⟩=some (.int .i64 (OL[j]:Int)):=hS2.fr.cell d3 (fun q=>q);have ix:=zaa oa OL.length oc j b3 o3 hlt2 ha3;have hlook:=hS2.look OL[j];have hreach:ReachV V R OL[j]:=HOr.out _ (List.getElem_mem _);have hnext:∀Q':List Nat,(∀x∈Q2,x∈Q')→OL[j]∈Q'→∀x∈OL.take (j+1),x∈Q':=fun Q' h1 h2 x hx=>by
          rw[List.take_succ_eq_append_getElem hlt2,List.mem_append,List.mem_singleton]at hx;rcases hx with hx|rfl
          ·exact h1 x (hsub2 x hx)
          ·exact h2
         have HS2:=Hh hS2;have HI2:=Hh hI2;have HRe:=Hh hreach;have HNx:=Hh hnext;have HPre2:=Hh hpre2;clear hS2 hI2 hsub2 hreach hnext ha3 d3 hpre2;by_cases hx:OL[j]∈Q2
         ·rw[decide_eq_true hx]at hlook
          have HX:=Hh hx;clear hx;go_wp2;go_roundw
          case rel=>exact⟨j+1,_,Q2,rfl,by go_num,by omega,HS2.out,HI2.out,⟨_,_,rfl⟩,HPre2.out,HNx.out Q2 (fun _ h=>h) HX.out⟩
          case measure=>simp[intOf];omega
         ·rw[decide_eq_false hx]at hlook
          have HX:=Hh hx;clear hx;obtain⟨hlV,hlQ⟩:=HI2.out.len HRt.out Hopt.out;obtain⟨w6,hrun,hmap6,hf6⟩:=MapF.store (P:=Tryz.prog) (w:=wr) HS2.out.seen (KeyAt.nat Tryz.underlying3) Tryz.underlying164 OL[j] true;have hrun:(Instr.mapUpdate 164 (.map (some w.heap.size)) (.int .i64 (OL[j]:Int)) (.bool true)).run Tryz.prog wr=.ok () w6:=hrun;rw[zni]at hmap6;have hr6:=za3 HS2.out.row hf6 (fun q hq e=>by have:=(HS2.out.row.lt q hq).1;omega);have HMap6:=Hh hmap6;have HF6:=Hh hf6;have HR6:=Hh hr6;have hQ9:Q2.length<1000000000:=by omega
          clear hmap6 hf6 hr6 hlV hlQ;go_wp2_with (at_builtin;refine zc1 w6 rfl _ _ 82 rfl (w.heap.size+1) 3 (.int .i64 0) 8 Tryz.underlying82 za9 rfl (.slice (some ⟨g2,0,none⟩) Q2.length cap2) Q2.length (Q2.map encN) rfl HR6.out (encN OL[j]) rfl rfl ?c1 (by decide) ?c2 ?_)
          case c1=>omega
          case c2=>have:=(HR6.out.lt g2 rfl);omega
          intro v7 w7 h7 f7 _;obtain⟨g7,p7,hv7,_,_⟩:=zbr h7 (Nat.succ_pos _);have hs7:Seen w w7 v7 (Q2 ++ [OL[j]]):=by
           refine⟨by rw[List.length_append,List.map_append];exact h7,HMap6.out.fr f7 (fun e=>by have:=(HR6.out.lt _ e).1;omega),?_⟩;refine(HS2.out.fr.trans HF6.out (fun q hq e=>by omega)).trans f7 (fun q hq e=>by have:=(HR6.out.lt q e).1;omega)
          have hv7':v7=.slice (some ⟨g7,0,none⟩) (Q2 ++ [OL[j]]).length p7:=by rw[List.length_append];exact hv7
          have HS7:=Hh hs7;have HV7:=Hh hv7';clear h7 f7 hs7 hv7 hv7' hrun;go_wp2;go_roundw
          case rel=>exact⟨j+1,_,Q2 ++ [OL[j]],rfl,by go_num,by omega,HS7.out,HI2.out.add HRe.out HX.out,⟨_,_,HV7.out⟩,HPre2.out.trans (List.prefix_append _ _),HNx.out _ (fun _ h=>List.mem_append_left _ h) (by simp)⟩
          case measure=>simp[intOf];omega
        ·have hj':j=OL.length:=by omega
         subst hj';rw[List.take_length]at hsub2;have HS2:=Hh hS2;have HI2:=Hh hI2;have HSub2:=Hh hsub2;have HPre2:=Hh hpre2;clear hS2 hI2 hsub2 hpre2;go_wp2;go_roundw
         case rel =>
          have hm2:=HM2.out;have hmono:∀z,z∈Q1→z∈Q2:=fun z hz=>HPre2.out.subset hz
          refine⟨m+1,_,Q2,rfl,by go_num,by omega,HS2.out,HI2.out,⟨_,_,rfl⟩,HPre.out.trans HPre2.out,fun _ z hz=>?_,fun h z hz=>?_⟩
          ·by_cases hm0:m=0
           ·exact HSub2.out z (by rw[HOL.out,if_pos hm0];exact hz)
           ·exact hmono z (HL1.out (by omega) z hz)
          ·exact HSub2.out z (by rw[HOL.out,if_neg (by omega)];exact hz)
         case measure=>have hm2:=HM2.out;simp[intOf];omega
      ·have hm2':m=2:=by omega
       subst hm2';go_wp2;go_roundw
       case rel =>
        have hpre:=HPre.out;refine⟨k+1,_,Q1,rfl,by go_num,by have:=hpre.length_le;omega,HS1.out,HI1.out,⟨_,_,rfl⟩,fun x hx=>hpre.subset (HSub.out x hx),fun x hx=>?_⟩;have htk:Q1.take (k+1)=Q.take k ++ [q]:=by
         obtain⟨t,rfl⟩:=hpre;rw[List.take_append_of_le_length (by omega),List.take_succ_eq_append_getElem hlt,HQ.out]
        rw[htk,List.mem_append,List.mem_singleton]at hx;rcases hx with hx|rfl
        ·obtain⟨h1,h2⟩:=HDone.out x hx
         exact⟨fun z hz=>hpre.subset (h1 z hz),fun z hz=>hpre.subset (h2 z hz)⟩
        ·exact⟨by rw[←HEL1.out];exact HL1.out (by omega),by rw[←HEL2.out];exact HL2.out (by omega)⟩
       case measure=>simp[intOf];omega
    ·have hk':k=Q.length:=by omega
     subst hk';rw[List.take_length]at hdone;have HS:=Hh hS;have HI:=Hh hI;have HSub:=Hh hsub;have HDone:=Hh hdone;have HQV:=Hh hQV;clear hS hI hsub hdone hQV hk;go_wp2;go_ret;refine⟨g,cap,Q,rfl,zb3 HS.out.row (Nat.le_succ _),HI.out.nodup,fun x=>⟨HI.out.reach x,fun hx=>?_⟩,HS.out.fr⟩;induction hx with
     | root h=>exact HSub.out _ h
     | @left a b _ hb ih=>exact(HDone.out a ih).1 b hb
     | @right a b _ hb ih=>exact(HDone.out a ih).2 b hb
theorem zi5 (x y:Int)(w:World):Calls Tryz.prog 85 #[.int .i64 x,.int .i64 y] w fun e w'=>e=.returned (.int .i64 (Lib.compareInt x y))/\w'=w:=Any.cmp_Compare_int Tryz.layCmp x y w
set_option maxRecDepth 4000 in
set_option maxHeartbeats 4000000 in
theorem zgr (av bv:Value)(A B:List Nat)(w:World)(hA:Nats w av A)(hB:Nats w bv B):Calls Tryz.prog 86 #[av,bv] w fun e w'=>e=.returned (.int .i64 (cmpL A B))/\w'=w:=by
 obtain⟨aa,ac,rfl,hac,hacm,hA⟩:=hA;obtain⟨ba,bc,rfl,hbc,hbcm,hB⟩:=hB;have HA:=Hh hA;have HB:=Hh hB;clear hA hB;go_enter Tryz.func86,Tryz.ntmps86;go_wp2;go_loopw [11] (fun i W=>∃k:Nat,i=.int .i64 k/\k≤A.length/\k≤B.length/\cmpL A B=cmpL (A.drop k) (B.drop k)/\W=w) (fun i _=>A.length-(intOf i).toNat)
 case atStart=>exact⟨0,rfl,Nat.zero_le _,Nat.zero_le _,rfl,rfl⟩
 case round =>
  obtain⟨k,rfl,hk,hkb,hc,hw⟩:=hrel;have HC:=Hh hc;have HW:=Hh hw;clear hc;by_cases hlt:k<A.length
  ·obtain⟨b1,o1,ha1,c1⟩:=HA.out k A[k] (List.getElem?_eq_getElem _)
   have ix1:=zaa aa A.length ac k b1 o1 hlt ha1;have c1:wr.cell? ⟨b1,o1+k,none⟩=some (.int .i64 (A[k]:Int)):=by rw[hw];exact c1
   by_cases hltb:k<B.length
   ·obtain⟨b2,o2,ha2,c2⟩:=HB.out k B[k] (List.getElem?_eq_getElem _)
    have ix2:=zaa ba B.length bc k b2 o2 hltb ha2;have c2:wr.cell? ⟨b2,o2+k,none⟩=some (.int .i64 (B[k]:Int)):=by rw[hw];exact c2
    have hd:cmpL A B=if A[k]=B[k]then cmpL (A.drop (k+1)) (B.drop (k+1))else if A[k]<B[k]then -1 else 1:=by
     rw[HC.out,List.drop_eq_getElem_cons hlt,List.drop_eq_getElem_cons hltb];rfl
    clear ha1 ha2 hw;by_cases he:A[k]=B[k]
    ·have hcmp:Lib.compareInt (A[k]:Int) (B[k]:Int)=0:=by unfold Lib.compareInt;rw[if_neg (by omega),if_neg (by omega)]
     rw[if_pos he]at hd;have HD:=Hh hd;have HE:=Hh he;clear hd he;have hcall:=zi5 (A[k]:Int) (B[k]:Int) wr;rw[hcmp]at hcall;go_wp2_with fail;refine hcall.mono ?_
     rintro e w' ⟨rfl,rfl⟩;clear hcall hcmp;go_wp2;go_roundw
     case rel=>exact⟨k+1,by go_num,by omega,by omega,HD.out,HW.out⟩
     case measure=>simp[intOf];omega
    ·rw[if_neg he]at hd
     have hcall:=zi5 (A[k]:Int) (B[k]:Int) wr;by_cases hl:A[k]<B[k]
     ·have hcmp:Lib.compareInt (A[k]:Int) (B[k]:Int)=-1:=by unfold Lib.compareInt;rw[if_pos (by omega)]
      rw[if_pos hl]at hd;rw[hcmp]at hcall;have HD:=Hh hd;clear hd he hl hcmp;go_wp2_with fail;refine hcall.mono ?_
      rintro e w' ⟨rfl,rfl⟩;clear hcall;go_wp2;go_ret;exact⟨by rw[HD.out];rfl,HW.out⟩
     ·have hcmp:Lib.compareInt (A[k]:Int) (B[k]:Int)=1:=by unfold Lib.compareInt;rw[if_neg (by omega),if_pos (by omega)]
      rw[if_neg hl]at hd;rw[hcmp]at hcall;have HD:=Hh hd;clear hd he hl hcmp;go_wp2_with fail;refine hcall.mono ?_
      rintro e w' ⟨rfl,rfl⟩;clear hcall;go_wp2;go_ret;exact⟨by rw[HD.out];rfl,HW.out⟩
   ·have hd:cmpL A B=1:=by
     rw[HC.out,List.drop_eq_getElem_cons hlt,show B.drop k=[]from List.drop_eq_nil_of_le (by omega)];rfl
    have HD:=Hh hd;clear hd ha1 hw;go_wp2;go_ret;exact⟨by rw[HD.out];rfl,HW.out⟩
  ·have hk':k=A.length:=by omega
   subst hk';have hd:=HC.out;rw[List.drop_length]at hd;clear hw;by_cases hltb:A.length<B.length
   ·rw[List.drop_eq_getElem_cons hltb]at hd
    have HD:=Hh hd;clear hd;go_wp2;go_ret;exact⟨by rw[HD.out];rfl,HW.out⟩
   ·rw[List.drop_eq_nil_of_le (by omega)]at hd
    have HD:=Hh hd;clear hd;go_wp2;go_ret;exact⟨by rw[HD.out];rfl,HW.out⟩
def orI (x y:Int):Int:=if x=0 then y else x
set_option maxHeartbeats 4000000 in
theorem yer (x y:Int)(b:Nat)(w:World)(h0:w.cell? ⟨b,0,none⟩=some (.int .i64 x))(h1:w.cell? ⟨b,1,none⟩=some (.int .i64 y)) :
  Calls Tryz.prog 84 #[.slice (some ⟨b,0,none⟩) 2 2] w fun e w'=>e=.returned (.int .i64 (orI x y))/\w'=w:=by
 have H0:=Hh h0;have H1:=Hh h1;clear h0 h1;go_enter Tryz.func84,Tryz.ntmps84;go_wp2;go_loopw [8] (fun i W=>∃k:Nat,i=.int .i64 k/\k≤2/\(1≤k→x=0)/\(2≤k→y=0)/\W=w) (fun i _=>2-(intOf i).toNat)
 case atStart=>exact⟨0,rfl,by omega,fun h=>by omega,fun h=>by omega,rfl⟩
 case round =>
  obtain⟨k,rfl,hk,hx,hy,hw⟩:=hrel;have HX:=Hh hx;have HY:=Hh hy;have HW:=Hh hw;clear hx hy;have hk3:k=0∨k=1∨k=2:=by omega
  rcases hk3 with rfl|rfl|rfl
  ·have c0:wr.cell? ⟨b,0,none⟩=some (.int .i64 x):=by rw[hw];exact H0.out
   clear hw hk;by_cases he:x=0
   ·have hb:(x == 0)=true:=by simpa using he
    have HE:=Hh he;clear he;go_wp2;go_roundw
    case rel=>exact⟨1,rfl,by omega,fun _=>HE.out,fun h=>by omega,HW.out⟩
    case measure=>simp[intOf]
   ·have hb:(x == 0)=false:=by simpa using he
    have HE:=Hh he;clear he;go_wp2;go_ret;exact⟨by rw[show orI x y=x from if_neg HE.out];rfl,HW.out⟩
  ·have c1:wr.cell? ⟨b,1,none⟩=some (.int .i64 y):=by rw[hw];exact H1.out
   clear hw hk;by_cases he:y=0
   ·have hb:(y == 0)=true:=by simpa using he
    have HE:=Hh he;clear he;go_wp2;go_roundw
    case rel=>exact⟨2,rfl,by omega,fun _=>HX.out (by omega),fun _=>HE.out,HW.out⟩
    case measure=>simp[intOf]
   ·have hb:(y == 0)=false:=by simpa using he
    have HE:=Hh he;clear he;go_wp2;go_ret;exact⟨by rw[show orI x y=y from if_pos (HX.out (by omega))];rfl,HW.out⟩
  ·clear hw hk
   go_wp2;go_ret;exact⟨by rw[show orI x y=0 from(if_pos (HX.out (by omega))).trans (HY.out (by omega))];rfl,HW.out⟩
set_option maxHeartbeats 4000000 in
theorem yb4 (B pb a b:Nat)(BV:List Nat)(bv:Value)(W:World)(h0:W.cell? ⟨B,0,none⟩=some (.pointer (some ⟨pb,0,none⟩)))(h1:W.cell? ⟨pb,2,none⟩=some bv)(hbv:Nats W bv BV)(ha:a<BV.length)(hb:b<BV.length) :
  Calls Tryz.prog 148 #[.int .i64 (a:Int),.int .i64 (b:Int),.pointer (some ⟨B,0,none⟩)] W fun e w'=>e=.returned (.int .i64 (Lib.compareInt (BV[a]:Int) (BV[b]:Int)))/\∃q,w'=W.drewN q:=by
 obtain⟨va,vc,rfl,hc,hcm,hcell⟩:=hbv;obtain⟨b1,o1,e1,c1⟩:=hcell a BV[a] (List.getElem?_eq_getElem _);obtain⟨b2,o2,e2,c2⟩:=hcell b BV[b] (List.getElem?_eq_getElem _);have ix1:=zaa va BV.length vc a b1 o1 ha e1;have ix2:=zaa va BV.length vc b b2 o2 hb e2;have c1:W.cell? ⟨b1,o1+a,none⟩=some (.int .i64 (BV[a]:Int)):=c1;have c2:W.cell? ⟨b2,o2+b,none⟩=some (.int .i64 (BV[b]:Int)):=c2;obtain⟨r,hr⟩:∃r,r=Lib.compareInt (BV[a]:Int) (BV[b]:Int):=⟨_,rfl⟩;have hcall:∀n,Calls Tryz.prog 85 #[encN BV[a],encN BV[b]] (W.drewN n) fun e w'=>e=.returned (.int .i64 r)/\∃q,w'=(W.drewN n).drewN q:=fun n=>by rw[hr];exact(zi5 _ _ _).mono fun _ _ h=>⟨h.1,0,h.2⟩
 have HCall:=Hh hcall;rw[←hr];clear hcell e1 e2 hcall hr;go_enter Tryz.func148,Tryz.ntmps148;go_wp2;go_quiet ((go_at_call 85;with_reducible exact Calls.quiet_of (HCall.out _)));go_wp2;go_ret;exact⟨rfl,_,rfl⟩
def Gr (w w':World):Prop:=∃(q:Nat) (os:Array Obj),w'=Go.Sort.grow (w.drewN q) os
theorem Gr.refl (w:World):Gr w w:=⟨0,#[],by simp[World.drewN]⟩
theorem Gr.drew {w w':World}(h:Gr w w'):Gr w w'.drew:=by
 obtain⟨q,os,rfl⟩:=h;exact⟨q+1,os,by rw[Go.Sort.drew_grow];congr 1⟩
theorem Gr.alloc {w w':World}(h:Gr w w')(o:Obj):Gr w (w'.alloc o):=by
 obtain⟨q,os,rfl⟩:=h;exact⟨q,os ++ #[o],by rw[Go.Sort.alloc_eq_grow,Go.Sort.grow_grow]⟩
theorem zp6 (w:World)(a b:Value)(e:TypeId):(w.alloc (.cells #[a,b] e)).cell? ⟨w.heap.size,0,none⟩=some a/\(w.alloc (.cells #[a,b] e)).cell? ⟨w.heap.size,1,none⟩=some b:=by
 have h:=heap_alloc_new w (.cells #[a,b] e);exact⟨by rw[cell_of_row _ _ 0 _ _ _ h];rfl,by rw[cell_of_row _ _ 1 _ _ _ h];rfl⟩
theorem zm3 (w:World)(a b c:Value)(e:TypeId):(w.alloc (.cells #[a,b,c] e)).cell? ⟨w.heap.size,1,none⟩=some b/\(w.alloc (.cells #[a,b,c] e)).cell? ⟨w.heap.size,2,none⟩=some c:=by
 have h:=heap_alloc_new w (.cells #[a,b,c] e);exact⟨by rw[cell_of_row _ _ 1 _ _ _ h];rfl,by rw[cell_of_row _ _ 2 _ _ _ h];rfl⟩
set_option maxRecDepth 4000 in
set_option maxHeartbeats 4000000 in
theorem yb3 (i j:Nat)(l1 r1 l2 r2:Value)(L1 R1 L2 R2:List Nat)(W:World)(h1:Nats W l1 L1)(h2:Nats W r1 R1)(h3:Nats W l2 L2)(h4:Nats W r2 R2) :
  Calls Tryz.prog 151 #[.agg #[encN i,l1,r1],.agg #[encN j,l2,r2]] W fun e w'=>e=.returned (.int .i64 (orI (cmpL L1 L2) (cmpL R1 R2)))/\Gr W w':=by
 have H1:=Hh (fun(w:World) (f:Fr NoM W w)=>h1.fr0 f);have H2:=Hh (fun(w:World) (f:Fr NoM W w)=>h2.fr0 f);have H3:=Hh (fun(w:World) (f:Fr NoM W w)=>h3.fr0 f);have H4:=Hh (fun(w:World) (f:Fr NoM W w)=>h4.fr0 f);obtain⟨la,lc,rfl,z1⟩:=h1;obtain⟨ra,rc,rfl,z2⟩:=h2;obtain⟨ua,uc,rfl,z3⟩:=h3;obtain⟨va,vc,rfl,z4⟩:=h4;obtain⟨c1,hc1⟩:∃c,c=cmpL L1 L2:=⟨_,rfl⟩;obtain⟨c2,hc2⟩:∃c,c=cmpL R1 R2:=⟨_,rfl⟩;rw[←hc1,←hc2];have HC1:=Hh hc1;have HC2:=Hh hc2;clear hc1 hc2 z1 z2 z3 z4;go_enter Tryz.func151,Tryz.ntmps151;go_wp2;obtain⟨w2,hw2⟩:∃w2,w2=((W.alloc (.cells #[encN i,.slice la L1.length lc,.slice ra R1.length rc] 170)).alloc (.cells #[encN j,.slice ua L2.length uc,.slice va R2.length vc] 170)):=⟨_,rfl⟩;have hg:Gr W w2:=by rw[hw2];exact((Gr.refl W).alloc _).alloc _
 have hf:Fr NoM W w2:=by rw[hw2];exact((Fr.refl NoM W).alloc _).alloc _
 have hcell:w2.cell? ⟨W.heap.size,1,none⟩=some (.slice la L1.length lc)/\w2.cell? ⟨W.heap.size,2,none⟩=some (.slice ra R1.length rc)/\w2.cell? ⟨W.heap.size+1,1,none⟩=some (.slice ua L2.length uc)/\w2.cell? ⟨W.heap.size+1,2,none⟩=some (.slice va R2.length vc):=by
  have k1:=zm3 W (encN i) (.slice la L1.length lc) (.slice ra R1.length rc) 170;have k2:=zm3 (W.alloc (.cells #[encN i,.slice la L1.length lc,.slice ra R1.length rc] 170)) (encN j) (.slice ua L2.length uc) (.slice va R2.length vc) 170;rw[World.size_alloc]at k2;rw[hw2];have hf:=(Fr.refl NoM (W.alloc (.cells #[encN i,.slice la L1.length lc,.slice ra R1.length rc] 170))).alloc (.cells #[encN j,.slice ua L2.length uc,.slice va R2.length vc] 170);exact⟨hf.cell k1.1 (fun q=>q),hf.cell k1.2 (fun q=>q),k2.1,k2.2⟩
 rw[←hw2];have HS:=Hh (fun(w:World) (f:Fr NoM w2 w)=>show w.cell? ⟨W.heap.size,1,none⟩=some (.slice la L1.length lc)/\w.cell? ⟨W.heap.size,2,none⟩=some (.slice ra R1.length rc)/\w.cell? ⟨W.heap.size+1,1,none⟩=some (.slice ua L2.length uc)/\w.cell? ⟨W.heap.size+1,2,none⟩=some (.slice va R2.length vc)from
  ⟨f.cell hcell.1 (fun q=>q),f.cell hcell.2.1 (fun q=>q),f.cell hcell.2.2.1 (fun q=>q),f.cell hcell.2.2.2 (fun q=>q)⟩)
 have H1:=Hh (fun w (f:Fr NoM w2 w)=>H1.out w (hf.trans f (fun _ _ q=>q)));have H2:=Hh (fun w (f:Fr NoM w2 w)=>H2.out w (hf.trans f (fun _ _ q=>q)));have H3:=Hh (fun w (f:Fr NoM w2 w)=>H3.out w (hf.trans f (fun _ _ q=>q)));have H4:=Hh (fun w (f:Fr NoM w2 w)=>H4.out w (hf.trans f (fun _ _ q=>q)));clear hf hcell hw2;have HG:=Hh hg;clear hg;have F0:Fr NoM w2 w2.drew:=(Fr.refl NoM w2).drew;go_region_held3 (fun(w:World)=>w.cell? ⟨W.heap.size,1,none⟩=some (.slice la L1.length lc)/\w.cell? ⟨W.heap.size,2,none⟩=some (.slice ra R1.length rc)/\w.cell? ⟨W.heap.size+1,1,none⟩=some (.slice ua L2.length uc)/\w.cell? ⟨W.heap.size+1,2,none⟩=some (.slice va R2.length vc))
  (first|exact HS.out _ (by assumption)|exact HS.out _ (Fr.alloc (by assumption) _))
  (first
   | (go_at_call 86;(with_reducible refine(zgr (.slice la L1.length lc) (.slice ua L2.length uc) L1 L2 _ (H1.out _ (by assumption)) (H3.out _ (by assumption))).mono ?_);rw[←HC1.out];rintro e w5 ⟨rfl,rfl⟩)
   | (go_at_call 86;(with_reducible refine(zgr (.slice ra R1.length rc) (.slice va R2.length vc) R1 R2 _ (H2.out _ (by assumption)) (H4.out _ (by assumption))).mono ?_);rw[←HC2.out];rintro e w6 ⟨rfl,rfl⟩)
   | (go_at_call 84;(refine(yer c1 c2 w2.heap.size _ (zp6 w2.drew _ _ _).1 (zp6 w2.drew _ _ _).2).mono ?_);rintro e w7 ⟨rfl,rfl⟩)
   | fail)
 all_goals
  go_wp2;go_ret;exact⟨rfl,((HG.out.drew).alloc _)⟩
end Go.Proofs.YtghekfmfonoocaaGreatDoor
namespace Go.Proofs.YtghekfmfonoocaaGreatDoor
set_option linter.unusedVariables false
set_option linter.unusedSimpArgs false
open Go.RowKit Go.Sort
def ecmp (x y:PL):Int:=orI (cmpL x.1 y.1) (cmpL x.2 y.2)
theorem zzv (x y:PL):decide (ecmp x y<0)=zan x y:=by
 unfold ecmp orI zan;split <;> rfl
theorem zxn {α:Type}[Inhabited α](f:α→PL):SWO (ltOf fun x y:α=>ecmp (f x) (f y)):=by
 have e:∀x y:α,ltOf (fun x y:α=>ecmp (f x) (f y)) x y=zan (f x) (f y):=fun x y=>zzv _ _
 have asy:∀a b:PL,zan a b=true→zan b a=false:=fun a b=>zeq
 refine⟨fun x=>?_,fun x y z h1 h2=>?_,fun x y z h1 h2=>?_⟩
 ·rw[e]
  cases h:zan (f x) (f x)with
  | false=>rfl
  | true=>have:=zeq h;rw[h]at this;cases this
 ·rw[e]at h1 h2 ⊢;exact zep h1 h2
 ·rw[e]at h1 h2 ⊢
  cases h:zan (f x) (f z)with
  | false=>rfl
  | true =>
   exfalso
   cases q:zan (f y) (f x)with
   | true=>rw[zep q h]at h2;cases h2
   | false=>rw[zis h1 q]at h;rw[h]at h2;cases h2
theorem yam {α:Type}[Inhabited α](f:α→Nat):SWO (ltOf fun x y:α=>Lib.compareInt (f x:Int) (f y:Int)):=by
 have e:∀x y:α,ltOf (fun x y:α=>Lib.compareInt (f x:Int) (f y:Int)) x y=decide (f x<f y):=fun x y=>by
  unfold ltOf;apply decide_eq_decide.2
  show Lib.compareInt (f x:Int) (f y:Int)<0↔f x<f y
  unfold Lib.compareInt;constructor
  ·intro h
   split at h
   ·omega
   ·split at h <;> omega
  ·intro h
   rw[if_pos (by omega)];omega
 refine⟨fun x=>?_,fun x y z h1 h2=>?_,fun x y z h1 h2=>?_⟩
 ·rw[e];simp
 ·rw[e]at h1 h2 ⊢;simp at h1 h2 ⊢;omega
 ·rw[e]at h1 h2 ⊢;simp at h1 h2 ⊢;omega
theorem zgv {α:Type}[Inhabited α]{d d':Array α}(h:PermIn 0 d.size d d'):d'.toList.Perm d.toList:=by
 obtain⟨hs,_,hp⟩:=h;have e1:d.extract 0 d.size=d:=by simp
 have e2:d'.extract 0 d.size=d':=by rw[←hs];simp
 rwa [e1,e2]at hp
theorem zdr {α:Type}[Inhabited α]{lt:α→α→Bool}{d:Array α}(h:SortedIn lt 0 d.size d):d.toList.Pairwise fun a b=>lt b a=false:=by
 refine List.pairwise_iff_getElem.2 fun i j hi hj hij=>?_
 have:=h i j (Nat.zero_le _) hij (by simpa using hj);rw[getElem!_pos d i (by simpa using hi),getElem!_pos d j (by simpa using hj)]at this
 simpa using this
theorem zpb {n:Nat}(Q:List Nat)(hQ:∀x∈Q,x<n):∃D:List {x:Nat // x<n},D.map Subtype.val=Q:=by
 induction Q with
 | nil=>exact⟨[],rfl⟩
 | cons y l ih =>
  obtain⟨D,hD⟩:=ih fun x hx=>hQ x (List.mem_cons_of_mem _ hx)
  exact⟨⟨y,hQ y (List.mem_cons_self ..)⟩::D,by simp[hD]⟩
set_option maxHeartbeats 1000000 in
theorem zxv {base g cap B pb:Nat}(Q BV:List Nat)(bv:Value)(w:World)(h:w.ownsRow base 3 1 (.slice (some ⟨g,0,none⟩) Q.length cap) Q.length (Q.map encN))(hQ:∀x∈Q,x<BV.length)(hne:0<BV.length)(hl:Q.length<1000000000)
  (h0:w.cell? ⟨B,0,none⟩=some (.pointer (some ⟨pb,0,none⟩))) (h1:w.cell? ⟨pb,2,none⟩=some bv) (hbv:Nats w bv BV) (gB:B≠g) (gp:pb≠g) (gb:∀q,bv.ownBlock=some q→q≠g) :
  Calls Tryz.prog 147 #[.slice (some ⟨g,0,none⟩) Q.length cap,.func (.func 148) #[] #[.pointer (some ⟨B,0,none⟩)]] w fun e w' =>
   e=.returned (.tuple #[])/\∃Q':List Nat,Q'.Perm Q/\(Q'.Pairwise fun a b=>BV.getD a 0≤BV.getD b 0)/\w'.ownsRow base 3 1 (.slice (some ⟨g,0,none⟩) Q'.length cap) Q'.length (Q'.map encN)/\Fr (fun k=>k=g) w w':=by
 obtain⟨D,hD⟩:=zpb Q hQ;haveI:Inhabited {x:Nat // x<BV.length}:=⟨⟨0,hne⟩⟩;let enc:{x:Nat // x<BV.length}→Value:=fun x=>encN x.1
 let cf:{x:Nat // x<BV.length}→{x:Nat // x<BV.length}→Int:=fun x y=>Lib.compareInt (BV.getD x.1 0:Int) (BV.getD y.1 0:Int)
 have hlen:D.length=Q.length:=by rw[←hD];simp
 have hx:Q.map encN=D.toArray.toList.map enc:=by rw[←hD,List.map_map];rfl
 have hds:D.toArray.size=Q.length:=by simpa using hlen
 have hH:=zfi (enc:=enc) h D.toArray hx;have hlt:g<w.heap.size:=(h.lt g rfl).2;have eg:∀args w,(callFunc 148 args).run Tryz.prog w=.ok (.enter 148 args) w:=enters_of Tryz.func148 (by kernel_rfl) rfl;have hcmp:CmpLays1 Tryz.prog 148 #[.pointer (some ⟨B,0,none⟩)] enc cf g 0 D.toArray.size w:=by
  intro m os dk hs x y;obtain⟨_,hf⟩:=zfd (enc:=enc) h dk (by rw[hs,hds]) m os;have hc:=yb4 B pb x.1 y.1 BV bv (sortWorld enc w g 0 m dk os) (hf.cell h0 gB) (hf.cell h1 gp) (hbv.fr hf (fun _ q hq=>gb q hq)) x.2 y.2;refine Calls.mono (P:=Tryz.prog) hc ?_
  rintro e w' ⟨rfl,q,rfl⟩;refine⟨?_,q,#[],by rw[grow_empty]⟩;show _=Ending.returned (.int .i64 (Lib.compareInt (BV.getD x.1 0:Int) (BV.getD y.1 0:Int)))
  rw[List.getD_eq_getElem?_getD,List.getElem?_eq_getElem x.2,List.getD_eq_getElem?_getD,List.getElem?_eq_getElem y.2];rfl
 have hc:=Any.slices_SortFunc Tryz.laySortI enc (fun _=>rfl) cf (yam fun x:{x:Nat // x<BV.length}=>BV.getD x.1 0) 148 #[.pointer (some ⟨B,0,none⟩)] g 0 cap D.toArray w eg hcmp hH hlt (by omega);rw[hds]at hc;refine Calls.mono (P:=Tryz.prog) hc ?_
 rintro e w' ⟨rfl,d',n,os,hp,hso,rfl⟩;have hsz:d'.size=Q.length:=by rw[hp.1,hds]
 rw[←hds]at hp;have hpp:=(zgv hp).map Subtype.val;rw[List.toList_toArray,hD]at hpp;rw[←hsz]at hso;have hpw:=zdr hso;obtain⟨h2,h3⟩:=zfd (enc:=enc) h d' hsz n os;refine⟨rfl,d'.toList.map Subtype.val,hpp,List.pairwise_map.2 (hpw.imp fun {a b} hab=>?_),?_,h3⟩
 ·unfold ltOf at hab
  simp only[decide_eq_false_iff_not]at hab;show BV.getD a.1 0≤BV.getD b.1 0
  have hab:¬Lib.compareInt (BV.getD b.1 0:Int) (BV.getD a.1 0:Int)<0:=hab;rcases Nat.lt_or_ge (BV.getD b.1 0) (BV.getD a.1 0)with hlt|hge
  ·exfalso;apply hab
   unfold Lib.compareInt;rw[if_pos (by omega)];omega
  ·exact hge
 ·have e1:(d'.toList.map Subtype.val).length=Q.length:=by simp[hsz]
  rw[e1,List.map_map];exact h2
theorem znd {w:World}{base:Nat}{e:TypeId}{g n cap s:Nat}{xs:List Value}(h:w.ownsRow base e s (.slice (some ⟨g,0,none⟩) n cap) n xs)(d:Array Value)(hx:d.toList=xs):Holds id w g 0 d:=by
 rcases h.2 with ⟨h0,_⟩|⟨g',cap',cur,hv,hb,hg,hnc,hcm,hs,ht⟩
 ·cases h0
 ·cases hv
  have hl:xs.length=n*s:=h.1;intro j hj;have hjn:j<n*s:=by rw[←hx]at hl;simp at hl;omega
  refine⟨?_,by simp[World.frozen?,hg]⟩;rw[Nat.zero_add,cell_of_row w g j cur _ _ hg];have:(cur.toList.take (n*s))[j]?=some (id d[j]!):=by
   rw[ht,←hx,Array.getElem?_toList,Array.getElem?_eq_getElem hj,getElem!_pos d j hj];rfl
  rw[List.getElem?_take,if_pos (by omega)]at this
  simpa using this
theorem ziy {w:World}{base:Nat}{e:TypeId}{g n cap s:Nat}{xs:List Value}(h:w.ownsRow base e s (.slice (some ⟨g,0,none⟩) n cap) n xs)(d:Array Value)(hd:d.size=n*s)(q:Nat)(os:Array Obj) :
  (grow (putRow id (Sort.ahead w q) g 0 d) os).ownsRow base e s (.slice (some ⟨g,0,none⟩) n cap) n d.toList/\Fr (fun k=>k=g) w (grow (putRow id (Sort.ahead w q) g 0 d) os):=by
 rcases h.2 with ⟨h0,_⟩|⟨g',cap',cur,hv,hb,hg,hnc,hcm,hs,ht⟩
 ·cases h0
 ·cases hv
  obtain⟨h1,h2⟩:=zms (enc:=id) hg d q os;refine⟨⟨by simp[hd],.inr ⟨g,cap,_,rfl,hb,h1,hnc,hcm,by simp[putCells,hs],?_⟩⟩,h2⟩;have hcs:n*s≤cur.size:=by rw[hs];exact Nat.mul_le_mul_right _ hnc
  apply List.ext_getElem?
  intro i;rw[List.getElem?_take];by_cases hi:i<n*s
  ·rw[if_pos hi,Array.getElem?_toList,Array.getElem?_toList,Array.getElem?_eq_getElem (xs:=d) (i:=i) (by omega)]
   unfold putCells;rw[Array.getElem?_mapIdx,Array.getElem?_eq_getElem (by omega)];simp only[Option.map_some];rw[if_pos ⟨Nat.zero_le _,by omega⟩,Nat.sub_zero,getElem!_pos d i (by omega)];rfl
  ·rw[if_neg hi,Array.getElem?_toList,Array.getElem?_eq_none (by omega)]
theorem zmz (lv rv:Nat→Value)(d:Array Nat):(flatK (enc3 lv rv) 3 d).toList=zg5 lv rv d.toList:=by
 apply List.ext_getElem?
 intro t;have hsz:(flatK (enc3 lv rv) 3 d).size=d.size*3:=by simp[flatK]
 by_cases ht:t<d.size*3
 ·obtain⟨q,m,hm,rfl⟩:∃q m,m<3/\t=q*3+m:=⟨t/3,t%3,by omega,by omega⟩
  have e1:(q*3+m)/3=q:=by omega
  have e2:(q*3+m)%3=m:=by omega
  have hq:q<d.size:=by omega
  have hg:d.toList[q]?=some d[q]! := by rw[Array.getElem?_toList,Array.getElem?_eq_getElem hq,getElem!_pos d _ hq]
  obtain⟨g0,g1,g2⟩:=zr8 lv rv d.toList q _ hg;have he:(flatK (enc3 lv rv) 3 d).toList[q*3+m]?=some ((enc3 lv rv d[q]!)[m]!):=by
   rw[Array.getElem?_toList];unfold flatK;rw[Array.getElem?_map,Array.getElem?_range,if_pos ht];simp only[Option.map_some,e1,e2]
  rw[he];match m,hm with
  | 0,_=>exact g0.symm
  | 1,_=>exact g1.symm
  | 2,_=>exact g2.symm
  | m+3,h=>omega
 ·rw[List.getElem?_eq_none (by simp[hsz];omega),List.getElem?_eq_none (by rw[zr7];simp;omega)]
set_option maxHeartbeats 1000000 in
theorem zxx {base g cap:Nat}(G:List Nat)(lv rv:Nat→Value)(f:Nat→PL)(w:World)(h:w.ownsRow base 170 3 (.slice (some ⟨g,0,none⟩) G.length cap) G.length (zg5 lv rv G))(hl:G.length<1000000000)
  (h1:∀i,Nats w (lv i) (f i).1/\∀q,(lv i).ownBlock=some q→q≠g) (h2:∀i,Nats w (rv i) (f i).2/\∀q,(rv i).ownBlock=some q→q≠g) :
  Calls Tryz.prog 150 #[.slice (some ⟨g,0,none⟩) G.length cap,.func (.func 151) #[] #[]] w fun e w' =>
   e=.returned (.tuple #[])/\∃G':List Nat,G'.Perm G/\(G'.Pairwise fun a b=>zan (f b) (f a)=false)/\w'.ownsRow base 170 3 (.slice (some ⟨g,0,none⟩) G'.length cap) G'.length (zg5 lv rv G')/\Fr (fun k=>k=g) w w':=by
 have hs:∀i,(lv i).oneCell'=true/\(rv i).oneCell'=true:=fun i=>by
  obtain⟨⟨a,c,e1,_⟩,_⟩:=h1 i;obtain⟨⟨a',c',e2,_⟩,_⟩:=h2 i;rw[e1,e2];exact⟨rfl,rfl⟩
 have hfl:=zmz lv rv G.toArray;rw[List.toList_toArray]at hfl;have hH:HoldsK (enc3 lv rv) 3 w g 0 G.toArray:=znd h _ hfl;have hlt:g<w.heap.size:=(h.lt g rfl).2;have eg:∀args w,(callFunc 151 args).run Tryz.prog w=.ok (.enter 151 args) w:=enters_of Tryz.func151 (by kernel_rfl) rfl;have hcmp:CmpLays Tryz.prog 151 #[] (enc3 lv rv) 3 (fun x y=>ecmp (f x) (f y)) g 0 G.toArray.size w:=by
  intro m os dk hs x y;have hd:(flatK (enc3 lv rv) 3 dk).size=G.length*3:=by simp[flatK,hs]
  obtain⟨_,hf⟩:=ziy h (flatK (enc3 lv rv) 3 dk) hd m os;have hc:=yb3 x y (lv x) (rv x) (lv y) (rv y) (f x).1 (f x).2 (f y).1 (f y).2 (sortWorldK (enc3 lv rv) 3 w g 0 m dk os)
   ((h1 x).1.fr hf (fun _ q hq=>(h1 x).2 q hq)) ((h2 x).1.fr hf (fun _ q hq=>(h2 x).2 q hq)) ((h1 y).1.fr hf (fun _ q hq=>(h1 y).2 q hq)) ((h2 y).1.fr hf (fun _ q hq=>(h2 y).2 q hq))
  exact hc
 have hc:=AnyQ.slices_SortFunc Tryz.laySortE 3 (fun w=>Tryz.isAgg170 w) (fun w=>Tryz.sizeOf170 w) (enc3 lv rv) (fun _=>rfl) (fun x v hv=>by
   simp only[enc3,List.mem_cons,List.not_mem_nil,or_false]at hv;rcases hv with rfl|rfl|rfl
   ·rfl
   ·exact(hs x).1
   ·exact(hs x).2) (fun x y=>ecmp (f x) (f y)) (zxn f) 151 #[] g 0 cap G.toArray w eg hcmp hH hlt (by simp;omega)
 refine Calls.mono (P:=Tryz.prog) hc ?_
 rintro e w' ⟨rfl,d',n,os,hp,hso,rfl⟩;have hsz:d'.size=G.length:=by rw[hp.1];simp
 have hpp:=zgv hp;rw[List.toList_toArray]at hpp;rw[List.size_toArray,←hsz]at hso;have hpw:=zdr hso;obtain⟨h3,h4⟩:=ziy h (flatK (enc3 lv rv) 3 d') (by simp[flatK,hsz]) n os;rw[zmz]at h3;refine⟨rfl,d'.toList,hpp,hpw.imp fun {a b} hab=>?_,?_,h4⟩
 ·unfold ltOf at hab
  rw[zzv]at hab;exact hab
 ·have e1:d'.toList.length=G.length:=by simp[hsz]
  rw[e1];exact h3
end Go.Proofs.YtghekfmfonoocaaGreatDoor
namespace Go.Proofs.YtghekfmfonoocaaGreatDoor
set_option linter.unusedVariables false
set_option linter.unusedSimpArgs false
open Go.RowKit
theorem ye2 (b n c k:Nat)(hk:k<n)(w:World) :
  (Instr.indexAt 167 (.slice (some ⟨b,0,none⟩) n c) (.int .i64 (k:Int))).run Tryz.prog w=.ok (.pointer (some ⟨b,k*3,none⟩)) w:=by
 go_simp
theorem zn7 (n:Nat)(W:World)(hn:n<1000000000):∃cur:Array Value,cur.size=n*2/\(Instr.makeSlice 24 (.int .i64 0) (.int .i64 (n:Int))).run Tryz.prog W=.ok (.slice (some ⟨W.heap.size,0,none⟩) 0 n) (W.alloc (.cells cur 85)):=by
 obtain⟨i0,hi,hz0,hz1,hz2⟩:=info_parts zc6;have h:=run_make (P:=Tryz.prog) W 24 85 i0 _ Tryz.underlying24 hi hz0 .i64 .i64 0 n (by omega) (by omega) (by rw[hz2];omega) (by omega);rw[hz1,Int.toNat_natCast]at h;exact⟨_,by simp[madeCells],h⟩
structure OutS (V:List PL) (w1:World) (g cap rb:Nat) (Q A:List Nat) (n:Nat) (W:World) (nv:Value):Prop where
 list:W.ownsRow w1.heap.size 3 1 (.slice (some ⟨g,0,none⟩) Q.length cap) Q.length ((A++Q.drop n).map encN)
 rank:MapF encN encN W rb (zkb A)
 nodes:NodesS (rb+1) W nv (A.map fun x=>zbq A (za6 V x))
 fr:Fr NoM w1 W
theorem Fr.drewN {M:Nat→Prop}{a w:World}(h:Fr M a w)(n:Nat):Fr M a (w.drewN n):=⟨h.os,h.tape,h.output,h.size,h.block⟩
theorem zoh {base g cap n k x:Nat}{xs:List Nat}{w:World}(h:w.ownsRow base 3 1 (.slice (some ⟨g,0,none⟩) n cap) n (xs.map encN))(hx:xs[k]?=some x):w.cell? ⟨g,k,none⟩=some (.int .i64 (x:Int)):=by
 obtain⟨a,c,e,_,_,h3⟩:=SliceOf.of_owns h rfl;obtain⟨b,off,e2,c2⟩:=h3 k x hx;subst e2;cases e
 simpa [encN] using c2
theorem zyd {w:World}{base g n cap:Nat}{L:List Nat}(h:w.ownsRow base 3 1 (.slice (some ⟨g,0,none⟩) n cap) n (L.map encN))(k x:Nat)(hk:k<n) :
  (∃u,w.cell? ⟨g,k,none⟩=some u)/\w.frozen? ⟨g,k,none⟩=false/\(w.setCell ⟨g,k,none⟩ (encN x)).ownsRow base 3 1 (.slice (some ⟨g,0,none⟩) n cap) n ((L.set k x).map encN):=by
 have hl:=h.1;rcases h.2 with ⟨h0,_⟩|⟨g',cap',cur,hv,hb,hg,hnc,hcm,hs,ht⟩
 ·cases h0
 ·cases hv
  have hL:k<L.length:=by simp at hl;omega
  refine⟨⟨encN L[k],?_⟩,by simp[World.frozen?,hg],by simpa using hl,.inr ⟨g,cap,_,rfl,hb,heap_set hg (encN x),hnc,hcm,by simp[hs],?_⟩⟩
  ·rw[cell_of_row w g k cur _ _ hg]
   have:(cur.toList.take (n*1))[k]?=some (encN L[k]):=by rw[ht,List.getElem?_map,List.getElem?_eq_getElem hL];rfl
   rw[List.getElem?_take,if_pos (by omega)]at this
   simpa using this
  ·rw[Array.toList_setIfInBounds,List.take_set,ht,List.map_set]
theorem zvc {base g cap n j x:Nat}{G:List Nat}{lv rv:Nat→Value}{w:World}(h:w.ownsRow base 170 3 (.slice (some ⟨g,0,none⟩) n cap) n (zg5 lv rv G))(hn:n=G.length)(hx:G[j]?=some x) :
  w.cell? ⟨g,j*3,none⟩=some (.int .i64 (x:Int))/\w.cell? ⟨g,j*3+1,none⟩=some (lv x)/\w.cell? ⟨g,j*3+2,none⟩=some (rv x):=by
 rcases h.2 with ⟨h0,_⟩|⟨g',cap',cur,hv,hb,hg,hnc,hcm,hs,ht⟩
 ·cases h0
 ·cases hv
  have hj:=(List.getElem?_eq_some_iff.1 hx).1;obtain⟨f0,f1,f2⟩:=zr8 lv rv G j x hx;have key:∀i v,i<n*3→(zg5 lv rv G)[i]?=some v→w.cell? ⟨g,i,none⟩=some v:=by
   intro i v hi hv;rw[cell_of_row w g i cur _ _ hg];rw[←ht,List.getElem?_take,if_pos hi]at hv;simpa using hv
  exact⟨key _ _ (by omega) f0,key _ _ (by omega) f1,key _ _ (by omega) f2⟩
theorem zp8 {Q:List Nat}{n m:Nat}(h:n+m<Q.length):(Q.drop n).take (m+1)=(Q.drop n).take m ++ [Q[n+m]]:=by
 have h1:m<(Q.drop n).length:=by simp;omega
 rw[List.take_succ_eq_append_getElem h1,List.getElem_drop]
theorem ybc {Q:List Nat}{n m:Nat}(hn:Q.Nodup)(h:n+m<Q.length):Q[n+m] ∉ (Q.drop n).take m:=by
 have h1:((Q.drop n).take (m+1)).Nodup:=(List.take_sublist _ _).nodup ((List.drop_sublist _ _).nodup hn);rw[zp8 h,List.nodup_append]at h1;intro hx;exact h1.2.2 _ hx _ (List.mem_singleton.2 rfl) rfl
set_option maxRecDepth 4000 in
set_option maxHeartbeats 8000000 in
theorem zye {M I:Nat→Prop}(pb:Nat)(V:List PL)(BV R:List Nat)(mo mc ms mn rv:Value)(w:World)(hP:PoolS M I w pb V BV mo mc ms mn)(hR:Nats w rv R)(hRt:∀x∈R,x<V.length)(hV0:0<V.length)
  (hopt:∀(j:Nat) (y:PL),V[j]?=some y→(∀i∈y.1,i<V.length)/\∀i∈y.2,i<V.length) (hrl:R.length<1000000000) (hn:V.length<1000000000) (hlen:∀y∈V,y.1.length<1000000000/\y.2.length<1000000000)
  (hQ:∀Q:List Nat,Q.Nodup→(∀x,x∈Q↔ReachV V R x)→Q.Pairwise (fun a b=>BV.getD a 0≤BV.getD b 0)→QOk V BV Q) :
  Calls Tryz.prog 107 #[.pointer (some ⟨pb,0,none⟩),rv] w fun e w'=>∃(lv nv:Value) (Q:List Nat) (FN:List PL),e=.returned (.tuple #[lv,nv])/\OrderIs V BV R Q FN/\w'.ownsRow w.heap.size 3 1 lv Q.length (Q.map encN)/\NodesS w.heap.size w' nv FN/\Fr NoM w w':=by
 obtain⟨ra,rc,rfl,z1⟩:=id hR;clear z1;have HP:=Hh hP;have HR:=Hh hR;have HRt:=Hh hRt;have Hopt:=Hh hopt;have Hn:=Hh hn;have HLen:=Hh hlen;have HQ:=Hh hQ;have HRl:=Hh hrl;have HV0:=Hh hV0;clear hP hR hRt hopt hlen hQ hn hrl hV0;go_enter Tryz.func107,Tryz.ntmps107;go_wp2_with fail;obtain⟨w1,hw1⟩:∃w1,w1=w.alloc (.cells #[.pointer (some ⟨pb,0,none⟩)] 65):=⟨_,rfl⟩;have hf1:Fr NoM w w1:=by rw[hw1];exact(Fr.refl NoM w).alloc _
 have hB1:w1.heap[w.heap.size]?=some (.cells #[.pointer (some ⟨pb,0,none⟩)] 65 (0,0)):=by rw[hw1];exact heap_alloc_new w _
 rw[←hw1];have HF1:=Hh hf1;have HB1:=Hh hB1;clear hf1 hB1 hw1;refine(zmd pb V BV R mo mc ms mn (.slice ra R.length rc) w1 (HP.out.fr0 HF1.out) (HR.out.fr0 HF1.out) HRt.out Hopt.out HRl.out Hn.out HLen.out).mono ?_
 rintro e w2 ⟨g,cap,Q0,rfl,h2,hnd,hmem,f2⟩;have H2:=Hh h2;have HND:=Hh hnd;have HMem:=Hh hmem;have F2:=Hh f2;clear h2 hnd hmem f2;go_wp2_with fail;obtain⟨lv0,rv0,bv,fb,LS,RS,hA,hI1,hI2,_⟩:=HP.out;have hbn:Nats w bv BV:=SliceOf.of_owns hA.born rfl;have hbvl:BV.length=V.length:=hA.lenB;have HBvb:=Hh (fun q (hq:bv.ownBlock=some q)=>(hA.born.lt q hq).2);have hpl:pb<w.heap.size:=(Array.getElem?_eq_some_iff.1 hA.blk).1;have hpb2:w.cell? ⟨pb,2,none⟩=some bv:=by rw[cell_of_row w pb 2 _ _ _ hA.blk];rfl
 have hg1:=(H2.out.lt g rfl).1;have hsz1:=HF1.out.size;have hQl:∀x∈Q0,x<BV.length:=fun x hx=>by
  rw[hbvl];have hr:=(HMem.out x).1 hx;clear hx;induction hr with
  | root h=>exact HRt.out _ h
  | @left x y _ hy ih=>rw[List.getD_eq_getElem?_getD,List.getElem?_eq_getElem ih]at hy;exact(Hopt.out x _ (List.getElem?_eq_getElem ih)).1 y hy
  | @right x y _ hy ih=>rw[List.getD_eq_getElem?_getD,List.getElem?_eq_getElem ih]at hy;exact(Hopt.out x _ (List.getElem?_eq_getElem ih)).2 y hy
 have hQn:Q0.length≤V.length:=by
  have:=HND.out.length_le_of_subset (l₂:=List.range V.length) (fun x hx=>List.mem_range.2 (by rw[←hbvl];exact hQl x hx));simpa using this
 have hBc:w2.cell? ⟨w.heap.size,0,none⟩=some (.pointer (some ⟨pb,0,none⟩)):=F2.out.cell (by rw[cell_of_row w1 _ 0 _ _ _ HB1.out];rfl) (fun q=>q);have hBlt:w.heap.size<w1.heap.size:=(Array.getElem?_eq_some_iff.1 HB1.out).1;have hf2:Fr NoM w w2:=HF1.out.trans F2.out (fun _ _ q=>q);refine(zxv (B:=w.heap.size) (pb:=pb) Q0 BV bv w2 H2.out hQl (by rw[hbvl];exact HV0.out) (by have:=Hn.out;omega) hBc (hf2.cell hpb2 (fun q=>q)) (hbn.fr0 hf2) (by omega) (by omega) (fun q hq=>by have:=HBvb.out q hq;omega)).mono ?_
 rintro e w3 ⟨rfl,Q,hperm,hsorted,h3,f3⟩;have hlq:Q0.length=Q.length:=hperm.length_eq.symm;rw[hlq];have hq:=HQ.out Q ((hperm.nodup_iff).2 HND.out) (fun x=>(hperm.mem_iff).trans (HMem.out x)) hsorted;have hQl':∀x∈Q,x<V.length:=fun x hx=>by rw[←hbvl];exact hQl x ((hperm.mem_iff).1 hx)
 have hQn':Q.length<1000000000:=by have:=Hn.out;omega
 have hmem':∀x,x∈Q↔ReachV V R x:=fun x=>(hperm.mem_iff).trans (HMem.out x)
 have hf3:Fr NoM w1 w3:=F2.out.trans f3 (fun q hq e=>by omega);have HQo:=Hh hq;have HQl:=Hh hQl';have HQn:=Hh hQn';have HMem:=Hh hmem';have H3:=Hh h3;have F3:=Hh hf3;have HG1:=Hh hg1;have HPl:=Hh hpl;have HBlt:=Hh hBlt;have HBvl:=Hh hbvl;clear hBc hf2 hQl hQn hperm hsorted hlq hq hQl' hmem' hf3 h3 f3 hg1 hsz1 hpl hBlt hbvl;clear HND H2 F2
 -- what is read of the pool
 obtain⟨la,lc,rfl,hlc,hlcm,hlcell⟩:=SliceOf.of_owns (enc:=encV) (L:=LS) hA.left (List.map_id'' (fun _=>rfl) LS).symm;obtain⟨ua,uc,rfl,huc,hucm,hucell⟩:=SliceOf.of_owns (enc:=encV) (L:=RS) hA.right (List.map_id'' (fun _=>rfl) RS).symm;obtain⟨va,vc,rfl,hvc,hvcm,hvcell⟩:=hbn;have HC:=Hh (fun(W:World) (f:Fr NoM w1 W)=>show W.cell? ⟨w.heap.size,0,none⟩=some (.pointer (some ⟨pb,0,none⟩))/\W.cell? ⟨pb,0,none⟩=some (.slice la LS.length lc)/\W.cell? ⟨pb,1,none⟩=some (.slice ua RS.length uc)/\W.cell? ⟨pb,2,none⟩=some (.slice va BV.length vc)from
  have f0:=HF1.out.trans f (fun _ _ q=>q)
  ⟨f.cell (by rw[cell_of_row w1 _ 0 _ _ _ HB1.out];rfl) (fun q=>q),f0.cell (by rw[cell_of_row w pb 0 _ _ _ hA.blk];rfl) (fun q=>q),f0.cell (by rw[cell_of_row w pb 1 _ _ _ hA.blk];rfl) (fun q=>q),f0.cell hpb2 (fun q=>q)⟩)
 have HO:=Hh (fun(x:Nat) (hx:x<V.length)=>show ∃ba oa va bb ob vb,la=some ⟨ba,oa,none⟩/\w.cell? ⟨ba,oa+x,none⟩=some va/\Nats w va (za6 V x).1/\ua=some ⟨bb,ob,none⟩/\w.cell? ⟨bb,ob+x,none⟩=some vb/\Nats w vb (za6 V x).2 from by
  have e3:LS[x]?=some (LS[x]'(by rw[hA.lenL];exact hx)):=List.getElem?_eq_getElem _
  have e4:RS[x]?=some (RS[x]'(by rw[hA.lenR];exact hx)):=List.getElem?_eq_getElem _
  obtain⟨ba,oa,e1,c1⟩:=hlcell x _ e3;obtain⟨bb,ob,e2,c2⟩:=hucell x _ e4;have hn:za6 V x=V[x]:=by unfold za6;rw[List.getD_eq_getElem?_getD,List.getElem?_eq_getElem hx];rfl
  rw[hn];exact⟨ba,oa,_,bb,ob,_,e1,c1,(hI1 x _ V[x] e3 (List.getElem?_eq_getElem _)).1,e2,c2,(hI2 x _ V[x] e4 (List.getElem?_eq_getElem _)).1⟩)
 have HV:=Hh hvcell;have HLl:=Hh hA.lenL;have HRl2:=Hh hA.lenR;clear hA hI1 hI2 hlcell hucell hvcell hpb2;have hmm:∀(t:TypeId) (w:World),(Instr.makeMap t none).run Tryz.prog w=.ok (.map (some w.heap.size)) (w.alloc (.map #[] 0)):=fun t w=>run_makeMap t w
 obtain⟨cur,hcur,mk⟩:=zn7 Q.length (w3.alloc (.map #[] 0)) hQn';have HCur:=Hh hcur;clear hcur hQn';go_wp2_with fail;obtain⟨rb,hrb⟩:∃rb,rb=w3.heap.size:=⟨_,rfl⟩;obtain⟨w4,hw4⟩:∃w4,w4=(w3.alloc (.map #[] 0)).alloc (.cells cur 85):=⟨_,rfl⟩;have ho4:OutS V w1 g cap rb Q [] 0 w4 (.slice (some ⟨rb+1,0,none⟩) 0 Q.length):=by
  have f4:Fr NoM w3 w4:=by rw[hw4];exact((Fr.refl NoM w3).alloc _).alloc _
  refine⟨by simpa using za3 H3.out f4 (fun _ _ q=>q),?_,?_,F3.out.trans f4 (fun _ _ q=>q)⟩
  ·rw[hw4,hrb]
   have h:=(MapF.made encN encN w3).fr ((Fr.refl NoM _).alloc (.cells cur 85)) (fun q=>q);rwa [show zkb []=fun _=>none from funext fun x=>by simp[zkb]]
  ·rw[hw4,show rb+1=(w3.alloc (.map #[] 0)).heap.size from by rw[hrb];simp]
   exact NodesS.made _ _ (by have:=HQn.out;omega) cur HCur.out
 have hgrb:g<rb/\w.heap.size<g:=by have:=(H3.out.lt g rfl).2;have:=HG1.out;have:=HBlt.out;omega
 rw[←hw4,←hrb];have HO4:=Hh ho4;have HGrb:=Hh hgrb;have HRb:=Hh (show rb<w4.heap.size from by rw[hw4,hrb];simp;omega);clear ho4 hgrb hw4 hrb mk hmm;go_loopw [8,9] (fun v0 i W=>∃(n:Nat) (nv:Value) (A:List Nat),nv=v0/\i=.int .i64 n/\GInv V BV Q A n/\OutS V w1 g cap rb Q A n W nv/\rb<W.heap.size) (fun _ i _=>Q.length-(intOf i).toNat)
 case atStart=>exact⟨0,_,[],rfl,rfl,GInv.start V BV Q,HO4.out,HRb.out⟩
 case round =>
  obtain⟨n,nv,A,rfl,rfl,hG,hO,hrb⟩:=hrel;have HGI:=Hh hG;have HOS:=Hh hO;have HRbr:=Hh hrb;clear hG hO hrb;by_cases hlt:n<Q.length
  ·go_wp2_with fail
   obtain⟨w5,hw5⟩:∃w5,w5=wr.alloc (.cells #[] 170):=⟨_,rfl⟩;have he5:=ERow.made wr V A;have hf5:Fr NoM wr w5:=by rw[hw5];exact(Fr.refl NoM wr).alloc _
   rw[←hw5]at he5;rw[←hw5];have HE5:=Hh he5;have HF5:=Hh hf5;clear he5 hf5 hw5;have hq0:Q.getD n 0=Q[n]:=by rw[List.getD_eq_getElem?_getD,List.getElem?_eq_getElem hlt];rfl
   obtain⟨y,hy⟩:∃y,y=Q[n]:=⟨_,rfl⟩;have hAl:A.length=n:=by have:=HGI.out.perm.length_eq;simp at this;omega
   have HQ0:=Hh (show Q.getD n 0=y from hq0.trans hy.symm);have HY:=Hh hy;have HAl:=Hh hAl;have HLt:=Hh hlt;clear hq0 hy hAl;obtain⟨zs,hzs⟩:∃z,z=wr.heap.size:=⟨_,rfl⟩;rw[←hzs]at HE5 ⊢;have HZs:=Hh hzs;clear hzs;go_loopw [10,11] (fun gv i W=>∃(k m gb gc:Nat) (lv rv:Nat→Value) (G:List Nat),gv=.slice (some ⟨gb,0,none⟩) m gc/\i=.int .i64 k/\k=n+m/\k≤Q.length/\m=G.length/\G=(Q.drop n).take m/\(∀x∈G,BV.getD x 0=BV.getD y 0)/\ERow zs W (.slice (some ⟨gb,0,none⟩) m gc) G lv rv (fG V A G)/\Fr NoM wr W) (fun _ i _=>Q.length-(intOf i).toNat)
   case atStart=>exact⟨n,0,_,_,_,_,[],rfl,rfl,by omega,by have:=HLt.out;omega,rfl,by simp,by simp,HE5.out,HF5.out⟩
   case round =>
    obtain⟨w6,rfl⟩:∃w6,w6=wr:=⟨_,rfl⟩;obtain⟨k,m,gb,gc,lv,rv,G,rfl,rfl,hk,hkl,hm,hG,hGb,hE,hF⟩:=hrel;have hf6:Fr NoM w1 w6:=HOS.out.fr.trans hF (fun _ _ q=>q);obtain⟨c0,c1,c2,c3⟩:=HC.out w6 hf6;have hlist:=za3 HOS.out.list hF (fun _ _ q=>q);have hget:∀j,n≤j→(A++Q.drop n)[j]?=Q[j]?:=fun j hj=>by
     have:=HAl.out;rw[List.getElem?_append_right (by omega),List.getElem?_drop];congr 1;omega
    have hyQ:y<V.length:=by rw[HY.out];exact HQl.out _ (List.getElem_mem _)
    have cn:w6.cell? ⟨g,n,none⟩=some (.int .i64 (y:Int)):=zoh hlist (by rw[hget n (Nat.le_refl _),HY.out];exact List.getElem?_eq_getElem _);have ixn:=zdm g Q.length cap n HLt.out;obtain⟨b1,o1,e1,d1⟩:=HV.out y (BV.getD y 0) (by rw[List.getD_eq_getElem?_getD,List.getElem?_eq_getElem (by rw[HBvl.out];exact hyQ)];rfl);have ixy:=zaa va BV.length vc y b1 o1 (by rw[HBvl.out];exact hyQ) e1;obtain⟨yb,hyb⟩:∃b,b=BV.getD y 0:=⟨_,rfl⟩;rw[←hyb]at d1;have cy:w6.cell? ⟨b1,o1+y,none⟩=some (.int .i64 (yb:Int)):=(HF1.out.trans hf6 (fun _ _ q=>q)).cell d1 (fun q=>q);obtain⟨cb,hcb⟩:∃b:Bool,b=decide (k<Q.length/\BV.getD (Q.getD k 0) 0=yb):=⟨_,rfl⟩;have HCb:=Hh hcb;have HYb:=Hh hyb;have HK:=Hh hk;have HKl:=Hh hkl;have HM:=Hh hm;have HGd:=Hh hG;have HGb:=Hh hGb;have HE:=Hh hE;have HF:=Hh hF;have HList:=Hh hlist;have HGet:=Hh hget;have HF6:=Hh hf6;have HYq:=Hh hyQ;clear hcb hyb hk hkl hm hG hGb hE hF hlist hget hf6 hyQ d1 e1;go_upto_region 9 with fail;go_cut [57]from 31 to 57 (fun c wx=>c=.bool cb/\Fr NoM w6 wx)
    case first =>
     -- <<A
     by_cases h1:k<Q.length
     ·obtain⟨x,hx⟩:∃x,x=Q[k]:=⟨_,rfl⟩
      have hxQ:x<V.length:=by rw[hx];exact HQl.out _ (List.getElem_mem _)
      have ck:w6.cell? ⟨g,k,none⟩=some (.int .i64 (x:Int)):=zoh HList.out (by rw[HGet.out k (by have:=HK.out;omega),hx];exact List.getElem?_eq_getElem _);have ixk:=zdm g Q.length cap k h1;obtain⟨b2,o2,e2,d2⟩:=HV.out x (BV.getD x 0) (by rw[List.getD_eq_getElem?_getD,List.getElem?_eq_getElem (by rw[HBvl.out];exact hxQ)];rfl);have ixx:=zaa va BV.length vc x b2 o2 (by rw[HBvl.out];exact hxQ) e2;obtain⟨xb,hxb⟩:∃b,b=BV.getD x 0:=⟨_,rfl⟩;rw[←hxb]at d2;have cx:w6.cell? ⟨b2,o2+x,none⟩=some (.int .i64 (xb:Int)):=(HF1.out.trans HF6.out (fun _ _ q=>q)).cell d2 (fun q=>q);have hqk:Q.getD k 0=x:=by rw[hx,List.getD_eq_getElem?_getD,List.getElem?_eq_getElem h1];rfl
      have hce:cb=decide (xb=yb):=by rw[HCb.out,hqk,←hxb];simp[h1]
      have hd:decide ((k:Int)<(Q.length:Int))=true:=by simp;exact h1
      have HX:=Hh hx;have HXq:=Hh hxQ;have HXb:=Hh hxb;have HQk:=Hh hqk;clear hx hxQ d2 e2 hxb hqk;by_cases h2:xb=yb
      ·subst h2
       rw[decide_eq_true rfl]at hce;have HCe:=Hh hce;clear hce;go_quiet (fail);go_wp2;go_meet
       case rel=>exact⟨congrArg Value.bool HCe.out.symm,(Fr.refl NoM w6).drewN _⟩
      ·rw[decide_eq_false h2]at hce
       have HCe:=Hh hce;clear hce;have h3:((xb:Int) == (yb:Int))=false:=by simp;omega
       have h4:¬(xb:Int)=(yb:Int):=by omega
       clear h2;go_quiet (fail);go_wp2;go_meet
       case rel=>exact⟨congrArg Value.bool HCe.out.symm,(Fr.refl NoM w6).drewN _⟩
     ·have hd:decide ((k:Int)<(Q.length:Int))=false:=by simp;omega
      have hce:cb=false:=by rw[HCb.out];simp[h1]
      have HCe:=Hh hce;clear hce;go_quiet (fail);go_wp2;go_meet
      case rel=>exact⟨congrArg Value.bool HCe.out.symm,(Fr.refl NoM w6).drewN _⟩
     -- A>>
    case rest =>
     obtain⟨rfl,hfc⟩:=hcut;obtain⟨w7,rfl⟩:∃w7,w7=wc:=⟨_,rfl⟩;clear c0 c1 c2 c3 cn ixn ixy cy;have hE7:=HE.out.fr hfc (fun _ _ _ q=>q);have hF7:=HF.out.trans hfc (fun _ _ q=>q);have hf7:=HF6.out.trans hfc (fun _ _ q=>q);have hl7:=za3 HList.out hfc (fun _ _ q=>q);have HE7:=Hh hE7;have HF7:=Hh hF7;have Hf7:=Hh hf7;have HL7:=Hh hl7;clear hE7 hF7 hf7 hl7 hfc HE HF HF6 HList;by_cases hc:k<Q.length/\BV.getD (Q.getD k 0) 0=yb
     ·-- <<A
      obtain⟨h1,h2⟩:=hc;have e:cb=true:=by rw[HCb.out];exact decide_eq_true ⟨h1,h2⟩
      subst e;obtain⟨x,hx⟩:∃x,x=Q[k]:=⟨_,rfl⟩;have hqk:Q.getD k 0=x:=by rw[hx,List.getD_eq_getElem?_getD,List.getElem?_eq_getElem h1];rfl
      rw[hqk]at h2;have hxQ:x∈Q:=by rw[hx];exact List.getElem_mem _
      have hxV:=HQl.out x hxQ;have ck:w7.cell? ⟨g,k,none⟩=some (.int .i64 (x:Int)):=zoh HL7.out (by rw[HGet.out k (by have:=HK.out;omega),hx];exact List.getElem?_eq_getElem _);have ixk:=zdm g Q.length cap k h1;obtain⟨c0,c1,c2,_⟩:=HC.out w7 Hf7.out;obtain⟨ba,oa,v1,bb,ob,v2,e1,d1,n1,e2,d2,n2⟩:=HO.out x hxV;have f07:=HF1.out.trans Hf7.out (fun _ _ q=>q);have d1':=HF1.out.cell d1 (fun q=>q);have d2':=HF1.out.cell d2 (fun q=>q);clear d1 d2;have ixl:=ybs la LS.length lc x ba oa (by rw[HLl.out];exact hxV) e1;have ixr:=ybs ua RS.length uc x bb ob (by rw[HRl2.out];exact hxV) e2;have hgrp:=HQo.out.group HGI.out HLt.out hxQ (by rw[h2,HYb.out,HQ0.out]);have hup:=HQo.out.up x hxQ;obtain⟨L1,hL1⟩:∃L,L=(za6 V x).1:=⟨_,rfl⟩;obtain⟨L2,hL2⟩:∃L,L=(za6 V x).2:=⟨_,rfl⟩;have hll:L1.length<1000000000/\L2.length<1000000000:=by
       have hm:za6 V x∈V:=by unfold za6;rw[List.getD_eq_getElem?_getD,List.getElem?_eq_getElem hxV];exact List.getElem_mem _
       rw[hL1,hL2];exact HLen.out _ hm
      rw[←hL1]at n1 hgrp hup;rw[←hL2]at n2 hgrp hup;obtain⟨a1,c3,rfl,z1⟩:=id n1;obtain⟨a2,c4,rfl,z2⟩:=id n2;clear z1 z2;have n1:=n1.fr0 f07;have n2:=n2.fr0 f07;have HX:=Hh hx;have HXq:=Hh hxQ;have HXV:=Hh hxV;have HH2:=Hh h2;have HN1:=Hh n1;have HN2:=Hh n2;have HGr:=Hh hgrp;have HUp:=Hh hup;have HL1:=Hh hL1;have HL2:=Hh hL2;have HLL:=Hh hll;have HH1:=Hh h1;have HRank:=Hh (fun(W:World) (f:Fr NoM w7 W)=>HOS.out.rank.fr (HF7.out.trans f (fun _ _ q=>q)) (fun q=>q));have HN1':=Hh (fun(W:World) (f:Fr NoM w7 W)=>HN1.out.fr0 f);have HN2':=Hh (fun(W:World) (f:Fr NoM w7 W)=>HN2.out.fr0 f);have HSS:=Hh (fun(W:World) (f:Fr NoM w1 W)=>have c:=HC.out W f;(⟨c.1,c.2.1,c.2.2.1,f.cell d1' (fun q=>q),f.cell d2' (fun q=>q)⟩:W.cell? ⟨w.heap.size,0,none⟩=some (.pointer (some ⟨pb,0,none⟩))/\W.cell? ⟨pb,0,none⟩=some (.slice la LS.length lc)/\W.cell? ⟨pb,1,none⟩=some (.slice ua RS.length uc)/\W.cell? ⟨ba,oa+x,none⟩=some (.slice a1 L1.length c3)/\W.cell? ⟨bb,ob+x,none⟩=some (.slice a2 L2.length c4)));clear c0 c1 c2 d1' d2' hx hxQ hxV h2 n1 n2 hgrp hup hL1 hL2 hll e1 e2 f07 hqk;go_upto_region 12 with fail;have hGn:(Q.drop n).take (m+1)=G ++ [x]/\x ∉ G:=by
       have hk:=HK.out;subst hk;rw[HGd.out,HX.out];exact⟨zp8 HH1.out,ybc HQo.out.nodup HH1.out⟩
      have HGn:=Hh hGn;have HBd:=Hh (show(m+1)*56≤140737488355328 by have:=HK.out;have:=HH1.out;have:=HQn.out;omega);have HZb:=Hh (show zs≤w7.heap.size by rw[HZs.out];exact HF7.out.size);have F0:Fr NoM w7 w7.drew:=(Fr.refl NoM w7).drew;have J0:Fr NoM w1 w7.drew:=Hf7.out.drew;clear hGn;go_region_held3 (fun(W:World)=>W.cell? ⟨w.heap.size,0,none⟩=some (.pointer (some ⟨pb,0,none⟩))/\W.cell? ⟨pb,0,none⟩=some (.slice la LS.length lc)/\W.cell? ⟨pb,1,none⟩=some (.slice ua RS.length uc)/\W.cell? ⟨ba,oa+x,none⟩=some (.slice a1 L1.length c3)/\W.cell? ⟨bb,ob+x,none⟩=some (.slice a2 L2.length c4))
       (first|exact HSS.out _ (by assumption)|exact HSS.out _ (Fr.alloc (by assumption) _))
       (first
        | (go_at_call 149;(with_reducible refine(zmc (.slice a1 L1.length c3) L1 A rb _ (HN1'.out _ (by assumption)) (HRank.out _ (by assumption)) HGr.out.1 HUp.out.1 HLL.out.1).mono ?_);rintro e w8 ⟨g8,rfl,n8,lo8,hi8,f8,b8⟩;have F8:Fr NoM w7 w8:=Fr.trans (by assumption) f8 (fun _ _ q=>q);have J8:Fr NoM w1 w8:=Hf7.out.trans F8 (fun _ _ q=>q))
        | (go_at_call 149;(with_reducible refine(zmc (.slice a2 L2.length c4) L2 A rb _ (HN2'.out _ (by assumption)) (HRank.out _ (by assumption)) HGr.out.2 HUp.out.2 HLL.out.2).mono ?_);rintro e w9 ⟨g9,rfl,n9,lo9,hi9,f9,b9⟩;have F9:Fr NoM w7 w9:=Fr.trans (by assumption) f9 (fun _ _ q=>q);have J9:Fr NoM w1 w9:=Hf7.out.trans F9 (fun _ _ q=>q))
        | (refine zpc rfl (.tmp 64) (.tmp 86) 167 rfl zs 170 _ 3 56 Tryz.underlying167 zze rfl (by decide) (.slice (some ⟨gb,0,none⟩) m gc) m (zg5 lv rv G) rfl (by have h:=za3 HE7.out.row (F9.alloc (.cells #[.int .i64 (x:Int),.slice (some ⟨g8,0,none⟩) L1.length L1.length,.slice (some ⟨g9,0,none⟩) L2.length L2.length] 170)) (fun _ _ q=>q);rw[←HM.out]at h;exact h) w9.heap.size rfl [encN x,.slice (some ⟨g8,0,none⟩) L1.length L1.length,.slice (some ⟨g9,0,none⟩) L2.length L2.length] 170 (heap_alloc_new w9 _) rfl (by intro u hu;simp at hu;rcases hu with rfl|rfl|rfl <;> rfl) HBd.out (by decide) (by have:=HZb.out;have:=F9.size;simp;omega) ?_;intro v10 w10 h10 f10 b10;have J10:Fr NoM w1 w10:=(J9.alloc _).trans f10 (fun q hq e=>by have h1:=(HE7.out.row.lt q e).1;have h2:=HOS.out.fr.size;have h3:=HZs.out;omega))
        | fail)
      all_goals
       obtain⟨gb',gc',rfl,z3,z4⟩:=zbr h10 (Nat.succ_pos m);have H10:=Hh h10;have F10:=Hh f10;have B10:=Hh b10;have N8:=Hh n8;have N9:=Hh n9;have G8:=Hh f8;have G9:=Hh f9;have K8:=Hh F8;have K9:=Hh F9;have B8:=Hh b8;have B9:=Hh b9;have S8:=Hh (And.intro lo8 hi8);have S9:=Hh (And.intro lo9 hi9);clear h10 f10 b10 n8 n9 b8 b9 f8 f9 F8 F9 F0 J0 J8 J9 J10 z3 z4 lo8 hi8 lo9 hi9;have hq9:=HQn.out;go_wp2;go_roundw
       case rel =>
        have hrow:=HE7.out.row;have hE:=HE7.out;rw[HM.out]at hE;have hZ:=HZs.out;have hz7:=HF7.out.size;have s8:=S8.out;have s9:=S9.out;have k8:=K8.out.size;have k9:=K9.out.size;have g9s:=G9.out.size;have o8:∀q,(Value.slice (some ⟨g8,0,none⟩) L1.length L1.length).ownBlock=some q→zs≤q/\q<(w9.alloc (.cells #[.int .i64 (x:Int),.slice (some ⟨g8,0,none⟩) L1.length L1.length,.slice (some ⟨g9,0,none⟩) L2.length L2.length] 170)).heap.size/\(Value.slice (some ⟨gb,0,none⟩) G.length gc).ownBlock≠some q:=fun q hq=>by
         have e:g8=q:=Option.some.inj hq;subst e;have h1:w7.heap.size≤g8:=s8.1;have h2:=(hrow.lt gb rfl).2;exact⟨by omega,by simp;omega,fun e=>by have e:gb=g8:=Option.some.inj e;omega⟩
        have o9:∀q,(Value.slice (some ⟨g9,0,none⟩) L2.length L2.length).ownBlock=some q→zs≤q/\q<(w9.alloc (.cells #[.int .i64 (x:Int),.slice (some ⟨g8,0,none⟩) L1.length L1.length,.slice (some ⟨g9,0,none⟩) L2.length L2.length] 170)).heap.size/\(Value.slice (some ⟨gb,0,none⟩) G.length gc).ownBlock≠some q:=fun q hq=>by
         have e:g9=q:=Option.some.inj hq;subst e;have h1:w8.heap.size≤g9:=s9.1;have h2:=(hrow.lt gb rfl).2;exact⟨by omega,by simp;omega,fun e=>by have e:gb=g9:=Option.some.inj e;omega⟩
        have hfr9:=K9.out.alloc (.cells #[.int .i64 (x:Int),.slice (some ⟨g8,0,none⟩) L1.length L1.length,.slice (some ⟨g9,0,none⟩) L2.length L2.length] 170);refine⟨k+1,m+1,gb',gc',setV lv x (.slice (some ⟨g8,0,none⟩) L1.length L1.length),setV rv x (.slice (some ⟨g9,0,none⟩) L2.length L2.length),G ++ [x],rfl,by go_num,by have:=HK.out;omega,by have:=HH1.out;omega,by have:=HM.out;simp;omega,HGn.out.1.symm,fun z hz=>?_,?_,?_⟩
        ·rcases List.mem_append.1 hz with hz|hz
         ·exact HGb.out z hz
         ·rw[List.mem_singleton]at hz;subst hz;rw[HH2.out,HYb.out]
        ·have h10:=H10.out
         have f10:=F10.out;have b10:=B10.out;rw[HM.out]at h10 f10 b10 ⊢;have o89:∀q,(Value.slice (some ⟨g8,0,none⟩) L1.length L1.length).ownBlock=some q→(Value.slice (some ⟨g9,0,none⟩) L2.length L2.length).ownBlock≠some q:=fun q hq hq'=>by
          have e8:g8=q:=Option.some.inj hq;have e9:g9=q:=Option.some.inj hq';have h1:w8.heap.size≤g9:=s9.1;have h2:g8<w8.heap.size:=s8.2;omega
         have oge:∀q,(Value.slice (some ⟨g8,0,none⟩) L1.length L1.length).ownBlock=some q∨(Value.slice (some ⟨g9,0,none⟩) L2.length L2.length).ownBlock=some q→w7.heap.size≤q:=fun q hq=>by
          rcases hq with hq|hq
          ·have e8:g8=q:=Option.some.inj hq
           have h1:w7.heap.size≤g8:=s8.1;omega
          ·have e9:g9=q:=Option.some.inj hq
           have h1:w8.heap.size≤g9:=s9.1;omega
         have oth:∀q,(Value.slice (some ⟨g8,0,none⟩) L1.length L1.length).ownBlock=some q∨(Value.slice (some ⟨g9,0,none⟩) L2.length L2.length).ownBlock=some q→RowB (w9.alloc (.cells #[.int .i64 (x:Int),.slice (some ⟨g8,0,none⟩) L1.length L1.length,.slice (some ⟨g9,0,none⟩) L2.length L2.length] 170)) q:=fun q hq=>by
          rcases hq with hq|hq
          ·have e8:g8=q:=Option.some.inj hq
           subst e8;exact B8.out.fr (G9.out.alloc _) (fun q=>q)
          ·have e9:g9=q:=Option.some.inj hq
           subst e9;exact B9.out.fr ((Fr.refl NoM w9).alloc _) (fun q=>q)
         refine hE.snoc HGn.out.2 hfr9 o89 oge oth ⟨?_,o8⟩ ⟨?_,o9⟩ h10 f10 b10
         ·rw[show(zbq A (za6 V x)).1=zez A L1 from by rw[HL1.out];rfl]
          exact N8.out.fr0 (G9.out.alloc _)
         ·rw[show(zbq A (za6 V x)).2=zez A L2 from by rw[HL2.out];rfl]
          exact N9.out.fr0 ((Fr.refl NoM w9).alloc _)
        ·exact(HF7.out.trans hfr9 (fun _ _ q=>q)).trans F10.out (fun q hq e=>by have h1:=(hrow.lt q e).1;omega)
       case measure=>simp[intOf];have:=HH1.out;omega
      -- A>>
     ·have e:cb=false:=by rw[HCb.out];exact decide_eq_false hc
      subst e;have hm0:0<m:=by
       rcases Nat.eq_zero_or_pos m with h|h
       ·exfalso;apply hc
        have hk:k=n:=by have:=HK.out;omega
        rw[hk];exact⟨HLt.out,by rw[HQ0.out,HYb.out]⟩
       ·exact h
      have hend:n+m=Q.length∨BV.getD (Q.getD (n+m) 0) 0≠BV.getD (Q.getD n 0) 0:=by
       rcases Nat.lt_or_ge (n+m) Q.length with h|h
       ·right
        intro e;exact hc ⟨by have:=HK.out;omega,by rw[HK.out,e,HQ0.out,HYb.out]⟩
       ·left;have:=HK.out;have:=HKl.out;omega
      have HM0:=Hh hm0;have HEnd:=Hh hend;clear hm0 hend hc;go_wp2_with fail;have hs:=zxx G lv rv (fG V A G) w7 (by have h:=HE7.out.row;rw[HM.out]at h;exact h) (by have:=HM.out;have:=HK.out;have:=HKl.out;have:=HQn.out;omega)
       (fun i=>⟨(HE7.out.left i).1,fun q hq e=>((HE7.out.left i).2 q hq).2.2 (by rw[e];rfl)⟩) (fun i=>⟨(HE7.out.right i).1,fun q hq e=>((HE7.out.right i).2 q hq).2.2 (by rw[e];rfl)⟩)
      rw[←HM.out]at hs;refine hs.mono ?_
      clear hs;rintro e w8 ⟨rfl,G',hp,hsrt,h8,f8⟩;have hgl:G'.length=m:=by rw[hp.length_eq,←HM.out]
      rw[hgl]at h8;have hgb:=HE7.out.row.lt gb rfl;have hE8:ERow zs w8 (.slice (some ⟨gb,0,none⟩) m gc) G' lv rv (fG V A G):=by
       refine⟨by rw[hgl];exact h8,fun i=>⟨(HE7.out.left i).1.fr f8 (fun _ q hq e=>((HE7.out.left i).2 q hq).2.2 (by rw[e];rfl)),fun q hq=>⟨((HE7.out.left i).2 q hq).1,Nat.lt_of_lt_of_le ((HE7.out.left i).2 q hq).2.1 f8.size,((HE7.out.left i).2 q hq).2.2⟩⟩,
        fun i=>⟨(HE7.out.right i).1.fr f8 (fun _ q hq e=>((HE7.out.right i).2 q hq).2.2 (by rw[e];rfl)),fun q hq=>⟨((HE7.out.right i).2 q hq).1,Nat.lt_of_lt_of_le ((HE7.out.right i).2 q hq).2.1 f8.size,((HE7.out.right i).2 q hq).2.2⟩⟩,(zrg hp).nodup_iff.2 HE7.out.sep,fun i q hq=>(HE7.out.thaw i q hq).fr f8 (fun e=>by
        rcases hq with hq|hq
        ·exact((HE7.out.left i).2 q hq).2.2 (by rw[e];rfl)
        ·exact((HE7.out.right i).2 q hq).2.2 (by rw[e];rfl))⟩
      have hF8:Fr NoM wr w8:=HF7.out.trans f8 (fun q hq e=>by have:=HZs.out;omega);have hsr:G'.Pairwise fun a b=>zan (zbq A (za6 V b)) (zbq A (za6 V a))=false:=hsrt.imp_of_mem fun {a b} ha hb h=>by
       have e1:fG V A G a=zbq A (za6 V a):=if_pos ((hp.mem_iff).1 ha);have e2:fG V A G b=zbq A (za6 V b):=if_pos ((hp.mem_iff).1 hb);rw[e1,e2]at h;exact h
      have hnext:=HGI.out.step HQo.out HM0.out (by have:=HK.out;have:=HKl.out;omega) HGd.out (fun x hx=>by rw[HQ0.out];exact HGb.out x hx) HEnd.out hp hsr;have HNext:=Hh hnext;have HE8:=Hh hE8;have HF8:=Hh hF8;have HGl:=Hh hgl;have HP':=Hh hp;have HGbl:=Hh hgb;clear hnext hE8 hF8 hgl hp hgb hsr hsrt h8 f8;go_wp2_with fail;have hN0:=HOS.out.nodes;obtain⟨NV0,hn0⟩:=hN0;have hb0:∀q∈zas NV0,q<zs:=fun q hq=>by have h1:=(hn0.blk q hq).2.1;have h2:=HZs.out;omega
      have HN0:=Hh hn0;have HB0:=Hh hb0;clear hn0 hb0;go_loopw [8,92] (fun v0 i W=>∃(j:Nat) (nv':Value),nv'=v0/\i=.int .i64 j/\j≤m/\W.ownsRow w1.heap.size 3 1 (.slice (some ⟨g,0,none⟩) Q.length cap) Q.length ((A++G'.take j++(Q.drop n).drop j).map encN)/\MapF encN encN W rb (zkb (A++G'.take j)) ∧
       (∃NV,NodesN (rb+1) W nv' ((A.map fun x=>zbq A (za6 V x))++(G'.take j).map fun x=>zbq A (za6 V x)) NV/\∀q∈zas NV,q<zs∨q∈zc2 lv rv (G'.take j))/\(∀q,nv'.ownBlock=some q→nv.ownBlock=some q∨w8.heap.size≤q)/\Fr (fun q=>q=g∨q=rb∨nv.ownBlock=some q) w8 W) (fun _ i _=>m-(intOf i).toNat)
      case atStart =>
       refine⟨0,_,rfl,rfl,Nat.zero_le _,?_,?_,?_,fun q hq=>.inl hq,Fr.refl _ _⟩
       ·simpa using za3 HOS.out.list HF8.out (fun _ _ q=>q)
       ·simpa using HOS.out.rank.fr HF8.out (fun q=>q)
       ·exact⟨NV0,by simpa using HN0.out.fr HF8.out (fun _ _ _ q=>q),fun q hq=>.inl (HB0.out q hq)⟩
      case round =>
       obtain⟨w9,rfl⟩:∃w9,w9=wr:=⟨_,rfl⟩;obtain⟨j,nv',rfl,rfl,hj,hlist,hrank,hnodes,hnb,hfr⟩:=hrel;by_cases hj2:j<m
       ·have hjG:j<G'.length:=by rw[HGl.out];exact hj2
        obtain⟨x,hx⟩:∃x,x=G'[j]:=⟨_,rfl⟩;have hx2:G'[j]?=some x:=by rw[hx];exact List.getElem?_eq_getElem _
        have hgbl:=HGbl.out;have hE9:=HE8.out.fr hfr (fun q h1 h2 e=>by
         have hz:=HZs.out;have hgr:=HGrb.out;have hrb:=HRbr.out;rcases e with rfl|rfl|e
         ·omega
         ·omega
         ·have:=(HN0.out.row.lt q e).2;omega)
        obtain⟨d0,d1,d2⟩:=zvc (n:=m) (by have h:=hE9.row;rw[HGl.out]at h;exact h) HGl.out.symm hx2;obtain⟨xl,hxl⟩:∃v,v=lv x:=⟨_,rfl⟩;obtain⟨xr,hxr⟩:∃v,v=rv x:=⟨_,rfl⟩;have hel:Nats w9 (lv x) (fG V A G x).1/\∀q,(lv x).ownBlock=some q→zs≤q/\q<w8.heap.size:=⟨(hE9.left x).1,fun q hq=>⟨((HE8.out.left x).2 q hq).1,((HE8.out.left x).2 q hq).2.1⟩⟩;have her:Nats w9 (rv x) (fG V A G x).2/\∀q,(rv x).ownBlock=some q→zs≤q/\q<w8.heap.size:=⟨(hE9.right x).1,fun q hq=>⟨((HE8.out.right x).2 q hq).1,((HE8.out.right x).2 q hq).2.1⟩⟩;rw[←hxl]at d1 hel;rw[←hxr]at d2 her;have hfx:fG V A G x=zbq A (za6 V x):=if_pos ((HP'.out.mem_iff).1 (by rw[hx];exact List.getElem_mem _));rw[hfx]at hel her;obtain⟨a1,c1,rfl,z1⟩:=id hel.1;obtain⟨a2,c2,rfl,z2⟩:=id her.1;clear z1 z2;have ixe:=ye2 gb m gc j hj2;have HX:=Hh hx;have HX2:=Hh hx2;have HEl:=Hh hel;have HEr:=Hh her;have HLi:=Hh hlist;have HRk:=Hh hrank;have HNo:=Hh hnodes;have HNb:=Hh hnb;have HFr:=Hh hfr;have HE9:=Hh hE9;have HJ:=Hh hj;have HXl:=Hh hxl.symm;have HXr:=Hh hxr.symm;clear hx hx2 hxl hxr hel her hfx hlist hrank hnodes hnb hfr hE9 hgbl hj;go_upto_region 17 with fail;obtain⟨n1,hn1⟩:∃n1,n1=(zbq A (za6 V x)).1.length:=⟨_,rfl⟩;obtain⟨n2,hn2⟩:∃n2,n2=(zbq A (za6 V x)).2.length:=⟨_,rfl⟩;rw[←hn1,←hn2];obtain⟨w10,hw10⟩:∃w10,w10=w9.alloc (.cells #[.int .i64 (x:Int),.slice a1 n1 c1,.slice a2 n2 c2] 170):=⟨_,rfl⟩;have hf10:Fr NoM w9 w10:=by rw[hw10];exact(Fr.refl NoM w9).alloc _
        have hb10:w10.heap[w9.heap.size]?=some (.cells #[.int .i64 (x:Int),.slice a1 n1 c1,.slice a2 n2 c2] 170 (0,0)):=by rw[hw10];exact heap_alloc_new w9 _
        rw[←hw10];have hnj:n+j<Q.length:=by have:=HK.out;have:=HKl.out;omega
        have hq9:=HQn.out;have hcell:∀W:World,Fr (fun q=>q=g∨q=rb) w10 W→W.cell? ⟨w9.heap.size,0,none⟩=some (.int .i64 (x:Int))/\W.cell? ⟨w9.heap.size,1,none⟩=some (.slice a1 n1 c1)/\W.cell? ⟨w9.heap.size,2,none⟩=some (.slice a2 n2 c2):=fun W f=>by
         have hne:¬(w9.heap.size=g∨w9.heap.size=rb):=by
          have:=HGrb.out;have:=HRbr.out;have:=HF8.out.size;have:=HFr.out.size;omega
         have hb:=f.heap hb10 hne;exact⟨by rw[cell_of_row _ _ 0 _ _ _ hb];rfl,by rw[cell_of_row _ _ 1 _ _ _ hb];rfl,by rw[cell_of_row _ _ 2 _ _ _ hb];rfl⟩
        have HCell:=Hh hcell;have HF10:=Hh hf10;have HNj:=Hh hnj;have HN1:=Hh hn1;have HN2:=Hh hn2;have HHs:=Hh (show w10.heap.size=w9.heap.size+1 from by rw[hw10];simp);clear hb10 hw10 hcell hf10 hn1 hn2 d0 d1 d2 ixe;obtain⟨⟨u0,hu0⟩,hfz,hset⟩:=zyd (za3 HLi.out HF10.out (fun _ _ q=>q)) (n+j) x HNj.out;have ixs:∀W,(Instr.indexAt 82 (.slice (some ⟨g,0,none⟩) Q.length cap) (.int .i64 ((n:Int)+(j:Int)))).run Tryz.prog W=.ok (.pointer (some ⟨g,n+j,none⟩)) W:=fun W=>zdm g Q.length cap (n+j) HNj.out W
        obtain⟨e0,_,_⟩:=HCell.out w10 (Fr.refl _ _);have HSet:=Hh hset;clear hset;go_upto_region 18 with fail;obtain⟨w11,hw11⟩:∃w11,w11=w10.setCell ⟨g,n+j,none⟩ (.int .i64 (x:Int)):=⟨_,rfl⟩;have hf11:Fr (fun q=>q=g∨q=rb) w10 w11:=by rw[hw11];exact Fr.setCell (Fr.refl _ w10) _ _ (fun _=>.inl rfl)
        have hl11:w11.ownsRow w1.heap.size 3 1 (.slice (some ⟨g,0,none⟩) Q.length cap) Q.length (((A++G'.take j++(Q.drop n).drop j).set (n+j) x).map encN):=by rw[hw11];exact HSet.out
        have hr11:MapF encN encN w11 rb (zkb (A++G'.take j)):=by
         rw[hw11];exact(HRk.out.fr HF10.out (fun q=>q)).fr (Fr.setCell (Fr.refl (fun q=>q=g) w10) _ _ (fun _=>rfl)) (by have:=HGrb.out;omega)
        rw[←hw11];obtain⟨w12,hrun,hmap,hf12⟩:=MapF.store (P:=Tryz.prog) hr11 (KeyAt.nat Tryz.underlying3) Tryz.underlying128 x (n+j);have hrun:(Instr.mapUpdate 128 (.map (some rb)) (.int .i64 (x:Int)) (.int .i64 ((n:Int)+(j:Int)))).run Tryz.prog w11=.ok () w12:=hrun;have hF12:Fr (fun q=>q=g∨q=rb) w10 w12:=hf11.trans hf12 (fun q _ e=>.inr e);have hl12:=za3 hl11 hf12 (fun q hq e=>by have h1:g=q:=Option.some.inj hq;have e:q=rb:=e;have:=HGrb.out;omega);obtain⟨e1,_,_⟩:=HCell.out w11 hf11;obtain⟨_,e2,e3⟩:=HCell.out w12 hF12;have HF12:=Hh hF12;have HL12:=Hh hl12;have HMap:=Hh hmap;clear hf11 hl11 hr11 hw11 hf12 hF12 hl12 hmap hu0 hfz ixs e0;obtain⟨NV,hN,hNb⟩:=HNo.out;have hrow:=hN.row;have hnl:=hN.len;have HRow:=Hh hrow;have HNl:=Hh hnl;have HNN:=Hh hN;have HNB:=Hh hNb;have hnvl:NV.length=n+j:=by
         have h1:=HAl.out;have h2:=HGl.out;rw[hnl];simp;omega
        have HNvl:=Hh hnvl;have HB12:=Hh (show(NV.length+1)*48≤140737488355328 by omega);have hF90:Fr (fun q=>q=g∨q=rb) w9 w12:=((HF10.out.mono (fun _ _ q=>q.elim)).trans HF12.out (fun _ _ e=>e));have HF90:=Hh hF90;clear hrow hnl hN hNb hnvl hF90;go_wp2_with (at_builtin;refine zky rfl _ _ 24 rfl (rb+1) 85 _ 2 48 Tryz.underlying24 zc6 rfl (by decide) nv' NV.length (zb8 NV) rfl (by exact za3 HRow.out (HF90.out.alloc _) (fun q hq e=>by have h1:=(HRow.out.lt q hq).1;have:=HGrb.out;rcases e with e|e <;> omega)) w12.heap.size rfl [.slice a1 n1 c1,.slice a2 n2 c2] 85 (heap_alloc_new w12 _) rfl (by intro u hu;simp at hu;rcases hu with rfl|rfl <;> rfl) HB12.out (by decide) (by have:=HRbr.out;have:=HF8.out.size;have:=HFr.out.size;have:=HF90.out.size;simp;omega) ?_);intro v13 w13 h13 f13 b13;have H13:=Hh h13;have F13:=Hh f13;have B13:=Hh b13;clear h13 f13 b13 hrun e1 e2 e3;go_wp2;go_roundw
        case rel =>
         have hgr:=HGrb.out;have hzs:=HZs.out;have hs8:=HF8.out.size;have hs9:=HFr.out.size;have hsa:Fr (fun q=>q=g∨q=rb) w9 (w12.alloc (.cells #[.slice a1 n1 c1,.slice a2 n2 c2] 85)):=HF90.out.alloc _;have hNodes:=HNN.out.fr hsa (fun q h1 _ e=>by rcases e with e|e <;> omega);have hent:∀(u:Value) (L:List Nat),(Nats w9 u L/\∀q,u.ownBlock=some q→zs≤q/\q<w8.heap.size)→Nats (w12.alloc (.cells #[.slice a1 n1 c1,.slice a2 n2 c2] 85)) u L/\∀q,u.ownBlock=some q→rb+1≤q/\q<(w12.alloc (.cells #[.slice a1 n1 c1,.slice a2 n2 c2] 85)).heap.size/\nv'.ownBlock≠some q:=fun u L ⟨h1,h2⟩ =>
          ⟨h1.fr hsa (fun _ q hq e=>by have:=(h2 q hq).1;have:=HRbr.out;rcases e with e|e <;> omega),fun q hq=>by
           obtain⟨h3,h4⟩:=h2 q hq;have h5:=hsa.size;have h6:=HRbr.out;refine⟨by omega,by omega,fun e=>?_⟩;rcases HNb.out q e with h|h
           ·have:=(HN0.out.row.lt q h).2
            omega
           ·omega⟩
         have hx2:=HX2.out;have hjl:j<G'.length:=by rw[HGl.out];exact hj2
         have htk:G'.take (j+1)=G'.take j ++ [x]:=by rw[List.take_succ_eq_append_getElem hjl,HX.out]
         have hAG:(A++G'.take j).length=n+j:=by have:=HAl.out;simp;omega
         have hnx:x ∉ A++G'.take j:=by
          have hnd:(A++G').Nodup:=(HNext.out.perm.nodup_iff).2 ((List.take_sublist _ _).nodup HQo.out.nodup);rw[show A++G'=(A++G'.take j)++G'.drop j from by rw[List.append_assoc,List.take_append_drop],List.drop_eq_getElem_cons hjl,←HX.out,List.nodup_append]at hnd;intro h;exact hnd.2.2 x h x (List.mem_cons_self ..) rfl
         refine⟨j+1,v13,rfl,by go_num,by omega,?_,?_,?_,fun q hq=>?_,?_⟩
         ·have h1:=za3 (HL12.out.alloc (.cells #[.slice a1 n1 c1,.slice a2 n2 c2] 85)) F13.out (fun q hq e=>by
           have e1:g=q:=Option.some.inj hq;have:=(HRow.out.lt q e).1;omega)
          have e1:(A++G'.take j++(Q.drop n).drop j).set (n+j) x=A++G'.take (j+1)++(Q.drop n).drop (j+1):=by
           have hjd:j<(Q.drop n).length:=by simp;omega
           rw[List.drop_eq_getElem_cons hjd,List.set_append_right _ _ (by omega),hAG,Nat.sub_self,List.set_cons_zero,htk];simp
          rw[e1]at h1;exact h1
         ·have h1:=(HMap.out.fr ((Fr.refl NoM w12).alloc (.cells #[.slice a1 n1 c1,.slice a2 n2 c2] 85)) (fun q=>q)).fr F13.out (fun e=>by
           have:=(HRow.out.lt rb e).1;omega)
          rw[show n+j=(A++G'.take j).length from hAG.symm,zv8 _ _ hnx,List.append_assoc,←htk]at h1;exact h1
         ·rw[htk,List.map_append,List.map_cons,List.map_nil,←List.append_assoc]
          have hb13:v13.ownBlock=nv'.ownBlock∨∃b,v13.ownBlock=some b/\(w12.alloc (.cells #[.slice a1 n1 c1,.slice a2 n2 c2] 85)).heap.size≤b:=by
           rw[World.size_alloc];exact B13.out
          have HXL:=Hh (show lv x=.slice a1 n1 c1 from by rw[HN1.out];exact HXl.out);have HXR:=Hh (show rv x=.slice a2 n2 c2 from by rw[HN2.out];exact HXr.out);have hsp:(zc2 lv rv (G'.take j ++ [x])).Nodup:=by
           have h1:=HE8.out.sep;rw[←List.take_append_drop (j+1) G',htk,zdk,List.nodup_append]at h1;exact h1.1
          rw[zdk,zh9,List.nodup_append,HXL.out,HXR.out]at hsp;refine⟨_,NodesN.snoc (w:=w12.alloc (.cells #[.slice a1 n1 c1,.slice a2 n2 c2] 85)) (l:=.slice a1 n1 c1) (r:=.slice a2 n2 c2) (v:=nv') hNodes ?_ ?_ ?_ ?_ ?_ H13.out F13.out hb13,?_⟩
          ·have he:=hent _ _ HEl.out;rw[←HN1.out]at he;exact he
          ·have he:=hent _ _ HEr.out;rw[←HN2.out]at he;exact he
          ·intro q hq hq'
           have h1:=hsp.2.1;simp[List.filterMap_cons,hq,hq']at h1
          ·intro q hq
           have hno:q ∉ [Value.slice a1 n1 c1,Value.slice a2 n2 c2].filterMap Value.ownBlock:=fun hp=>by
            rcases HNB.out q hq with h|h
            ·rcases zgh hp with hp|hp
             ·have:=(HEl.out.2 q (by rw[←HN1.out];exact hp)).1;omega
             ·have:=(HEr.out.2 q (by rw[←HN2.out];exact hp)).1;omega
            ·exact hsp.2.2 q h q hp rfl
           exact⟨fun e=>hno (List.mem_filterMap.2 ⟨_,List.mem_cons_self ..,e⟩),fun e=>hno (List.mem_filterMap.2 ⟨_,List.mem_cons_of_mem _ (List.mem_cons_self ..),e⟩)⟩
          ·intro q hq
           have h1:=HE9.out.thaw x q (by rw[HXL.out,HXR.out];exact hq);refine h1.fr hsa (fun e=>?_);have h2:zs≤q:=by
            rcases hq with hq|hq
            ·exact(HEl.out.2 q (by rw[←HN1.out];exact hq)).1
            ·exact(HEr.out.2 q (by rw[←HN2.out];exact hq)).1
           have:=HRbr.out;rcases e with e|e <;> omega
          ·intro q hq
           rw[zdy,List.mem_append]at hq;rw[zdk,zh9,HXL.out,HXR.out];rcases hq with hq|hq
           ·rcases HNB.out q hq with h|h
            ·exact .inl h
            ·exact .inr (List.mem_append_left _ h)
           ·exact .inr (List.mem_append_right _ hq)
         ·rcases B13.out with h|⟨b,h,h2⟩
          ·rw[h]at hq;exact HNb.out q hq
          ·rw[h]at hq;cases hq
           right
           have:=HF90.out.size;omega
         ·refine(HFr.out.trans hsa (fun q _ e=>?_)).trans F13.out (fun q hq e=>?_)
          ·rcases e with e|e
           ·exact .inl e
           ·exact .inr (.inl e)
          ·rcases HNb.out q e with h|h
           ·exact .inr (.inr h)
           ·omega
        case measure=>simp[intOf];omega
       ·have hjm:j=m:=by omega
        subst hjm;rw[show G'.take j=G' from by rw[←HGl.out,List.take_length]]at hlist hrank hnodes;rw[List.drop_drop]at hlist;have HLi:=Hh hlist;have HRk:=Hh hrank;have HNo:=Hh hnodes;have HFr:=Hh hfr;clear hlist hrank hnodes hnb hfr hj2 hj;have hkn:=HK.out;have hkl:=HKl.out;have hq9:=HQn.out;clear HK HKl;go_wp2;go_roundw
        case rel =>
         have hgr:=HGrb.out;have hsz:=HF8.out.size;have hs9:=HFr.out.size;have hrb:=HRbr.out;have hg1:=HG1.out;refine⟨n+j,_,A++G',rfl,by go_num,HNext.out,⟨HLi.out,HRk.out,?_,?_⟩,by omega⟩
         ·have hn:=HNo.out
          rw[List.map_append];have e1:(A.map fun x=>zbq (A++G') (za6 V x))=A.map fun x=>zbq A (za6 V x):=List.map_congr_left fun x hx=>zck (HQo.out.closed HGI.out hx).1 (HQo.out.closed HGI.out hx).2
          have e2:(G'.map fun x=>zbq (A++G') (za6 V x))=G'.map fun x=>zbq A (za6 V x):=List.map_congr_left fun x hx=>by
           have hxG:=(HP'.out.mem_iff).1 hx;have hxQ:x∈Q:=by rw[HGd.out]at hxG;exact List.mem_of_mem_drop (List.mem_of_mem_take hxG)
           have hg:=HQo.out.group HGI.out HLt.out hxQ (by rw[HQ0.out];exact HGb.out x hxG);exact zck hg.1 hg.2
          rw[e1,e2];obtain⟨NVf,hnf,_⟩:=hn;exact⟨NVf,hnf⟩
         ·refine(HOS.out.fr.trans HF8.out (fun _ _ q=>q)).trans HFr.out (fun q hq e=>?_)
          rcases e with e|e|e
          ·omega
          ·omega
          ·have:=(HN0.out.row.lt q e).1
           omega
        case measure=>simp[intOf];have:=HM0.out;omega
  ·have hnl:=HGI.out.le
   have hnq:n=Q.length:=by omega
   subst hnq;clear hlt hnl;go_wp2;go_ret2;have hl:=HOS.out.list;have hal:A.length=Q.length:=by have:=HGI.out.perm.length_eq;simpa using this
   rw[List.drop_length,List.append_nil]at hl;refine⟨_,_,A,_,rfl,HGI.out.order HQo.out.nodup HMem.out,?_,HOS.out.nodes.base (by have:=HGrb.out;omega),HF1.out.trans HOS.out.fr (fun _ _ q=>q)⟩;rw[hal];exact zb3 hl HF1.out.size
def PostF (V:List PL)(BV:List Nat)(r:Nat)(w:World)(e:Ending)(w':World):Prop :=
 ∃(nv:Value) (ok:Bool) (FN:List PL),e=.returned (.tuple #[.agg #[nv],.bool ok])/\FormRes V BV r ok FN/\NodesS w.heap.size w' nv FN/\Fr NoM w w'
theorem PostF.mk {V:List PL}{BV:List Nat}{r:Nat}{w:World}{e:Ending}{w':World}(nv:Value)(ok:Bool)(FN:List PL)(h1:e=.returned (.tuple #[.agg #[nv],.bool ok]))(h2:FormRes V BV r ok FN)(h3:NodesS w.heap.size w' nv FN)(h4:Fr NoM w w'):PostF V BV r w e w':=⟨nv,ok,FN,h1,h2,h3,h4⟩
set_option maxHeartbeats 4000000 in
theorem zva {M I:Nat→Prop}(pb r:Nat)(V:List PL)(BV:List Nat)(mo mc ms mn:Value)(w:World)(hP:PoolS M I w pb V BV mo mc ms mn)(hOK:PoolOK V BV)(hr:r<V.length)(hn:V.length<1000000000) :
  Calls Tryz.prog 60 #[.pointer (some ⟨pb,0,none⟩),.int .i64 (r:Int)] w fun e w'=>PostF V BV r w e w':=by
 have hr1:∀x∈[r],x<V.length:=fun x hx=>by rw[List.mem_singleton]at hx;subst hx;exact hr
 have HP:=Hh hP;have HOK:=Hh hOK;have Hr:=Hh hr;have Hn:=Hh hn;have HR1:=Hh hr1;clear hP hOK hr hn hr1;go_enter Tryz.func60,Tryz.ntmps60;go_wp2_with fail;obtain⟨w1,hw1⟩:∃w1,w1=(w.alloc (.cells #[.slice none 0 0] 26)).alloc (.cells #[.int .i64 (r:Int)] 3):=⟨_,rfl⟩;have hf1:Fr NoM w w1:=by rw[hw1];exact((Fr.refl NoM w).alloc _).alloc _
 have hb1:w1.heap[w.heap.size]?=some (.cells #[.slice none 0 0] 26 (0,0)):=by
  rw[hw1];exact((Fr.refl NoM (w.alloc (.cells #[.slice none 0 0] 26))).alloc _).heap (heap_alloc_new w _) (fun q=>q)
 have hn1:Nats w1 (.slice (some ⟨w.heap.size+1,0,none⟩) 1 1) [r]:=by
  have h:=SliceOf.one encN (w.alloc (.cells #[.slice none 0 0] 26)) r 3;rw[World.size_alloc]at h;rw[hw1];exact h
 rw[←hw1];have HF1:=Hh hf1;have HB1:=Hh hb1;have HN1:=Hh hn1;clear hf1 hb1 hn1 hw1;refine(zmd pb V BV [r] mo mc ms mn _ w1 (HP.out.fr0 HF1.out) HN1.out HR1.out (fun j y hy=>HOK.out.opts' j y hy) (by simp) Hn.out (HOK.out.lens Hn.out)).mono ?_
 rintro e w2 ⟨g,cap,Q0,rfl,h2,hnd,hmem,f2⟩;have HK:=Hh (fun(W:World) (f:Fr NoM w1 W)=>show W.cell? ⟨w.heap.size,0,none⟩=some (.slice none 0 0)/\W.frozen? ⟨w.heap.size,0,none⟩=false from by
  have hb:=f.heap HB1.out (fun q=>q);exact⟨by rw[cell_of_row W _ 0 _ _ _ hb];rfl,by simp[World.frozen?,hb]⟩)
 obtain⟨n0,hn0⟩:∃n0,n0=Q0.length:=⟨_,rfl⟩;rw[←hn0];have HND:=Hh hnd;have HMem:=Hh hmem;have F2:=Hh f2;have HN0:=Hh hn0;clear h2 hnd hmem f2 hn0;by_cases hbig:120<n0
 ·obtain⟨k2,z2⟩:=HK.out w2 F2.out
  go_wp2;refine bodyPost_ret (v:=.tuple #[.agg #[.slice none 0 0],.bool false]) (by simp[results,Tryz.results60,go_sem,k2]) rfl ?_
  exact PostF.mk _ false [] rfl (.inl ⟨rfl,rfl,Q0,HND.out,HMem.out,by rw[←HN0.out];exact hbig⟩) (NodesS.nil _ _) ((HF1.out.trans F2.out (fun _ _ q=>q)).setCell ⟨w.heap.size,0,none⟩ _ (fun h=>absurd h (Nat.lt_irrefl _)))
 ·go_wp2_with fail
  obtain⟨w3,hw3⟩:∃w3,w3=w2.alloc (.cells #[.int .i64 (r:Int)] 3):=⟨_,rfl⟩;have hf3:Fr NoM w2 w3:=by rw[hw3];exact(Fr.refl NoM w2).alloc _
  have hn3:Nats w3 (.slice (some ⟨w2.heap.size,0,none⟩) 1 1) [r]:=by rw[hw3];exact SliceOf.one encN w2 r 3
  rw[←hw3];have HF3:=Hh (F2.out.trans hf3 (fun _ _ q=>q));have HN3:=Hh hn3;clear hf3 hn3 hw3;have hf03:=HF1.out.trans HF3.out (fun _ _ q=>q);refine(zye pb V BV [r] mo mc ms mn _ w3 (HP.out.fr0 hf03) HN3.out HR1.out (by have:=Hr.out;omega) (fun j y hy=>HOK.out.opts' j y hy) (by simp) Hn.out (HOK.out.lens Hn.out) (fun Q h1 h2 h3=>HOK.out.qok HR1.out h1 h2 h3)).mono ?_
  clear hf03;rintro e w4 ⟨lv,nv,Q,FN,rfl,hO,hQ4,hS,f4⟩;have hql:Q.length=n0:=by
   rw[HN0.out];exact Nat.le_antisymm (hO.nodup.length_le_of_subset fun x hx=>(HMem.out x).2 ((hO.mem x).1 hx)) (HND.out.length_le_of_subset fun x hx=>(hO.mem x).2 ((HMem.out x).1 hx))
  have hfl:FN.length=Q.length:=by rw[hO.nodes];simp
  have hq1:1≤Q.length:=List.length_pos_of_mem ((hO.mem r).2 (.root (by simp)));obtain⟨NV,hN⟩:=hS;obtain⟨a,c,rfl,_,_,h6⟩:=Pairs.of_owns hN.row;have hnl:=hN.len;rw[hnl]at hN ⊢;have HRd:=Hh (fun(j:Nat) (hj:j<FN.length) (W:World) (f:Fr NoM w4 W)=>show ∃b off al cl ar cr y,FN[j]?=some y/\a=some ⟨b,off,none⟩/\W.cell? ⟨b,off+j*2,none⟩=some (.slice al y.1.length cl)/\W.cell? ⟨b,off+j*2+1,none⟩=some (.slice ar y.2.length cr)from by
   obtain⟨y,hy⟩:∃y,FN[j]?=some y:=⟨_,List.getElem?_eq_getElem hj⟩;obtain⟨⟨xl,xr⟩,hx⟩:∃x,NV[j]?=some x:=⟨NV[j]'(by rw[hnl];exact hj),List.getElem?_eq_getElem _⟩;obtain⟨b,off,ha,c1,c2⟩:=h6 j _ hx;obtain⟨s1,s2⟩:=hN.nats j _ _ hx hy;obtain⟨al,cl,rfl,_⟩:=s1;obtain⟨ar,cr,rfl,_⟩:=s2;exact⟨b,off,al,cl,ar,cr,y,hy,ha,f.cell c1 (fun q=>q),f.cell c2 (fun q=>q)⟩)
  have HO:=Hh hO;have HN:=Hh hN;have F4:=Hh f4;have HQl:=Hh hql;have HFl:=Hh hfl;have HQ1:=Hh hq1;have HW3:=Hh (show w.heap.size+1≤w3.heap.size from by
   have h1:=HF3.out.size;have h2:w.heap.size<w1.heap.size:=(Array.getElem?_eq_some_iff.1 HB1.out).1;omega)
  have hF4:Fr NoM w1 w4:=HF3.out.trans f4 (fun _ _ q=>q);have HF4:=Hh hF4;have hflb:FN.length<1000000000:=by omega
  clear hO hQ4 hN f4 hql hfl hq1 h6 hnl hF4;go_wp2_with fail;go_loopw [26] (fun i W=>∃j:Nat,i=.int .i64 j/\j≤FN.length/\(∀(k:Nat) (y:PL),k<j→FN[k]?=some y→y.1.length≤24/\y.2.length≤24)/\Fr NoM w4 W) (fun i _=>FN.length-(intOf i).toNat)
  case atStart=>exact⟨0,rfl,Nat.zero_le _,by intros;omega,Fr.refl _ _⟩
  case round =>
   obtain⟨j,rfl,hj,hall,hf⟩:=hrel;obtain⟨w7,rfl⟩:∃w7,w7=wr:=⟨_,rfl⟩;have HAll:=Hh hall;have HF:=Hh hf;clear hall hf;by_cases hlt:j<FN.length
   ·obtain⟨b,off,al,cl,ar,cr,y,hy,ha,c1,c2⟩:=HRd.out j hlt w7 HF.out
    subst ha;have ix:=zbe (some ⟨b,off,none⟩) FN.length c j b off hlt rfl;obtain⟨n1,hn1⟩:∃n1,n1=y.1.length:=⟨_,rfl⟩;obtain⟨n2,hn2⟩:∃n2,n2=y.2.length:=⟨_,rfl⟩;rw[←hn1]at c1;rw[←hn2]at c2;have HY:=Hh hy;have HN1':=Hh hn1;have HN2':=Hh hn2;clear hy hn1 hn2;have HNext:=Hh (fun(h1:n1≤24) (h2:n2≤24)=>show ∀(k:Nat) (y:PL),k<j+1→FN[k]?=some y→y.1.length≤24/\y.2.length≤24 from fun k z hk hz=>by
     by_cases e:k=j
     ·subst e
      have e:=HY.out.symm.trans hz;cases e
      rw[←HN1'.out,←HN2'.out];exact⟨h1,h2⟩
     ·exact HAll.out k z (by omega) hz)
    have HBad:=Hh (fun(h:24<n1∨24<n2) (W:World) (f:Fr NoM w W)=>show PostF V BV r w (Ending.returned (.tuple #[.agg #[.slice none 0 0],.bool false])) W from
     PostF.mk _ false [] rfl (.inr ⟨Q,FN,HO.out,by have:=HQl.out;omega,(yc2 HY.out (by rw[←HN1'.out,←HN2'.out];exact h)).symm,rfl⟩) (NodesS.nil _ _) f)
    go_upto_region 7 with fail;obtain⟨w8,hw8⟩:∃w8,w8=w7.alloc (.cells #[.slice al n1 cl,.slice ar n2 cr] 85):=⟨_,rfl⟩;have hf8:Fr NoM w4 w8:=by rw[hw8];exact HF.out.alloc _
    have hb8:w8.heap[w7.heap.size]?=some (.cells #[.slice al n1 cl,.slice ar n2 cr] 85 (0,0)):=by rw[hw8];exact heap_alloc_new w7 _
    have d1:w8.cell? ⟨w7.heap.size,0,none⟩=some (.slice al n1 cl):=by rw[cell_of_row w8 _ 0 _ _ _ hb8];rfl
    have d2:w8.cell? ⟨w7.heap.size,1,none⟩=some (.slice ar n2 cr):=by rw[cell_of_row w8 _ 1 _ _ _ hb8];rfl
    rw[←hw8];obtain⟨k8,z8⟩:=HK.out w8 (HF4.out.trans hf8 (fun _ _ q=>q));have HF8:=Hh hf8;clear hf8 hb8 hw8 c1 c2 ix;by_cases h1:24<n1
    ·go_wp2
     refine bodyPost_ret (v:=.tuple #[.agg #[.slice none 0 0],.bool false]) (by simp[results,Tryz.results60,go_sem,k8]) rfl ?_
     exact HBad.out (.inl h1) _ (((HF1.out.trans HF4.out (fun _ _ q=>q)).trans HF8.out (fun _ _ q=>q)).setCell ⟨w.heap.size,0,none⟩ _ (fun h=>absurd h (Nat.lt_irrefl _)))
    ·by_cases h2:24<n2
     ·go_wp2
      refine bodyPost_ret (v:=.tuple #[.agg #[.slice none 0 0],.bool false]) (by simp[results,Tryz.results60,go_sem,k8]) rfl ?_
      exact HBad.out (.inr h2) _ (((HF1.out.trans HF4.out (fun _ _ q=>q)).trans HF8.out (fun _ _ q=>q)).setCell ⟨w.heap.size,0,none⟩ _ (fun h=>absurd h (Nat.lt_irrefl _)))
     ·clear k8 z8
      go_wp2;go_roundw
      case rel=>exact⟨j+1,by go_num,by omega,HNext.out (by omega) (by omega),HF8.out⟩
      case measure=>simp[intOf];omega
   ·have hje:j=FN.length:=by omega
    obtain⟨k7,z7⟩:=HK.out w7 (HF4.out.trans HF.out (fun _ _ q=>q));have hfit:zam FN=true:=zzs (by have:=HFl.out;have:=HQl.out;omega) (by have:=HFl.out;have:=HQ1.out;omega) (fun k y hy=>HAll.out k y (by rw[hje];exact(List.getElem?_eq_some_iff.1 hy).1) hy);have HFit:=Hh hfit;clear hje hfit;go_wp2;refine bodyPost_ret (v:=.tuple #[.agg #[.slice a FN.length c],.bool true]) (by simp[results,Tryz.results60,go_sem,k7]) rfl ?_
    refine PostF.mk _ true FN rfl (.inr ⟨Q,FN,HO.out,by have:=HQl.out;omega,HFit.out.symm,rfl⟩) ?_ (((HF1.out.trans HF4.out (fun _ _ q=>q)).trans HF.out (fun _ _ q=>q)).setCell ⟨w.heap.size,0,none⟩ _ (fun h=>absurd h (Nat.lt_irrefl _)))
    have hS:NodesS w3.heap.size w7 (.slice a FN.length c) FN:=⟨NV,HN.out.fr HF.out (fun _ _ _ q=>q)⟩;have hlow:=HW3.out;exact(hS.fr (Fr.set w7 ⟨w.heap.size,0,none⟩ (.slice a FN.length c)) (fun q hq _ e=>by have e:q=w.heap.size:=e;omega)).base (by omega)
theorem zhh {M I:Nat→Prop}(pb r:Nat)(V:List PL)(BV:List Nat)(mo mc ms mn:Value)(w:World)(hP:PoolS M I w pb V BV mo mc ms mn)(hOK:PoolOK V BV)(hr:r<V.length)(hn:V.length<1000000000) :
  Calls Tryz.prog 60 #[.pointer (some ⟨pb,0,none⟩),.int .i64 (r:Int)] w fun e w'=>∃(nv:Value) (ok:Bool) (FN:List PL),e=.returned (.tuple #[.agg #[nv],.bool ok])/\FormRes V BV r ok FN/\NodesS w.heap.size w' nv FN/\Fr NoM w w' :=
 (zva pb r V BV mo mc ms mn w hP hOK hr hn).mono fun _ _ h=>h
end Go.Proofs.YtghekfmfonoocaaGreatDoor
