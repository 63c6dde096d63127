import Derived.Test.YtkofnbjjbcohgaaGreatDoorZw7
import Derived.Test.YtkofnbjjbcohgaaGreatDoorShelfG
/- Lemmas. -/
namespace Go.Proofs.YtkofnbjjbcohgaaGreatDoor
set_option linter.unusedVariables false
set_option linter.unusedSimpArgs false
open Go.RowKit
def zn8 (Q:List Nat)(x:Nat):Option Bool:=if x∈Q then some true else none
theorem zii (Q:List Nat)(x:Nat):upd (zn8 Q) x true=zn8 (Q ++ [x]):=by
 funext y
 unfold upd zn8;by_cases h:y=x
 ·subst h;simp
 ·simp[h]
theorem zvf (a:Option Addr)(n c k b off:Nat)(hk:k<n)(ha:a=some ⟨b,off,none⟩)(w:World) :
  (Instr.indexAt 68 (.slice a n c) (.int .i64 (k:Int))).run Tryz.prog w=.ok (.pointer (some ⟨b,off+k,none⟩)) w:=by
 subst ha;go_simp
theorem zs5 (a b:Option Addr)(n c m d:Nat)(W:World):(Instr.index 94 (.agg #[.slice a n c,.slice b m d]) (.int .i64 0)).run Tryz.prog W=.ok (.slice a n c) W:=by
 simp[Instr.index,asIntOf,run_underlying Tryz.underlying94,part,Tryz.sizeOf42]
theorem zs4 (a b:Option Addr)(n c m d:Nat)(W:World):(Instr.index 94 (.agg #[.slice a n c,.slice b m d]) (.int .i64 1)).run Tryz.prog W=.ok (.slice b m d) W:=by
 simp[Instr.index,asIntOf,run_underlying Tryz.underlying94,part,Tryz.sizeOf42]
structure PInv (V:List PL) (R Q:List Nat):Prop where
 nodup:Q.Nodup
 reach:∀x∈Q,ReachV V R x
theorem PInv.add {V:List PL}{R Q:List Nat}{x:Nat}(h:PInv V R Q)(hx:ReachV V R x)(hn:x ∉ Q):PInv V R (Q ++ [x]) :=
 ⟨List.nodup_append.2 ⟨h.nodup,by simp,fun a ha b hb e=>by simp at hb;subst hb;subst e;exact hn ha⟩,fun y hy=>by
  rw[List.mem_append,List.mem_singleton]at hy;rcases hy with hy|rfl
  ·exact h.reach y hy
  ·exact hx⟩
theorem PInv.len {V:List PL}{R Q:List Nat}(h:PInv V R Q)(hR:∀x∈R,x<V.length)(hopt:∀(j:Nat) (y:PL),V[j]?=some y→(∀i∈y.1,i<V.length)/\∀i∈y.2,i<V.length):(∀x∈Q,x<V.length)/\Q.length≤V.length:=by
 have hlt:∀x,ReachV V R x→x<V.length:=fun x hx=>by
  induction hx with
  | root hx=>exact hR _ hx
  | @left x y _ hy ih =>
   rw[List.getD_eq_getElem?_getD,List.getElem?_eq_getElem ih]at hy;exact(hopt x _ (List.getElem?_eq_getElem ih)).1 y hy
  | @right x y _ hy ih =>
   rw[List.getD_eq_getElem?_getD,List.getElem?_eq_getElem ih]at hy;exact(hopt x _ (List.getElem?_eq_getElem ih)).2 y hy
 have h1:∀x∈Q,x<V.length:=fun x hx=>hlt x (h.reach x hx)
 refine⟨h1,?_⟩;have:=h.nodup.length_le_of_subset (l₂:=List.range V.length) (fun x hx=>List.mem_range.2 (h1 x hx));simpa using this
structure Seen (w0 w:World) (v:Value) (Q:List Nat):Prop where
 row:w.ownsRow (w0.heap.size+1) 3 1 v Q.length (Q.map encN)
 seen:MapF encN encB w w0.heap.size (zn8 Q)
 fr:Fr NoM w0 w
theorem Seen.look {w0 w:World}{v:Value}{Q:List Nat}(h:Seen w0 w v Q)(x:Nat):(Instr.lookup 93 (.map (some w0.heap.size)) (.int .i64 (x:Int)) false).run Tryz.prog w=.ok (.bool (decide (x∈Q))) w:=by
 have:=MapF.look (P:=Tryz.prog) h.seen (KeyAt.nat Tryz.underlying3) Tryz.underlying93 (Tryz.zeroValue4 _) x false;simp only[Bool.false_eq_true,if_false]at this
 rw[show(.int .i64 (x:Int):Value)=encN x from rfl,this];unfold zn8;by_cases hx:x∈Q <;> simp[hx,encB]
set_option maxRecDepth 4000 in
set_option maxHeartbeats 8000000 in
theorem zm3 {M I:Nat→Prop}(pb:Nat)(V:List PL)(BV R:List Nat)(mo mc ms mn rv:Value)(w:World)(hP:PoolS M I w pb V BV mo mc ms mn)(hR:Nats w rv R)(hRt:∀x∈R,x<V.length)
  (hopt:∀(j:Nat) (y:PL),V[j]?=some y→(∀i∈y.1,i<V.length)/\∀i∈y.2,i<V.length) (hrl:R.length<1000000000) (hn:V.length<1000000000) (hlen:∀y∈V,y.1.length<1000000000/\y.2.length<1000000000) :
  Calls Tryz.prog 33 #[.pointer (some ⟨pb,0,none⟩),rv] w fun e w'=>∃(g cap:Nat) (Q:List Nat),e=.returned (.slice (some ⟨g,0,none⟩) Q.length cap)/\w'.ownsRow w.heap.size 3 1 (.slice (some ⟨g,0,none⟩) Q.length cap) Q.length (Q.map encN)/\Q.Nodup/\(∀x,x∈Q↔ReachV V R x)/\Fr NoM w w':=by
 obtain⟨ra,rc,rfl,hrc,hrcm,hrcell⟩:=id hR;have HP:=Hh hP;have HRc:=Hh hrcell;have HRt:=Hh hRt;have Hopt:=Hh hopt;have Hn:=Hh hn;have HLen:=Hh hlen;have hmm:∀(t:TypeId) (w:World),(Instr.makeMap t none).run Tryz.prog w=.ok (.map (some w.heap.size)) (w.alloc (.map #[] 0)):=fun t w=>run_makeMap t w
 clear hP hR hrcell hRt hopt hlen;go_enter Tryz.func33,Tryz.ntmps33;go_wp2;obtain⟨w1,hw1⟩:∃w1,w1=(w.alloc (.map #[] 0)).alloc (.cells #[] 3):=⟨_,rfl⟩;have hs1:Seen w w1 (.slice (some ⟨w.heap.size+1,0,none⟩) 0 0) []:=by
  refine⟨?_,?_,by rw[hw1];exact((Fr.refl NoM w).alloc _).alloc _⟩
  ·have h:=World.ownsRow_made (base:=w.heap.size+1) (e:=3) (size:=1) (w.alloc (.map #[] 0)) #[] 0 (by simp) (by decide) (by simp)
   simp only[World.size_alloc]at h;rw[hw1];exact h
  ·rw[hw1]
   have h:=(MapF.made encN encB w).fr ((Fr.refl NoM _).alloc (.cells #[] 3)) (fun q=>q);rwa [show zn8 []=fun _=>none from funext fun x=>by simp[zn8]]
 rw[←hw1];have HS1:=Hh hs1;clear hs1 hw1 hmm;go_loopw [6,18] (fun v0 i W=>∃(k:Nat) (v:Value) (Q:List Nat),v=v0/\i=.int .i64 k/\k≤R.length/\Seen w W v Q/\PInv V R Q/\(∃g cap,v=.slice (some ⟨g,0,none⟩) Q.length cap)/\∀x∈R.take k,x∈Q) (fun _ i _=>R.length-(intOf i).toNat)
 case atStart=>exact⟨0,_,[],rfl,rfl,Nat.zero_le _,HS1.out,⟨by simp,by simp⟩,⟨_,_,rfl⟩,by simp⟩
 case round =>
  obtain⟨k,v,Q,rfl,rfl,hk,hS,hI,⟨g,cap,hv⟩,hsub⟩:=hrel;subst hv;by_cases hlt:k<R.length
  ·obtain⟨b1,o1,ha,d1⟩:=HRc.out k R[k] (List.getElem?_eq_getElem _)
   have c1:wr.cell? ⟨b1,o1+k,none⟩=some (.int .i64 (R[k]:Int)):=hS.fr.cell d1 (fun q=>q);have ix:=zaa ra R.length rc k b1 o1 hlt ha;have hlook:=hS.look R[k];have hreach:ReachV V R R[k]:=.root (List.getElem_mem _);have hnext:∀Q':List Nat,(∀x∈Q,x∈Q')→R[k]∈Q'→∀x∈R.take (k+1),x∈Q':=fun Q' h1 h2 x hx=>by
    rw[List.take_succ_eq_append_getElem hlt,List.mem_append,List.mem_singleton]at hx;rcases hx with hx|rfl
    ·exact h1 x (hsub x hx)
    ·exact h2
   have HS:=Hh hS;have HI:=Hh hI;have HRe:=Hh hreach;have HNx:=Hh hnext;clear hS hI hsub hreach hnext ha d1;by_cases hx:R[k]∈Q
   ·rw[decide_eq_true hx]at hlook
    have HX:=Hh hx;clear hx;go_wp2;go_roundw
    case rel=>exact⟨k+1,_,Q,rfl,by go_num,by omega,HS.out,HI.out,⟨_,_,rfl⟩,HNx.out Q (fun _ h=>h) HX.out⟩
    case measure=>simp[intOf];omega
   ·rw[decide_eq_false hx]at hlook
    have HX:=Hh hx;clear hx;obtain⟨hlV,hlQ⟩:=HI.out.len HRt.out Hopt.out;obtain⟨w6,hrun,hmap6,hf6⟩:=MapF.store (P:=Tryz.prog) (w:=wr) HS.out.seen (KeyAt.nat Tryz.underlying3) Tryz.underlying93 R[k] true;have hrun:(Instr.mapUpdate 93 (.map (some w.heap.size)) (.int .i64 (R[k]:Int)) (.bool true)).run Tryz.prog wr=.ok () w6:=hrun;rw[zii]at hmap6;have hr6:=za2 HS.out.row hf6 (fun q hq e=>by have:=(HS.out.row.lt q hq).1;omega);have HMap6:=Hh hmap6;have HF6:=Hh hf6;have HR6:=Hh hr6;have hQ9:Q.length<1000000000:=by omega
    clear hmap6 hf6 hr6 hlV hlQ;go_wp2_with (at_builtin;refine zc1 w6 rfl _ _ 42 rfl (w.heap.size+1) 3 (.int .i64 0) 8 Tryz.underlying42 za8 rfl (.slice (some ⟨g,0,none⟩) Q.length cap) Q.length (Q.map encN) rfl HR6.out (encN R[k]) rfl rfl ?c1 (by decide) ?c2 ?_)
    case c1=>omega
    case c2=>have:=(HR6.out.lt g rfl);omega
    intro v7 w7 h7 f7 _;obtain⟨g7,p7,hv7,_,_⟩:=zbg h7 (Nat.succ_pos _);have hs7:Seen w w7 v7 (Q ++ [R[k]]):=by
     refine⟨by rw[List.length_append,List.map_append];exact h7,HMap6.out.fr f7 (fun e=>by have:=(HR6.out.lt _ e).1;omega),?_⟩;refine(HS.out.fr.trans HF6.out (fun q hq e=>by omega)).trans f7 (fun q hq e=>by have:=(HR6.out.lt q e).1;omega)
    have hv7':v7=.slice (some ⟨g7,0,none⟩) (Q ++ [R[k]]).length p7:=by rw[List.length_append];exact hv7
    have HS7:=Hh hs7;have HV7:=Hh hv7';clear h7 f7 hs7 hv7 hv7' hrun;go_wp2;go_roundw
    case rel=>exact⟨k+1,_,Q ++ [R[k]],rfl,by go_num,by omega,HS7.out,HI.out.add HRe.out HX.out,⟨_,_,HV7.out⟩,HNx.out _ (fun _ h=>List.mem_append_left _ h) (by simp)⟩
    case measure=>simp[intOf];omega
  ·have hk':k=R.length:=by omega
   subst hk';rw[List.take_length]at hsub;have HS:=Hh hS;have HI:=Hh hI;have HSub:=Hh hsub;clear hS hI hsub hk
   -- what is read of the pool
   obtain⟨lv,rv,bv,fb,LS,RS,hA,hI1,hI2,_⟩:=HP.out;obtain⟨la,lc,rfl,hlc,hlcm,hlcell⟩:=SliceOf.of_owns (enc:=encV) (L:=LS) hA.left (List.map_id'' (fun _=>rfl) LS).symm;obtain⟨ua,uc,rfl,huc,hucm,hucell⟩:=SliceOf.of_owns (enc:=encV) (L:=RS) hA.right (List.map_id'' (fun _=>rfl) RS).symm;have hblk:=hA.blk;have hLl:=hA.lenL;have hRl:=hA.lenR;have HC:=Hh (fun(W:World) (f:Fr NoM w W)=>show W.cell? ⟨pb,0,none⟩=some (.slice la LS.length lc)/\W.cell? ⟨pb,1,none⟩=some (.slice ua RS.length uc)from
    ⟨f.cell (by rw[cell_of_row w pb 0 _ _ _ hblk];rfl) (fun q=>q),f.cell (by rw[cell_of_row w pb 1 _ _ _ hblk];rfl) (fun q=>q)⟩)
   have HO:=Hh (fun(W:World) (f:Fr NoM w W) (x:Nat) (hx:x<V.length)=>show ∃ba oa va bb ob vb,la=some ⟨ba,oa,none⟩/\W.cell? ⟨ba,oa+x,none⟩=some va/\Nats W va V[x].1/\ua=some ⟨bb,ob,none⟩/\W.cell? ⟨bb,ob+x,none⟩=some vb/\Nats W vb V[x].2 from by
    obtain⟨ba,oa,e1,c1⟩:=hlcell x LS[x] (List.getElem?_eq_getElem _);obtain⟨bb,ob,e2,c2⟩:=hucell x RS[x] (List.getElem?_eq_getElem _);exact⟨ba,oa,_,bb,ob,_,e1,f.cell c1 (fun q=>q),((hI1 x LS[x] V[x] (List.getElem?_eq_getElem _) (List.getElem?_eq_getElem _)).1).fr0 f,e2,f.cell c2 (fun q=>q),((hI2 x RS[x] V[x] (List.getElem?_eq_getElem _) (List.getElem?_eq_getElem _)).1).fr0 f⟩)
   have HLl:=Hh hLl;have HRl:=Hh hRl;clear hA hI1 hI2 hlcell hucell hblk hLl hRl;go_wp2;go_loopw [6,9] (fun v0 i W=>∃(k:Nat) (v:Value) (Q:List Nat),v=v0/\i=.int .i64 k/\k≤Q.length/\Seen w W v Q/\PInv V R Q/\(∃g cap,v=.slice (some ⟨g,0,none⟩) Q.length cap)/\(∀x∈R,x∈Q)/\∀x∈Q.take k,(∀z∈(V.getD x ([],[])).1,z∈Q)/\∀z∈(V.getD x ([],[])).2,z∈Q) (fun _ i _=>V.length-(intOf i).toNat)
   case atStart=>exact⟨0,_,Q,rfl,rfl,Nat.zero_le _,HS.out,HI.out,⟨_,_,rfl⟩,HSub.out,by simp⟩
   case round =>
    obtain⟨k,v,Q,rfl,rfl,hk,hS,hI,⟨g,cap,hv⟩,hsub,hdone⟩:=hrel;subst hv;obtain⟨hQV,hQl⟩:=hI.len HRt.out Hopt.out;by_cases hlt:k<Q.length
    ·obtain⟨q,hq⟩:∃q,q=Q[k]:=⟨_,rfl⟩
     have hqV:q<V.length:=by rw[hq];exact hQV _ (List.getElem_mem _)
     obtain⟨hc0,hc1⟩:=HC.out _ hS.fr;obtain⟨ba,oa,va,bb,ob,vb,e1,c1,n1,e2,c2,n2⟩:=HO.out w (Fr.refl _ _) q hqV;have c1:=hS.fr.cell c1 (fun q=>q);have c2:=hS.fr.cell c2 (fun q=>q);have ixq:=zd9 g Q.length cap k hlt;have ixl:=zvf la LS.length lc q ba oa (by rw[HLl.out];exact hqV) e1;have ixr:=zvf ua RS.length uc q bb ob (by rw[HRl.out];exact hqV) e2;have cq:wr.cell? ⟨g,k,none⟩=some (.int .i64 (q:Int)):=by
      obtain⟨a',c',e,_,_,h⟩:=SliceOf.of_owns (L:=Q) hS.row rfl;obtain⟨b,off,e2,hc⟩:=h k Q[k] (List.getElem?_eq_getElem _);subst e2;cases e;rw[hq];simpa [encN] using hc
     have hgd:V[q]=V.getD q ([],[]):=by rw[List.getD_eq_getElem?_getD,List.getElem?_eq_getElem hqV];rfl
     rw[hgd]at n1 n2;obtain⟨L1,hL1⟩:∃L,L=(V.getD q ([],[])).1:=⟨_,rfl⟩;obtain⟨L2,hL2⟩:∃L,L=(V.getD q ([],[])).2:=⟨_,rfl⟩;rw[←hL1]at n1;rw[←hL2]at n2;obtain⟨a1,c3,rfl,h11,h12,h13⟩:=id n1;obtain⟨a2,c4,rfl,h21,h22,h23⟩:=id n2;have HS:=Hh hS;have HI:=Hh hI;have HSub:=Hh hsub;have HDone:=Hh hdone;have HQV:=Hh hQV;have HQl:=Hh hQl;have HQ:=Hh hq;have HQq:=Hh hqV;have HN1:=Hh n1;have HN2:=Hh n2;have HEL1:=Hh hL1;have HEL2:=Hh hL2;have HGd:=Hh hgd;clear hgd hL1 hL2 hS hI hsub hdone hQV hq e1 e2 n1 n2 h13 h23;go_wp2;go_quiet (fail);obtain⟨w13,hw13⟩:∃w13,w13=wr.drewN nq:=⟨_,rfl⟩;have hf13:Fr NoM wr w13:=by rw[hw13];exact⟨rfl,rfl,rfl,Nat.le_refl _,fun _ _ _=>rfl⟩
     rw[←hw13];have HF13:=Hh hf13;clear hf13 hw13 c1 c2 cq hc0 hc1 ixq ixl ixr;go_wp2_with fail;go_loopw [6,60] (fun v0 i W=>∃(m:Nat) (v:Value) (Q1:List Nat),v=v0/\i=.int .i64 m/\m≤2/\Seen w W v Q1/\PInv V R Q1/\(∃g cap,v=.slice (some ⟨g,0,none⟩) Q1.length cap)/\Q <+: Q1/\(1≤m→∀z∈L1,z∈Q1)/\(2≤m→∀z∈L2,z∈Q1)) (fun _ i _=>2-(intOf i).toNat)
     case atStart =>
      have hS:=HS.out;exact⟨0,_,Q,rfl,rfl,by omega,⟨za2 hS.row HF13.out (fun _ _ q=>q),hS.seen.fr HF13.out (fun q=>q),hS.fr.trans HF13.out (fun _ _ q=>q)⟩,HI.out,⟨_,_,rfl⟩,List.prefix_refl _,fun h=>by omega,fun h=>by omega⟩
     case round =>
      obtain⟨m,v,Q1,rfl,rfl,hm,hS1,hI1,⟨g1,cap1,hv⟩,hpre,hL1,hL2⟩:=hrel;subst hv;have HS1:=Hh hS1;have HI1:=Hh hI1;have HPre:=Hh hpre;have HL1:=Hh hL1;have HL2:=Hh hL2;clear hS1 hI1 hpre hL1 hL2;by_cases hm2:m<2
      ·obtain⟨oa,oc,OL,hix,hOL,hNL⟩:∃(oa:Option Addr) (oc:Nat) (OL:List Nat),(∀W,(Instr.index 94 (.agg #[.slice a1 L1.length c3,.slice a2 L2.length c4]) (.int .i64 (m:Int))).run Tryz.prog W=.ok (.slice oa OL.length oc) W)/\OL=(if m=0 then L1 else L2)/\Nats w (.slice oa OL.length oc) OL:=by
        have hm':m=0∨m=1:=by omega
        rcases hm' with rfl|rfl
        ·exact⟨a1,c3,L1,fun W=>zs5 _ _ _ _ _ _ W,rfl,HN1.out⟩
        ·exact⟨a2,c4,L2,fun W=>zs4 _ _ _ _ _ _ W,rfl,HN2.out⟩
       have hqr:ReachV V R q:=by rw[HQ.out];exact HI.out.reach _ (List.getElem_mem _)
       have hor:∀z∈OL,ReachV V R z:=fun z hz=>by
        rw[hOL]at hz;split at hz
        ·exact .left hqr (by rw[←HEL1.out];exact hz)
        ·exact .right hqr (by rw[←HEL2.out];exact hz)
       have holen:OL.length<1000000000:=by
        have:=HLen.out _ (List.getElem_mem hqV);rw[HGd.out]at this
        rw[hOL,HEL1.out,HEL2.out];split <;> omega
       obtain⟨na,nc,e,_,_,hNc⟩:=hNL;cases e
       have HOL:=Hh hOL;have HOr:=Hh hor;have HNc:=Hh hNc;clear hOL hor hNc hqr;go_wp2;rw[show decide ((m:Int)<2)=true from by simp;omega];have HM2:=Hh hm2;clear hm2;go_loopw [6,65] (fun v0 i W=>∃(j:Nat) (v:Value) (Q2:List Nat),v=v0/\i=.int .i64 j/\j≤OL.length/\Seen w W v Q2/\PInv V R Q2/\(∃g cap,v=.slice (some ⟨g,0,none⟩) Q2.length cap)/\Q1 <+: Q2/\∀z∈OL.take j,z∈Q2) (fun _ i _=>OL.length-(intOf i).toNat)
       case atStart=>exact⟨0,_,Q1,rfl,rfl,Nat.zero_le _,HS1.out,HI1.out,⟨_,_,rfl⟩,List.prefix_refl _,by simp⟩
       case round =>
        obtain⟨j,v,Q2,rfl,rfl,hj,hS2,hI2,⟨g2,cap2,hv⟩,hpre2,hsub2⟩:=hrel;subst hv;by_cases hlt2:j<OL.length
        ·obtain⟨b3,o3,ha3,d3⟩:=HNc.out j OL[j] (List.getElem?_eq_getElem _)
         have c3':wr.cell? ⟨b3,o3+j,none⟩=some (.int .i64 (OL[j]:Int)):=hS2.fr.cell d3 (fun q=>q);have ix:=zaa oa OL.length oc j b3 o3 hlt2 ha3;have hlook:=hS2.look OL[j];have hreach:ReachV V R OL[j]:=HOr.out _ (List.getElem_mem _);have hnext:∀Q':List Nat,(∀x∈Q2,x∈Q')→OL[j]∈Q'→∀x∈OL.take (j+1),x∈Q':=fun Q' h1 h2 x hx=>by
          rw[List.take_succ_eq_append_getElem hlt2,List.mem_append,List.mem_singleton]at hx;rcases hx with hx|rfl
          ·exact h1 x (hsub2 x hx)
          ·exact h2
         have HS2:=Hh hS2;have HI2:=Hh hI2;have HRe:=Hh hreach;have HNx:=Hh hnext;have HPre2:=Hh hpre2;clear hS2 hI2 hsub2 hreach hnext ha3 d3 hpre2;by_cases hx:OL[j]∈Q2
         ·rw[decide_eq_true hx]at hlook
          have HX:=Hh hx;clear hx;go_wp2;go_roundw
          case rel=>exact⟨j+1,_,Q2,rfl,by go_num,by omega,HS2.out,HI2.out,⟨_,_,rfl⟩,HPre2.out,HNx.out Q2 (fun _ h=>h) HX.out⟩
          case measure=>simp[intOf];omega
         ·rw[decide_eq_false hx]at hlook
          have HX:=Hh hx;clear hx;obtain⟨hlV,hlQ⟩:=HI2.out.len HRt.out Hopt.out;obtain⟨w6,hrun,hmap6,hf6⟩:=MapF.store (P:=Tryz.prog) (w:=wr) HS2.out.seen (KeyAt.nat Tryz.underlying3) Tryz.underlying93 OL[j] true;have hrun:(Instr.mapUpdate 93 (.map (some w.heap.size)) (.int .i64 (OL[j]:Int)) (.bool true)).run Tryz.prog wr=.ok () w6:=hrun;rw[zii]at hmap6;have hr6:=za2 HS2.out.row hf6 (fun q hq e=>by have:=(HS2.out.row.lt q hq).1;omega);have HMap6:=Hh hmap6;have HF6:=Hh hf6;have HR6:=Hh hr6;have hQ9:Q2.length<1000000000:=by omega
          clear hmap6 hf6 hr6 hlV hlQ;go_wp2_with (at_builtin;refine zc1 w6 rfl _ _ 42 rfl (w.heap.size+1) 3 (.int .i64 0) 8 Tryz.underlying42 za8 rfl (.slice (some ⟨g2,0,none⟩) Q2.length cap2) Q2.length (Q2.map encN) rfl HR6.out (encN OL[j]) rfl rfl ?c1 (by decide) ?c2 ?_)
          case c1=>omega
          case c2=>have:=(HR6.out.lt g2 rfl);omega
          intro v7 w7 h7 f7 _;obtain⟨g7,p7,hv7,_,_⟩:=zbg h7 (Nat.succ_pos _);have hs7:Seen w w7 v7 (Q2 ++ [OL[j]]):=by
           refine⟨by rw[List.length_append,List.map_append];exact h7,HMap6.out.fr f7 (fun e=>by have:=(HR6.out.lt _ e).1;omega),?_⟩;refine(HS2.out.fr.trans HF6.out (fun q hq e=>by omega)).trans f7 (fun q hq e=>by have:=(HR6.out.lt q e).1;omega)
          have hv7':v7=.slice (some ⟨g7,0,none⟩) (Q2 ++ [OL[j]]).length p7:=by rw[List.length_append];exact hv7
          have HS7:=Hh hs7;have HV7:=Hh hv7';clear h7 f7 hs7 hv7 hv7' hrun;go_wp2;go_roundw
          case rel=>exact⟨j+1,_,Q2 ++ [OL[j]],rfl,by go_num,by omega,HS7.out,HI2.out.add HRe.out HX.out,⟨_,_,HV7.out⟩,HPre2.out.trans (List.prefix_append _ _),HNx.out _ (fun _ h=>List.mem_append_left _ h) (by simp)⟩
          case measure=>simp[intOf];omega
        ·have hj':j=OL.length:=by omega
         subst hj';rw[List.take_length]at hsub2;have HS2:=Hh hS2;have HI2:=Hh hI2;have HSub2:=Hh hsub2;have HPre2:=Hh hpre2;clear hS2 hI2 hsub2 hpre2;go_wp2;go_roundw
         case rel =>
          have hm2:=HM2.out;have hmono:∀z,z∈Q1→z∈Q2:=fun z hz=>HPre2.out.subset hz
          refine⟨m+1,_,Q2,rfl,by go_num,by omega,HS2.out,HI2.out,⟨_,_,rfl⟩,HPre.out.trans HPre2.out,fun _ z hz=>?_,fun h z hz=>?_⟩
          ·by_cases hm0:m=0
           ·exact HSub2.out z (by rw[HOL.out,if_pos hm0];exact hz)
           ·exact hmono z (HL1.out (by omega) z hz)
          ·exact HSub2.out z (by rw[HOL.out,if_neg (by omega)];exact hz)
         case measure=>have hm2:=HM2.out;simp[intOf];omega
      ·have hm2':m=2:=by omega
       subst hm2';go_wp2;go_roundw
       case rel =>
        have hpre:=HPre.out;refine⟨k+1,_,Q1,rfl,by go_num,by have:=hpre.length_le;omega,HS1.out,HI1.out,⟨_,_,rfl⟩,fun x hx=>hpre.subset (HSub.out x hx),fun x hx=>?_⟩;have htk:Q1.take (k+1)=Q.take k ++ [q]:=by
         obtain⟨t,rfl⟩:=hpre;rw[List.take_append_of_le_length (by omega),List.take_succ_eq_append_getElem hlt,HQ.out]
        rw[htk,List.mem_append,List.mem_singleton]at hx;rcases hx with hx|rfl
        ·obtain⟨h1,h2⟩:=HDone.out x hx
         exact⟨fun z hz=>hpre.subset (h1 z hz),fun z hz=>hpre.subset (h2 z hz)⟩
        ·exact⟨by rw[←HEL1.out];exact HL1.out (by omega),by rw[←HEL2.out];exact HL2.out (by omega)⟩
       case measure=>simp[intOf];omega
    ·have hk':k=Q.length:=by omega
     subst hk';rw[List.take_length]at hdone;have HS:=Hh hS;have HI:=Hh hI;have HSub:=Hh hsub;have HDone:=Hh hdone;have HQV:=Hh hQV;clear hS hI hsub hdone hQV hk;go_wp2;go_ret;refine⟨g,cap,Q,rfl,zb2 HS.out.row (Nat.le_succ _),HI.out.nodup,fun x=>⟨HI.out.reach x,fun hx=>?_⟩,HS.out.fr⟩;induction hx with
     | root h=>exact HSub.out _ h
     | @left a b _ hb ih=>exact(HDone.out a ih).1 b hb
     | @right a b _ hb ih=>exact(HDone.out a ih).2 b hb
theorem zfx (x y:Int)(w:World):Calls Tryz.prog 44 #[.int .i64 x,.int .i64 y] w fun e w'=>e=.returned (.int .i64 (Lib.compareInt x y))/\w'=w:=Any.cmp_Compare_int Tryz.layCmp x y w
set_option maxRecDepth 4000 in
set_option maxHeartbeats 4000000 in
theorem zf3 (av bv:Value)(A B:List Nat)(w:World)(hA:Nats w av A)(hB:Nats w bv B):Calls Tryz.prog 45 #[av,bv] w fun e w'=>e=.returned (.int .i64 (cmpL A B))/\w'=w:=by
 obtain⟨aa,ac,rfl,hac,hacm,hA⟩:=hA;obtain⟨ba,bc,rfl,hbc,hbcm,hB⟩:=hB;have HA:=Hh hA;have HB:=Hh hB;clear hA hB;go_enter Tryz.func45,Tryz.ntmps45;go_wp2;go_loopw [11] (fun i W=>∃k:Nat,i=.int .i64 k/\k≤A.length/\k≤B.length/\cmpL A B=cmpL (A.drop k) (B.drop k)/\W=w) (fun i _=>A.length-(intOf i).toNat)
 case atStart=>exact⟨0,rfl,Nat.zero_le _,Nat.zero_le _,rfl,rfl⟩
 case round =>
  obtain⟨k,rfl,hk,hkb,hc,hw⟩:=hrel;have HC:=Hh hc;have HW:=Hh hw;clear hc;by_cases hlt:k<A.length
  ·obtain⟨b1,o1,ha1,c1⟩:=HA.out k A[k] (List.getElem?_eq_getElem _)
   have ix1:=zaa aa A.length ac k b1 o1 hlt ha1;have c1:wr.cell? ⟨b1,o1+k,none⟩=some (.int .i64 (A[k]:Int)):=by rw[hw];exact c1
   by_cases hltb:k<B.length
   ·obtain⟨b2,o2,ha2,c2⟩:=HB.out k B[k] (List.getElem?_eq_getElem _)
    have ix2:=zaa ba B.length bc k b2 o2 hltb ha2;have c2:wr.cell? ⟨b2,o2+k,none⟩=some (.int .i64 (B[k]:Int)):=by rw[hw];exact c2
    have hd:cmpL A B=if A[k]=B[k]then cmpL (A.drop (k+1)) (B.drop (k+1))else if A[k]<B[k]then -1 else 1:=by
     rw[HC.out,List.drop_eq_getElem_cons hlt,List.drop_eq_getElem_cons hltb];rfl
    clear ha1 ha2 hw;by_cases he:A[k]=B[k]
    ·have hcmp:Lib.compareInt (A[k]:Int) (B[k]:Int)=0:=by unfold Lib.compareInt;rw[if_neg (by omega),if_neg (by omega)]
     rw[if_pos he]at hd;have HD:=Hh hd;have HE:=Hh he;clear hd he;have hcall:=zfx (A[k]:Int) (B[k]:Int) wr;rw[hcmp]at hcall;go_wp2_with fail;refine hcall.mono ?_
     rintro e w' ⟨rfl,rfl⟩;clear hcall hcmp;go_wp2;go_roundw
     case rel=>exact⟨k+1,by go_num,by omega,by omega,HD.out,HW.out⟩
     case measure=>simp[intOf];omega
    ·rw[if_neg he]at hd
     have hcall:=zfx (A[k]:Int) (B[k]:Int) wr;by_cases hl:A[k]<B[k]
     ·have hcmp:Lib.compareInt (A[k]:Int) (B[k]:Int)=-1:=by unfold Lib.compareInt;rw[if_pos (by omega)]
      rw[if_pos hl]at hd;rw[hcmp]at hcall;have HD:=Hh hd;clear hd he hl hcmp;go_wp2_with fail;refine hcall.mono ?_
      rintro e w' ⟨rfl,rfl⟩;clear hcall;go_wp2;go_ret;exact⟨by rw[HD.out];rfl,HW.out⟩
     ·have hcmp:Lib.compareInt (A[k]:Int) (B[k]:Int)=1:=by unfold Lib.compareInt;rw[if_neg (by omega),if_pos (by omega)]
      rw[if_neg hl]at hd;rw[hcmp]at hcall;have HD:=Hh hd;clear hd he hl hcmp;go_wp2_with fail;refine hcall.mono ?_
      rintro e w' ⟨rfl,rfl⟩;clear hcall;go_wp2;go_ret;exact⟨by rw[HD.out];rfl,HW.out⟩
   ·have hd:cmpL A B=1:=by
     rw[HC.out,List.drop_eq_getElem_cons hlt,show B.drop k=[]from List.drop_eq_nil_of_le (by omega)];rfl
    have HD:=Hh hd;clear hd ha1 hw;go_wp2;go_ret;exact⟨by rw[HD.out];rfl,HW.out⟩
  ·have hk':k=A.length:=by omega
   subst hk';have hd:=HC.out;rw[List.drop_length]at hd;clear hw;by_cases hltb:A.length<B.length
   ·rw[List.drop_eq_getElem_cons hltb]at hd
    have HD:=Hh hd;clear hd;go_wp2;go_ret;exact⟨by rw[HD.out];rfl,HW.out⟩
   ·rw[List.drop_eq_nil_of_le (by omega)]at hd
    have HD:=Hh hd;clear hd;go_wp2;go_ret;exact⟨by rw[HD.out];rfl,HW.out⟩
def orI (x y:Int):Int:=if x=0 then y else x
set_option maxHeartbeats 4000000 in
theorem zys (x y:Int)(b:Nat)(w:World)(h0:w.cell? ⟨b,0,none⟩=some (.int .i64 x))(h1:w.cell? ⟨b,1,none⟩=some (.int .i64 y)) :
  Calls Tryz.prog 43 #[.slice (some ⟨b,0,none⟩) 2 2] w fun e w'=>e=.returned (.int .i64 (orI x y))/\w'=w:=by
 have H0:=Hh h0;have H1:=Hh h1;clear h0 h1;go_enter Tryz.func43,Tryz.ntmps43;go_wp2;go_loopw [8] (fun i W=>∃k:Nat,i=.int .i64 k/\k≤2/\(1≤k→x=0)/\(2≤k→y=0)/\W=w) (fun i _=>2-(intOf i).toNat)
 case atStart=>exact⟨0,rfl,by omega,fun h=>by omega,fun h=>by omega,rfl⟩
 case round =>
  obtain⟨k,rfl,hk,hx,hy,hw⟩:=hrel;have HX:=Hh hx;have HY:=Hh hy;have HW:=Hh hw;clear hx hy;have hk3:k=0∨k=1∨k=2:=by omega
  rcases hk3 with rfl|rfl|rfl
  ·have c0:wr.cell? ⟨b,0,none⟩=some (.int .i64 x):=by rw[hw];exact H0.out
   clear hw hk;by_cases he:x=0
   ·have hb:(x == 0)=true:=by simpa using he
    have HE:=Hh he;clear he;go_wp2;go_roundw
    case rel=>exact⟨1,rfl,by omega,fun _=>HE.out,fun h=>by omega,HW.out⟩
    case measure=>simp[intOf]
   ·have hb:(x == 0)=false:=by simpa using he
    have HE:=Hh he;clear he;go_wp2;go_ret;exact⟨by rw[show orI x y=x from if_neg HE.out];rfl,HW.out⟩
  ·have c1:wr.cell? ⟨b,1,none⟩=some (.int .i64 y):=by rw[hw];exact H1.out
   clear hw hk;by_cases he:y=0
   ·have hb:(y == 0)=true:=by simpa using he
    have HE:=Hh he;clear he;go_wp2;go_roundw
    case rel=>exact⟨2,rfl,by omega,fun _=>HX.out (by omega),fun _=>HE.out,HW.out⟩
    case measure=>simp[intOf]
   ·have hb:(y == 0)=false:=by simpa using he
    have HE:=Hh he;clear he;go_wp2;go_ret;exact⟨by rw[show orI x y=y from if_pos (HX.out (by omega))];rfl,HW.out⟩
  ·clear hw hk
   go_wp2;go_ret;exact⟨by rw[show orI x y=0 from(if_pos (HX.out (by omega))).trans (HY.out (by omega))];rfl,HW.out⟩
set_option maxHeartbeats 4000000 in
theorem zuy (B pb a b:Nat)(BV:List Nat)(bv:Value)(W:World)(h0:W.cell? ⟨B,0,none⟩=some (.pointer (some ⟨pb,0,none⟩)))(h1:W.cell? ⟨pb,2,none⟩=some bv)(hbv:Nats W bv BV)(ha:a<BV.length)(hb:b<BV.length) :
  Calls Tryz.prog 60 #[.int .i64 (a:Int),.int .i64 (b:Int),.pointer (some ⟨B,0,none⟩)] W fun e w'=>e=.returned (.int .i64 (Lib.compareInt (BV[a]:Int) (BV[b]:Int)))/\∃q,w'=W.drewN q:=by
 obtain⟨va,vc,rfl,hc,hcm,hcell⟩:=hbv;obtain⟨b1,o1,e1,c1⟩:=hcell a BV[a] (List.getElem?_eq_getElem _);obtain⟨b2,o2,e2,c2⟩:=hcell b BV[b] (List.getElem?_eq_getElem _);have ix1:=zaa va BV.length vc a b1 o1 ha e1;have ix2:=zaa va BV.length vc b b2 o2 hb e2;have c1:W.cell? ⟨b1,o1+a,none⟩=some (.int .i64 (BV[a]:Int)):=c1;have c2:W.cell? ⟨b2,o2+b,none⟩=some (.int .i64 (BV[b]:Int)):=c2;obtain⟨r,hr⟩:∃r,r=Lib.compareInt (BV[a]:Int) (BV[b]:Int):=⟨_,rfl⟩;have hcall:∀n,Calls Tryz.prog 44 #[encN BV[a],encN BV[b]] (W.drewN n) fun e w'=>e=.returned (.int .i64 r)/\∃q,w'=(W.drewN n).drewN q:=fun n=>by rw[hr];exact(zfx _ _ _).mono fun _ _ h=>⟨h.1,0,h.2⟩
 have HCall:=Hh hcall;rw[←hr];clear hcell e1 e2 hcall hr;go_enter Tryz.func60,Tryz.ntmps60;go_wp2;go_quiet ((go_at_call 44;with_reducible exact Calls.quiet_of (HCall.out _)));go_wp2;go_ret;exact⟨rfl,_,rfl⟩
def Gr (w w':World):Prop:=∃(q:Nat) (os:Array Obj),w'=Go.Sort.grow (w.drewN q) os
theorem Gr.refl (w:World):Gr w w:=⟨0,#[],by simp[World.drewN]⟩
theorem Gr.drew {w w':World}(h:Gr w w'):Gr w w'.drew:=by
 obtain⟨q,os,rfl⟩:=h;exact⟨q+1,os,by rw[Go.Sort.drew_grow];congr 1⟩
theorem Gr.alloc {w w':World}(h:Gr w w')(o:Obj):Gr w (w'.alloc o):=by
 obtain⟨q,os,rfl⟩:=h;exact⟨q,os ++ #[o],by rw[Go.Sort.alloc_eq_grow,Go.Sort.grow_grow]⟩
theorem zkn (w:World)(a b:Value)(e:TypeId):(w.alloc (.cells #[a,b] e)).cell? ⟨w.heap.size,0,none⟩=some a/\(w.alloc (.cells #[a,b] e)).cell? ⟨w.heap.size,1,none⟩=some b:=by
 have h:=heap_alloc_new w (.cells #[a,b] e);exact⟨by rw[cell_of_row _ _ 0 _ _ _ h];rfl,by rw[cell_of_row _ _ 1 _ _ _ h];rfl⟩
theorem zhd (w:World)(a b c:Value)(e:TypeId):(w.alloc (.cells #[a,b,c] e)).cell? ⟨w.heap.size,1,none⟩=some b/\(w.alloc (.cells #[a,b,c] e)).cell? ⟨w.heap.size,2,none⟩=some c:=by
 have h:=heap_alloc_new w (.cells #[a,b,c] e);exact⟨by rw[cell_of_row _ _ 1 _ _ _ h];rfl,by rw[cell_of_row _ _ 2 _ _ _ h];rfl⟩
set_option maxRecDepth 4000 in
set_option maxHeartbeats 4000000 in
theorem zux (i j:Nat)(l1 r1 l2 r2:Value)(L1 R1 L2 R2:List Nat)(W:World)(h1:Nats W l1 L1)(h2:Nats W r1 R1)(h3:Nats W l2 L2)(h4:Nats W r2 R2) :
  Calls Tryz.prog 63 #[.agg #[encN i,l1,r1],.agg #[encN j,l2,r2]] W fun e w'=>e=.returned (.int .i64 (orI (cmpL L1 L2) (cmpL R1 R2)))/\Gr W w':=by
 have H1:=Hh (fun(w:World) (f:Fr NoM W w)=>h1.fr0 f);have H2:=Hh (fun(w:World) (f:Fr NoM W w)=>h2.fr0 f);have H3:=Hh (fun(w:World) (f:Fr NoM W w)=>h3.fr0 f);have H4:=Hh (fun(w:World) (f:Fr NoM W w)=>h4.fr0 f);obtain⟨la,lc,rfl,z1⟩:=h1;obtain⟨ra,rc,rfl,z2⟩:=h2;obtain⟨ua,uc,rfl,z3⟩:=h3;obtain⟨va,vc,rfl,z4⟩:=h4;obtain⟨c1,hc1⟩:∃c,c=cmpL L1 L2:=⟨_,rfl⟩;obtain⟨c2,hc2⟩:∃c,c=cmpL R1 R2:=⟨_,rfl⟩;rw[←hc1,←hc2];have HC1:=Hh hc1;have HC2:=Hh hc2;clear hc1 hc2 z1 z2 z3 z4;go_enter Tryz.func63,Tryz.ntmps63;go_wp2;obtain⟨w2,hw2⟩:∃w2,w2=((W.alloc (.cells #[encN i,.slice la L1.length lc,.slice ra R1.length rc] 99)).alloc (.cells #[encN j,.slice ua L2.length uc,.slice va R2.length vc] 99)):=⟨_,rfl⟩;have hg:Gr W w2:=by rw[hw2];exact((Gr.refl W).alloc _).alloc _
 have hf:Fr NoM W w2:=by rw[hw2];exact((Fr.refl NoM W).alloc _).alloc _
 have hcell:w2.cell? ⟨W.heap.size,1,none⟩=some (.slice la L1.length lc)/\w2.cell? ⟨W.heap.size,2,none⟩=some (.slice ra R1.length rc)/\w2.cell? ⟨W.heap.size+1,1,none⟩=some (.slice ua L2.length uc)/\w2.cell? ⟨W.heap.size+1,2,none⟩=some (.slice va R2.length vc):=by
  have k1:=zhd W (encN i) (.slice la L1.length lc) (.slice ra R1.length rc) 99;have k2:=zhd (W.alloc (.cells #[encN i,.slice la L1.length lc,.slice ra R1.length rc] 99)) (encN j) (.slice ua L2.length uc) (.slice va R2.length vc) 99;rw[World.size_alloc]at k2;rw[hw2];have hf:=(Fr.refl NoM (W.alloc (.cells #[encN i,.slice la L1.length lc,.slice ra R1.length rc] 99))).alloc (.cells #[encN j,.slice ua L2.length uc,.slice va R2.length vc] 99);exact⟨hf.cell k1.1 (fun q=>q),hf.cell k1.2 (fun q=>q),k2.1,k2.2⟩
 rw[←hw2];have HS:=Hh (fun(w:World) (f:Fr NoM w2 w)=>show w.cell? ⟨W.heap.size,1,none⟩=some (.slice la L1.length lc)/\w.cell? ⟨W.heap.size,2,none⟩=some (.slice ra R1.length rc)/\w.cell? ⟨W.heap.size+1,1,none⟩=some (.slice ua L2.length uc)/\w.cell? ⟨W.heap.size+1,2,none⟩=some (.slice va R2.length vc)from
  ⟨f.cell hcell.1 (fun q=>q),f.cell hcell.2.1 (fun q=>q),f.cell hcell.2.2.1 (fun q=>q),f.cell hcell.2.2.2 (fun q=>q)⟩)
 have H1:=Hh (fun w (f:Fr NoM w2 w)=>H1.out w (hf.trans f (fun _ _ q=>q)));have H2:=Hh (fun w (f:Fr NoM w2 w)=>H2.out w (hf.trans f (fun _ _ q=>q)));have H3:=Hh (fun w (f:Fr NoM w2 w)=>H3.out w (hf.trans f (fun _ _ q=>q)));have H4:=Hh (fun w (f:Fr NoM w2 w)=>H4.out w (hf.trans f (fun _ _ q=>q)));clear hf hcell hw2;have HG:=Hh hg;clear hg;have F0:Fr NoM w2 w2.drew:=(Fr.refl NoM w2).drew;go_region_held3 (fun(w:World)=>w.cell? ⟨W.heap.size,1,none⟩=some (.slice la L1.length lc)/\w.cell? ⟨W.heap.size,2,none⟩=some (.slice ra R1.length rc)/\w.cell? ⟨W.heap.size+1,1,none⟩=some (.slice ua L2.length uc)/\w.cell? ⟨W.heap.size+1,2,none⟩=some (.slice va R2.length vc))
  (first|exact HS.out _ (by assumption)|exact HS.out _ (Fr.alloc (by assumption) _))
  (first
   | (go_at_call 45;(with_reducible refine(zf3 (.slice la L1.length lc) (.slice ua L2.length uc) L1 L2 _ (H1.out _ (by assumption)) (H3.out _ (by assumption))).mono ?_);rw[←HC1.out];rintro e w5 ⟨rfl,rfl⟩)
   | (go_at_call 45;(with_reducible refine(zf3 (.slice ra R1.length rc) (.slice va R2.length vc) R1 R2 _ (H2.out _ (by assumption)) (H4.out _ (by assumption))).mono ?_);rw[←HC2.out];rintro e w6 ⟨rfl,rfl⟩)
   | (go_at_call 43;(refine(zys c1 c2 w2.heap.size _ (zkn w2.drew _ _ _).1 (zkn w2.drew _ _ _).2).mono ?_);rintro e w7 ⟨rfl,rfl⟩)
   | fail)
 all_goals
  go_wp2;go_ret;exact⟨rfl,((HG.out.drew).alloc _)⟩
end Go.Proofs.YtkofnbjjbcohgaaGreatDoor
namespace Go.Proofs.YtkofnbjjbcohgaaGreatDoor
set_option linter.unusedVariables false
set_option linter.unusedSimpArgs false
open Go.RowKit Go.Sort
def ecmp (x y:PL):Int:=orI (cmpL x.1 y.1) (cmpL x.2 y.2)
theorem ztg (x y:PL):decide (ecmp x y<0)=zac x y:=by
 unfold ecmp orI zac;split <;> rfl
theorem zrt {α:Type}[Inhabited α](f:α→PL):SWO (ltOf fun x y:α=>ecmp (f x) (f y)):=by
 have e:∀x y:α,ltOf (fun x y:α=>ecmp (f x) (f y)) x y=zac (f x) (f y):=fun x y=>ztg _ _
 have asy:∀a b:PL,zac a b=true→zac b a=false:=fun a b=>zdg
 refine⟨fun x=>?_,fun x y z h1 h2=>?_,fun x y z h1 h2=>?_⟩
 ·rw[e]
  cases h:zac (f x) (f x)with
  | false=>rfl
  | true=>have:=zdg h;rw[h]at this;cases this
 ·rw[e]at h1 h2 ⊢;exact zdf h1 h2
 ·rw[e]at h1 h2 ⊢
  cases h:zac (f x) (f z)with
  | false=>rfl
  | true =>
   exfalso
   cases q:zac (f y) (f x)with
   | true=>rw[zdf q h]at h2;cases h2
   | false=>rw[zge h1 q]at h;rw[h]at h2;cases h2
theorem zuf {α:Type}[Inhabited α](f:α→Nat):SWO (ltOf fun x y:α=>Lib.compareInt (f x:Int) (f y:Int)):=by
 have e:∀x y:α,ltOf (fun x y:α=>Lib.compareInt (f x:Int) (f y:Int)) x y=decide (f x<f y):=fun x y=>by
  unfold ltOf;apply decide_eq_decide.2
  show Lib.compareInt (f x:Int) (f y:Int)<0↔f x<f y
  unfold Lib.compareInt;constructor
  ·intro h
   split at h
   ·omega
   ·split at h <;> omega
  ·intro h
   rw[if_pos (by omega)];omega
 refine⟨fun x=>?_,fun x y z h1 h2=>?_,fun x y z h1 h2=>?_⟩
 ·rw[e];simp
 ·rw[e]at h1 h2 ⊢;simp at h1 h2 ⊢;omega
 ·rw[e]at h1 h2 ⊢;simp at h1 h2 ⊢;omega
theorem zf8 {α:Type}[Inhabited α]{d d':Array α}(h:PermIn 0 d.size d d'):d'.toList.Perm d.toList:=by
 obtain⟨hs,_,hp⟩:=h;have e1:d.extract 0 d.size=d:=by simp
 have e2:d'.extract 0 d.size=d':=by rw[←hs];simp
 rwa [e1,e2]at hp
theorem zcc {α:Type}[Inhabited α]{lt:α→α→Bool}{d:Array α}(h:SortedIn lt 0 d.size d):d.toList.Pairwise fun a b=>lt b a=false:=by
 refine List.pairwise_iff_getElem.2 fun i j hi hj hij=>?_
 have:=h i j (Nat.zero_le _) hij (by simpa using hj);rw[getElem!_pos d i (by simpa using hi),getElem!_pos d j (by simpa using hj)]at this
 simpa using this
theorem zkq {n:Nat}(Q:List Nat)(hQ:∀x∈Q,x<n):∃D:List {x:Nat // x<n},D.map Subtype.val=Q:=by
 induction Q with
 | nil=>exact⟨[],rfl⟩
 | cons y l ih =>
  obtain⟨D,hD⟩:=ih fun x hx=>hQ x (List.mem_cons_of_mem _ hx)
  exact⟨⟨y,hQ y (List.mem_cons_self ..)⟩::D,by simp[hD]⟩
set_option maxHeartbeats 1000000 in
theorem zs0 {base g cap B pb:Nat}(Q BV:List Nat)(bv:Value)(w:World)(h:w.ownsRow base 3 1 (.slice (some ⟨g,0,none⟩) Q.length cap) Q.length (Q.map encN))(hQ:∀x∈Q,x<BV.length)(hne:0<BV.length)(hl:Q.length<1000000000)
  (h0:w.cell? ⟨B,0,none⟩=some (.pointer (some ⟨pb,0,none⟩))) (h1:w.cell? ⟨pb,2,none⟩=some bv) (hbv:Nats w bv BV) (gB:B≠g) (gp:pb≠g) (gb:∀q,bv.ownBlock=some q→q≠g) :
  Calls Tryz.prog 59 #[.slice (some ⟨g,0,none⟩) Q.length cap,.func (.func 60) #[] #[.pointer (some ⟨B,0,none⟩)]] w fun e w' =>
   e=.returned (.tuple #[])/\∃Q':List Nat,Q'.Perm Q/\(Q'.Pairwise fun a b=>BV.getD a 0≤BV.getD b 0)/\w'.ownsRow base 3 1 (.slice (some ⟨g,0,none⟩) Q'.length cap) Q'.length (Q'.map encN)/\Fr (fun k=>k=g) w w':=by
 obtain⟨D,hD⟩:=zkq Q hQ;haveI:Inhabited {x:Nat // x<BV.length}:=⟨⟨0,hne⟩⟩;let enc:{x:Nat // x<BV.length}→Value:=fun x=>encN x.1
 let cf:{x:Nat // x<BV.length}→{x:Nat // x<BV.length}→Int:=fun x y=>Lib.compareInt (BV.getD x.1 0:Int) (BV.getD y.1 0:Int)
 have hlen:D.length=Q.length:=by rw[←hD];simp
 have hx:Q.map encN=D.toArray.toList.map enc:=by rw[←hD,List.map_map];rfl
 have hds:D.toArray.size=Q.length:=by simpa using hlen
 have hH:=ze4 (enc:=enc) h D.toArray hx;have hlt:g<w.heap.size:=(h.lt g rfl).2;have eg:∀args w,(callFunc 60 args).run Tryz.prog w=.ok (.enter 60 args) w:=enters_of Tryz.func60 (by kernel_rfl) rfl;have hcmp:CmpLays1 Tryz.prog 60 #[.pointer (some ⟨B,0,none⟩)] enc cf g 0 D.toArray.size w:=by
  intro m os dk hs x y;obtain⟨_,hf⟩:=zdy (enc:=enc) h dk (by rw[hs,hds]) m os;have hc:=zuy B pb x.1 y.1 BV bv (sortWorld enc w g 0 m dk os) (hf.cell h0 gB) (hf.cell h1 gp) (hbv.fr hf (fun _ q hq=>gb q hq)) x.2 y.2;refine Calls.mono (P:=Tryz.prog) hc ?_
  rintro e w' ⟨rfl,q,rfl⟩;refine⟨?_,q,#[],by rw[grow_empty]⟩;show _=Ending.returned (.int .i64 (Lib.compareInt (BV.getD x.1 0:Int) (BV.getD y.1 0:Int)))
  rw[List.getD_eq_getElem?_getD,List.getElem?_eq_getElem x.2,List.getD_eq_getElem?_getD,List.getElem?_eq_getElem y.2];rfl
 have hc:=Any.slices_SortFunc Tryz.laySortI enc (fun _=>rfl) cf (zuf fun x:{x:Nat // x<BV.length}=>BV.getD x.1 0) 60 #[.pointer (some ⟨B,0,none⟩)] g 0 cap D.toArray w eg hcmp hH hlt (by omega);rw[hds]at hc;refine Calls.mono (P:=Tryz.prog) hc ?_
 rintro e w' ⟨rfl,d',n,os,hp,hso,rfl⟩;have hsz:d'.size=Q.length:=by rw[hp.1,hds]
 rw[←hds]at hp;have hpp:=(zf8 hp).map Subtype.val;rw[List.toList_toArray,hD]at hpp;rw[←hsz]at hso;have hpw:=zcc hso;obtain⟨h2,h3⟩:=zdy (enc:=enc) h d' hsz n os;refine⟨rfl,d'.toList.map Subtype.val,hpp,List.pairwise_map.2 (hpw.imp fun {a b} hab=>?_),?_,h3⟩
 ·unfold ltOf at hab
  simp only[decide_eq_false_iff_not]at hab;show BV.getD a.1 0≤BV.getD b.1 0
  have hab:¬Lib.compareInt (BV.getD b.1 0:Int) (BV.getD a.1 0:Int)<0:=hab;rcases Nat.lt_or_ge (BV.getD b.1 0) (BV.getD a.1 0)with hlt|hge
  ·exfalso;apply hab
   unfold Lib.compareInt;rw[if_pos (by omega)];omega
  ·exact hge
 ·have e1:(d'.toList.map Subtype.val).length=Q.length:=by simp[hsz]
  rw[e1,List.map_map];exact h2
theorem zid {w:World}{base:Nat}{e:TypeId}{g n cap s:Nat}{xs:List Value}(h:w.ownsRow base e s (.slice (some ⟨g,0,none⟩) n cap) n xs)(d:Array Value)(hx:d.toList=xs):Holds id w g 0 d:=by
 rcases h.2 with ⟨h0,_⟩|⟨g',cap',cur,hv,hb,hg,hnc,hcm,hs,ht⟩
 ·cases h0
 ·cases hv
  have hl:xs.length=n*s:=h.1;intro j hj;have hjn:j<n*s:=by rw[←hx]at hl;simp at hl;omega
  refine⟨?_,by simp[World.frozen?,hg]⟩;rw[Nat.zero_add,cell_of_row w g j cur _ _ hg];have:(cur.toList.take (n*s))[j]?=some (id d[j]!):=by
   rw[ht,←hx,Array.getElem?_toList,Array.getElem?_eq_getElem hj,getElem!_pos d j hj];rfl
  rw[List.getElem?_take,if_pos (by omega)]at this
  simpa using this
theorem zgk {w:World}{base:Nat}{e:TypeId}{g n cap s:Nat}{xs:List Value}(h:w.ownsRow base e s (.slice (some ⟨g,0,none⟩) n cap) n xs)(d:Array Value)(hd:d.size=n*s)(q:Nat)(os:Array Obj) :
  (grow (putRow id (Sort.ahead w q) g 0 d) os).ownsRow base e s (.slice (some ⟨g,0,none⟩) n cap) n d.toList/\Fr (fun k=>k=g) w (grow (putRow id (Sort.ahead w q) g 0 d) os):=by
 rcases h.2 with ⟨h0,_⟩|⟨g',cap',cur,hv,hb,hg,hnc,hcm,hs,ht⟩
 ·cases h0
 ·cases hv
  obtain⟨h1,h2⟩:=zhx (enc:=id) hg d q os;refine⟨⟨by simp[hd],.inr ⟨g,cap,_,rfl,hb,h1,hnc,hcm,by simp[putCells,hs],?_⟩⟩,h2⟩;have hcs:n*s≤cur.size:=by rw[hs];exact Nat.mul_le_mul_right _ hnc
  apply List.ext_getElem?
  intro i;rw[List.getElem?_take];by_cases hi:i<n*s
  ·rw[if_pos hi,Array.getElem?_toList,Array.getElem?_toList,Array.getElem?_eq_getElem (xs:=d) (i:=i) (by omega)]
   unfold putCells;rw[Array.getElem?_mapIdx,Array.getElem?_eq_getElem (by omega)];simp only[Option.map_some];rw[if_pos ⟨Nat.zero_le _,by omega⟩,Nat.sub_zero,getElem!_pos d i (by omega)];rfl
  ·rw[if_neg hi,Array.getElem?_toList,Array.getElem?_eq_none (by omega)]
theorem zi0 (lv rv:Nat→Value)(d:Array Nat):(flatK (enc3 lv rv) 3 d).toList=zem lv rv d.toList:=by
 apply List.ext_getElem?
 intro t;have hsz:(flatK (enc3 lv rv) 3 d).size=d.size*3:=by simp[flatK]
 by_cases ht:t<d.size*3
 ·obtain⟨q,m,hm,rfl⟩:∃q m,m<3/\t=q*3+m:=⟨t/3,t%3,by omega,by omega⟩
  have e1:(q*3+m)/3=q:=by omega
  have e2:(q*3+m)%3=m:=by omega
  have hq:q<d.size:=by omega
  have hg:d.toList[q]?=some d[q]! := by rw[Array.getElem?_toList,Array.getElem?_eq_getElem hq,getElem!_pos d _ hq]
  obtain⟨g0,g1,g2⟩:=zmp lv rv d.toList q _ hg;have he:(flatK (enc3 lv rv) 3 d).toList[q*3+m]?=some ((enc3 lv rv d[q]!)[m]!):=by
   rw[Array.getElem?_toList];unfold flatK;rw[Array.getElem?_map,Array.getElem?_range,if_pos ht];simp only[Option.map_some,e1,e2]
  rw[he];match m,hm with
  | 0,_=>exact g0.symm
  | 1,_=>exact g1.symm
  | 2,_=>exact g2.symm
  | m+3,h=>omega
 ·rw[List.getElem?_eq_none (by simp[hsz];omega),List.getElem?_eq_none (by rw[zmn];simp;omega)]
set_option maxHeartbeats 1000000 in
theorem zs1 {base g cap:Nat}(G:List Nat)(lv rv:Nat→Value)(f:Nat→PL)(w:World)(h:w.ownsRow base 99 3 (.slice (some ⟨g,0,none⟩) G.length cap) G.length (zem lv rv G))(hl:G.length<1000000000)
  (h1:∀i,Nats w (lv i) (f i).1/\∀q,(lv i).ownBlock=some q→q≠g) (h2:∀i,Nats w (rv i) (f i).2/\∀q,(rv i).ownBlock=some q→q≠g) :
  Calls Tryz.prog 62 #[.slice (some ⟨g,0,none⟩) G.length cap,.func (.func 63) #[] #[]] w fun e w' =>
   e=.returned (.tuple #[])/\∃G':List Nat,G'.Perm G/\(G'.Pairwise fun a b=>zac (f b) (f a)=false)/\w'.ownsRow base 99 3 (.slice (some ⟨g,0,none⟩) G'.length cap) G'.length (zem lv rv G')/\Fr (fun k=>k=g) w w':=by
 have hs:∀i,(lv i).oneCell'=true/\(rv i).oneCell'=true:=fun i=>by
  obtain⟨⟨a,c,e1,_⟩,_⟩:=h1 i;obtain⟨⟨a',c',e2,_⟩,_⟩:=h2 i;rw[e1,e2];exact⟨rfl,rfl⟩
 have hfl:=zi0 lv rv G.toArray;rw[List.toList_toArray]at hfl;have hH:HoldsK (enc3 lv rv) 3 w g 0 G.toArray:=zid h _ hfl;have hlt:g<w.heap.size:=(h.lt g rfl).2;have eg:∀args w,(callFunc 63 args).run Tryz.prog w=.ok (.enter 63 args) w:=enters_of Tryz.func63 (by kernel_rfl) rfl;have hcmp:CmpLays Tryz.prog 63 #[] (enc3 lv rv) 3 (fun x y=>ecmp (f x) (f y)) g 0 G.toArray.size w:=by
  intro m os dk hs x y;have hd:(flatK (enc3 lv rv) 3 dk).size=G.length*3:=by simp[flatK,hs]
  obtain⟨_,hf⟩:=zgk h (flatK (enc3 lv rv) 3 dk) hd m os;have hc:=zux x y (lv x) (rv x) (lv y) (rv y) (f x).1 (f x).2 (f y).1 (f y).2 (sortWorldK (enc3 lv rv) 3 w g 0 m dk os)
   ((h1 x).1.fr hf (fun _ q hq=>(h1 x).2 q hq)) ((h2 x).1.fr hf (fun _ q hq=>(h2 x).2 q hq)) ((h1 y).1.fr hf (fun _ q hq=>(h1 y).2 q hq)) ((h2 y).1.fr hf (fun _ q hq=>(h2 y).2 q hq))
  exact hc
 have hc:=AnyQ.slices_SortFunc Tryz.laySortE 3 (fun w=>Tryz.isAgg99 w) (fun w=>Tryz.sizeOf99 w) (enc3 lv rv) (fun _=>rfl) (fun x v hv=>by
   simp only[enc3,List.mem_cons,List.not_mem_nil,or_false]at hv;rcases hv with rfl|rfl|rfl
   ·rfl
   ·exact(hs x).1
   ·exact(hs x).2) (fun x y=>ecmp (f x) (f y)) (zrt f) 63 #[] g 0 cap G.toArray w eg hcmp hH hlt (by simp;omega)
 refine Calls.mono (P:=Tryz.prog) hc ?_
 rintro e w' ⟨rfl,d',n,os,hp,hso,rfl⟩;have hsz:d'.size=G.length:=by rw[hp.1];simp
 have hpp:=zf8 hp;rw[List.toList_toArray]at hpp;rw[List.size_toArray,←hsz]at hso;have hpw:=zcc hso;obtain⟨h3,h4⟩:=zgk h (flatK (enc3 lv rv) 3 d') (by simp[flatK,hsz]) n os;rw[zi0]at h3;refine⟨rfl,d'.toList,hpp,hpw.imp fun {a b} hab=>?_,?_,h4⟩
 ·unfold ltOf at hab
  rw[ztg]at hab;exact hab
 ·have e1:d'.toList.length=G.length:=by simp[hsz]
  rw[e1];exact h3
end Go.Proofs.YtkofnbjjbcohgaaGreatDoor
