import Derived.Test.YtkofnbjjbcohgaaGreatDoorZw2
import Derived.Test.YtkofnbjjbcohgaaGreatDoorZw3
/- Lemmas. -/
namespace Go.Proofs.YtkofnbjjbcohgaaGreatDoor
set_option linter.unusedVariables false
set_option linter.unusedSimpArgs false
open Go.RowKit
theorem zke:(Tryz.prog.info? 27).map (fun i=>(i.zero,i.size,i.bytes))=some (some (.agg #[.slice none 0 0]),1,24):=by kernel_rfl
theorem zkc (a:Option Addr)(n c k b off:Nat)(hk:k<n)(ha:a=some ⟨b,off,none⟩)(w:World) :
  (Instr.indexAt 49 (.slice a n c) (.int .i64 (k:Int))).run Tryz.prog w=.ok (.pointer (some ⟨b,off+k,none⟩)) w:=by
 subst ha;go_simp
def zn1 (R:Nat→Prop)(w:World)(v:Value)(FL:List (List PL)):Prop :=
 ∃VS:List Value,Vals w v VS/\VS.length=FL.length/\∀(j:Nat) (nv:Value) (Fm:List PL),VS[j]?=some nv→FL[j]?=some Fm→NodeL R encN w nv Fm
theorem NodeL.low {α:Type}{R:Nat→Prop}{enc:α→Value}{w:World}{v:Value}{NL:List (List α × List α)}(h:NodeL R enc w v NL):NodeL (· < w.heap.size) enc w v NL:=by
 obtain⟨a,c,rfl,h1,h2,h3⟩:=h;refine⟨a,c,rfl,h1,h2,fun j y hy=>?_⟩;obtain⟨b,off,lv,rv,ha,hb,c1,c2,s1,s2,r1,r2⟩:=h3 j y hy;refine⟨b,off,lv,rv,ha,World.block_lt_of_cell? w _ c1,c1,c2,s1,s2,fun hne q hq=>?_,fun hne q hq=>?_⟩
 ·obtain⟨b',hb',hl⟩:=s1.block hne;rw[hq]at hb';cases hb';exact hl
 ·obtain⟨b',hb',hl⟩:=s2.block hne;rw[hq]at hb';cases hb';exact hl
structure Mk (w1 W:World) (bb:Nat) (s:List PL × List Nat) (S1:Nat→Prop) (v:Value) (A:List Nat) (u:Value) (B:List Nat):Prop where
 book:BookS S1 W bb s.1 s.2
 sub:∀q,S1 q→w1.heap.size≤q/\q<W.heap.size
 own1:W.ownsRow w1.heap.size 3 1 v A.length (A.map encN)
 own2:W.ownsRow w1.heap.size 3 1 u B.length (B.map encN)
 no1:∀b,v.ownBlock=some b→¬S1 b
 no2:∀b,u.ownBlock=some b→¬S1 b
 sep:∀b,v.ownBlock=some b→u.ownBlock≠some b
 fr:Fr NoM w1 W
theorem Mk.swap {w1 W:World}{bb:Nat}{s:List PL × List Nat}{S1:Nat→Prop}{v u:Value}{A B:List Nat}(h:Mk w1 W bb s S1 v A u B):Mk w1 W bb s S1 u B v A :=
 ⟨h.book,h.sub,h.own2,h.own1,h.no2,h.no1,fun b h1 h2=>h.sep b h2 h1,h.fr⟩
theorem Mk.root {w1 W W':World}{bb:Nat}{s s':List PL × List Nat}{S1 S':Nat→Prop}{v u:Value}{A B:List Nat}(h:Mk w1 W bb s S1 v A u B)(hb:BookS S' W' bb s'.1 s'.2)(hs:∀k,S' k→S1 k∨W.heap.size≤k)(hf:Fr S1 W W'):Mk w1 W' bb s' (fun k=>S' k/\k<W'.heap.size) v A u B:=by
 have key:∀b,(¬S1 b/\b<W.heap.size)→¬(S' b/\b<W'.heap.size):=fun b ⟨h1,h2⟩ ⟨h3,_⟩=>by
  rcases hs b h3 with h|h
  ·exact h1 h
  ·omega
 exact⟨hb.cut,fun q hq=>⟨by
   rcases hs q hq.1 with h1|h1
   ·exact(h.sub q h1).1
   ·exact Nat.le_trans h.fr.size h1,hq.2⟩,za2 h.own1 hf (fun b hb=>h.no1 b hb),za2 h.own2 hf (fun b hb=>h.no2 b hb),fun b hb=>key b ⟨h.no1 b hb,(h.own1.lt b hb).2⟩,fun b hb=>key b ⟨h.no2 b hb,(h.own2.lt b hb).2⟩,h.sep,
  h.fr.trans hf (fun q hq hS=>by have:=(h.sub q hS).1;omega)⟩
theorem Mk.app {w1 W Wa W4:World}{bb:Nat}{s:List PL × List Nat}{S1:Nat→Prop}{v v4 u:Value}{A B:List Nat}{x:Nat}(h:Mk w1 W bb s S1 v A u B)(ha:Fr NoM W Wa)(ho:W4.ownsRow w1.heap.size 3 1 v4 (A.length+1) (A.map encN ++ [x].map encN))(hf:Fr (Own1 v) Wa W4)(hq:v4.ownBlock=v.ownBlock∨∃b,v4.ownBlock=some b/\Wa.heap.size≤b):Mk w1 W4 bb s S1 v4 (A ++ [x]) u B:=by
 have hfa:Fr (Own1 v) W W4:=ha.any.trans hf (fun q _ e=>e);have hlt:∀b,v4.ownBlock=some b→v.ownBlock=some b∨W.heap.size≤b:=fun b hb=>by
  rcases hq with h1|⟨b',h1,h2⟩
  ·rw[h1]at hb;exact .inl hb
  ·rw[h1]at hb;cases hb;exact .inr (Nat.le_trans ha.size h2)
 exact⟨h.book.fr hfa (fun k hk e=>h.no1 k e hk),fun q hq=>⟨(h.sub q hq).1,Nat.lt_of_lt_of_le (h.sub q hq).2 hfa.size⟩,by rw[List.length_append,List.map_append];exact ho,za2 h.own2 hfa (fun b hb e=>h.sep b e hb),
  fun b hb hS=>by
   rcases hlt b hb with h1|h1
   ·exact h.no1 b h1 hS
   ·have:=(h.sub b hS).2;omega,
  h.no2,fun b hb hu=>by
   rcases hlt b hb with h1|h1
   ·exact h.sep b h1 hu
   ·have:=(h.own2.lt b hu).2;omega,
  h.fr.trans hfa (fun q hq e=>by have:=(h.own1.lt q e).1;omega)⟩
theorem BookS.made {w:World}{bb:Nat}(h:w.heap[bb]?=some (.cells #[.slice none 0 0,.slice none 0 0] 79 (0,0))):BookS (fun q=>q=bb) w bb [] [] :=
 ⟨.slice none 0 0,.slice none 0 0,[],⟨h,World.ownsRow_nil _ _ _ _,World.ownsRow_nil _ _ _ _,rfl,rfl,by simp,by simp[Value.ownBlock],by simp[Value.ownBlock],by simp[Value.ownBlock]⟩,fun k hk=>by
  rcases (zb9 h).1 hk with h|h|h
  ·exact h
  ·simp[Value.ownBlock]at h
  ·simp[Value.ownBlock]at h,by intro j x y hx;simp at hx⟩
theorem zui {FL:List (List PL)}:∀ {n:Nat}{s:List PL × List Nat × List Nat},RootsOK n s→(∀Fm∈FL,GoodF Fm)→s.1.length≤(FL.foldl zbf s).1.length:=by
 induction FL with
 | nil=>intro n s _ _;exact Nat.le_refl _
 | cons f l ih =>
  intro n s h hF;have hf:=hF f List.mem_cons_self;have h1:=ih (h.step hf) (fun g hg=>hF g (List.mem_cons_of_mem _ hg));have h2:=(zeq h.ok f hf.opts).2.2.2.2.length_le;rw[List.foldl_cons];exact Nat.le_trans h2 h1
theorem RootsOK.start:RootsOK 0 ([],[],[]):=⟨BookOK.nil,BookUp.nil,by simp,by simp⟩
theorem zik {NL:List PL}{BL:List Nat}{FL:List (List PL)}{j:Nat}(hj:j<FL.length):zb8 NL BL (FL.take (j+1))=zbf (zb8 NL BL (FL.take j)) FL[j]:=by
 rw[List.take_succ_eq_append_getElem hj,zn9]
set_option maxHeartbeats 4000000 in
theorem zr7 {R:Nat→Prop}(lv rv:Value)(FL FR:List (List PL))(w:World)(hL:zn1 R w lv FL)(hR:zn1 R w rv FR)(gL:∀Fm∈FL,GoodF Fm)(gR:∀Fm∈FR,GoodF Fm)(nL:FL.length≤1000)(nR:FR.length≤1000) :
  Calls Tryz.prog 19 #[lv,rv] w fun e w'=>∃v',e=.returned (.agg #[v'])/\NodeOwn w.heap.size w' v' (zm9 FL FR)/\Fr NoM w w':=by
 obtain⟨VL,hvl,hll,hfl⟩:=hL;obtain⟨VR,hvr,hlr,hfr⟩:=hR;obtain⟨al,cl,rfl,zl1,zl2,hcl⟩:=hvl;obtain⟨ar,cr,rfl,zr1,zr2,hcr⟩:=hvr;rw[hll,hlr];have HFl:=Hh hfl;have HFr:=Hh hfr;have HCl:=Hh hcl;have HCr:=Hh hcr;have GL:=Hh gL;have GR:=Hh gR;have HLl:=Hh hll;have HLr:=Hh hlr;clear hfl hfr hcl hcr gL gR hll hlr zl1 zl2 zr1 zr2;go_enter Tryz.func19,Tryz.ntmps19;go_wp2_with fail;obtain⟨w1,hw1⟩:∃w1,w1=w.alloc (.cells #[.slice none 0 0] 27):=⟨_,rfl⟩;have hs1:w1.heap.size=w.heap.size+1:=by rw[hw1];simp
 have hf1:Fr NoM w w1:=by rw[hw1];exact(Fr.refl NoM w).alloc _
 have hb1:w1.heap[w.heap.size]?=some (.cells #[.slice none 0 0] 27 (0,0)):=by rw[hw1];exact heap_alloc_new w _
 rw[←hw1];obtain⟨bb,hbb⟩:∃bb,bb=w.heap.size+1:=⟨_,rfl⟩;obtain⟨w4,hw4⟩:∃w4,w4=((w1.alloc (.cells #[.slice none 0 0,.slice none 0 0] 79)).alloc (.cells #[] 3)).alloc (.cells #[] 3):=⟨_,rfl⟩;have hmk:Mk w1 w4 bb ([],[]) (fun q=>q=bb) (.slice (some ⟨bb+1,0,none⟩) 0 0) [] (.slice (some ⟨bb+1+1,0,none⟩) 0 0) []:=by
  rw[hbb];have hF:Fr NoM w1 w4:=by rw[hw4];exact(((Fr.refl NoM w1).alloc _).alloc _).alloc _
  have hsz:w4.heap.size=w.heap.size+4:=by rw[hw4];simp[hs1]
  have k0:w4.heap[w.heap.size+1]?=some (.cells #[.slice none 0 0,.slice none 0 0] 79 (0,0)):=by
   have h:=heap_alloc_new w1 (.cells #[.slice none 0 0,.slice none 0 0] 79);rw[hs1]at h;rw[hw4];exact(((Fr.refl NoM _).alloc _).alloc _).heap h (fun q=>q)
  have o1:w4.ownsRow w1.heap.size 3 1 (.slice (some ⟨w.heap.size+1+1,0,none⟩) 0 0) 0 []:=by
   have h:=World.ownsRow_made (base:=w1.heap.size) (e:=3) (size:=1) (w1.alloc (.cells #[.slice none 0 0,.slice none 0 0] 79)) #[] 0 (by simp) (by decide) (by simp);simp only[World.size_alloc,hs1]at h;rw[hw4,hs1];exact za2 h ((Fr.refl NoM _).alloc _) (fun _ _ q=>q)
  have o2:w4.ownsRow w1.heap.size 3 1 (.slice (some ⟨w.heap.size+1+1+1,0,none⟩) 0 0) 0 []:=by
   have h:=World.ownsRow_made (base:=w1.heap.size) (e:=3) (size:=1) ((w1.alloc (.cells #[.slice none 0 0,.slice none 0 0] 79)).alloc (.cells #[] 3)) #[] 0 (by simp;omega) (by decide) (by simp);simp only[World.size_alloc,hs1]at h;rw[hw4,hs1];exact h
  refine⟨BookS.made k0,fun q hq=>⟨by omega,by omega⟩,o1,o2,fun b hb e=>?_,fun b hb e=>?_,fun b hb e=>?_,hF⟩
  ·have hb:w.heap.size+1+1=b:=Option.some.inj hb
   omega
  ·have hb:w.heap.size+1+1+1=b:=Option.some.inj hb
   omega
  ·have hb:w.heap.size+1+1=b:=Option.some.inj hb
   have e:w.heap.size+1+1+1=b:=Option.some.inj e;omega
 rw[←hw4];have HMk:=Hh hmk;have HF1:=Hh hf1;have HB1:=Hh hb1;have HS1:=Hh hs1;clear hmk hf1 hb1 hs1 hw4 hw1;rw[←hbb];have HBb:=Hh hbb;clear hbb;go_loopw [6,8] (fun v0 i W=>∃(j:Nat) (S1:Nat→Prop) (v:Value),v=v0/\i=.int .i64 j/\j≤FL.length/\Mk w1 W bb ((zb8 [] [] (FL.take j)).1,(zb8 [] [] (FL.take j)).2.1) S1 v (zb8 [] [] (FL.take j)).2.2 (.slice (some ⟨bb+1+1,0,none⟩) 0 0) []) (fun _ i _=>FL.length-(intOf i).toNat)
 case atStart=>exact⟨0,_,_,rfl,rfl,Nat.zero_le _,HMk.out⟩
 case round =>
  obtain⟨j,S1,v,rfl,rfl,hj,hm⟩:=hrel;obtain⟨w7,rfl⟩:∃w7,w7=wr:=⟨_,rfl⟩;by_cases hlt:j<FL.length
  ·have hro:=zd5 (FL:=FL.take j) RootsOK.start (fun Fm h=>GL.out Fm (List.mem_of_mem_take h))
   have hnx:=zik (NL:=[]) (BL:=[]) hlt;have hg:=GL.out FL[j] (List.getElem_mem _);obtain⟨Fm,hFm⟩:∃Fm,Fm=FL[j]:=⟨_,rfl⟩;have hFe:FL[j]?=some Fm:=by rw[hFm];exact List.getElem?_eq_getElem _
   obtain⟨nv,hnv⟩:∃nv,VL[j]?=some nv:=⟨VL[j]'(by rw[HLl.out];exact hlt),List.getElem?_eq_getElem _⟩;have hN:=(HFl.out j nv Fm hnv hFe).low;obtain⟨an,cn,rfl,z⟩:=id hN;clear z;obtain⟨b1,o1,rfl,c1⟩:=HCl.out j _ hnv;have ix:=zkc (some ⟨b1,o1,none⟩) FL.length cl j b1 o1 hlt rfl;rw[←hFm]at hg hnx;have hro:RootsOK (0+120*(FL.take j).length) (zb8 [] [] (FL.take j)):=hro;obtain⟨⟨NLk,BLk,A⟩,hA⟩:∃s,zb8 [] [] (FL.take j)=s:=⟨_,rfl⟩;rw[hA]at hm hro hnx;have hwf:=HF1.out.trans hm.fr (fun _ _ q=>q);have d1:w7.cell? ⟨b1,o1+j,none⟩=some (.slice an Fm.length cn):=hwf.cell c1 (fun q=>q);have hlen:NLk.length≤120*j:=by have h1:=hro.len;rw[List.length_take,Nat.min_eq_left (by omega)]at h1;have h1:NLk.length≤0+120*j:=h1;omega
   have hal:A.length=j:=by
    have h1:=zeu (FL.take j) ([],[],[]);have h1:(zb8 [] [] (FL.take j)).2.2.length=0+(FL.take j).length:=h1;rw[hA,List.length_take,Nat.min_eq_left (by omega)]at h1;have h1:A.length=0+j:=h1;omega
   have hroot:=zk1 (R:=(· < w.heap.size)) bb (.slice an Fm.length cn) NLk Fm BLk w7 hm.book hro.ok (hN.fr0 hwf) (fun k hk hS=>by have h1:k<w.heap.size:=hk;have:=(hm.sub k hS).1;have:=HS1.out;omega) hg.opts (by have:=hg.le;omega) (fun y hy=>by have:=hg.lens y hy;omega) hg.pos;have HRoot:=Hh hroot;have HM:=Hh hm;have HNx:=Hh hnx;have HAl:=Hh hal;have HA:=Hh hA;clear hroot hm hnx hal hA hro hlen hN hg hFm hFe hnv c1 hwf;go_wp2_with fail;refine HRoot.out.mono ?_
   rintro e w8 ⟨S',rfl,b8,s8,f8⟩;have hM8:=HM.out.root (s':=((addB NLk BLk Fm).1,(addB NLk BLk Fm).2.1)) b8 s8 f8;obtain⟨x,hx⟩:∃x,x=zdm NLk BLk Fm:=⟨_,rfl⟩;rw[←hx];have HM8:=Hh hM8;have HX:=Hh hx;clear hM8 b8 s8 f8 hx d1 ix;go_wp2_with (at_builtin;refine zaq (enc:=encN) _ rfl (.tmp 20) (.tmp 27) 42 rfl w1.heap.size 3 (.int .i64 0) 8 Tryz.underlying42 za8 rfl v A.length (A.map encN) rfl (za2 HM8.out.own1 ((Fr.refl NoM w8).alloc _) (fun _ _ q=>q)) (.slice (some ⟨w8.heap.size,0,none⟩) 1 1) rfl [x] (SliceOf.one encN w8 x 3) (fun _=>rfl) (by have:=HAl.out;simp;omega) (by decide) (by have:=HM8.out.fr.size;rw[World.size_alloc];omega) ?_);intro v9 w9 h9 f9 q9;have hM9:=HM8.out.app ((Fr.refl NoM w8).alloc _) h9 f9 (by rw[World.size_alloc];exact q9);have HM9:=Hh hM9;clear hM9 h9 f9 q9;go_wp2;go_roundw
   case rel =>
    refine⟨j+1,fun k=>S' k/\k<w8.heap.size,v9,rfl,by go_num,by omega,?_⟩;have h:=HM9.out;rw[HNx.out];rw[HX.out]at h;exact h
   case measure=>simp[intOf];omega
  ·have hje:j=FL.length:=by omega
   subst hje;rw[List.take_length]at hm;clear hlt hj;have hro:=zd5 (FL:=FL) RootsOK.start GL.out;have hro:RootsOK (0+120*FL.length) (zb8 [] [] FL):=hro;have hal:=zeu FL ([],[],[]);have hal:(zb8 [] [] FL).2.2.length=0+FL.length:=hal;obtain⟨⟨NL1,BL1,A1⟩,hA1⟩:∃s,zb8 [] [] FL=s:=⟨_,rfl⟩;rw[hA1]at hm hro hal;have hal:A1.length=FL.length:=by have h1:A1.length=0+FL.length:=hal;omega
   have hst:RootsOK (120*FL.length) (NL1,BL1,[]):=⟨hro.ok,hro.up,by have h1:NL1.length≤0+120*FL.length:=hro.len;show NL1.length≤120*FL.length;omega,by simp⟩;have HM:=Hh hm.swap;have HRo:=Hh hro;have HAl1:=Hh hal;have HA1:=Hh hA1;have HSt:=Hh hst;clear hm hro hal hA1 hst;go_wp2_with fail;go_loopw [7,9] (fun v0 i W=>∃(j:Nat) (S2:Nat→Prop) (u:Value),u=v0/\i=.int .i64 j/\j≤FR.length/\Mk w1 W bb ((zb8 NL1 BL1 (FR.take j)).1,(zb8 NL1 BL1 (FR.take j)).2.1) S2 u (zb8 NL1 BL1 (FR.take j)).2.2 v A1) (fun _ i _=>FR.length-(intOf i).toNat)
   case atStart=>exact⟨0,_,_,rfl,rfl,Nat.zero_le _,HM.out⟩
   case round =>
    obtain⟨j,S2,u,rfl,rfl,hj,hm⟩:=hrel;obtain⟨w17,rfl⟩:∃w17,w17=wr:=⟨_,rfl⟩;by_cases hlt:j<FR.length
    ·have hro:=zd5 (FL:=FR.take j) HSt.out (fun Fm h=>GR.out Fm (List.mem_of_mem_take h))
     have hnx:=zik (NL:=NL1) (BL:=BL1) hlt;have hg:=GR.out FR[j] (List.getElem_mem _);obtain⟨Fm,hFm⟩:∃Fm,Fm=FR[j]:=⟨_,rfl⟩;have hFe:FR[j]?=some Fm:=by rw[hFm];exact List.getElem?_eq_getElem _
     obtain⟨nv,hnv⟩:∃nv,VR[j]?=some nv:=⟨VR[j]'(by rw[HLr.out];exact hlt),List.getElem?_eq_getElem _⟩;have hN:=(HFr.out j nv Fm hnv hFe).low;obtain⟨an,cn,rfl,z⟩:=id hN;clear z;obtain⟨b1,o1,rfl,c1⟩:=HCr.out j _ hnv;have ix:=zkc (some ⟨b1,o1,none⟩) FR.length cr j b1 o1 hlt rfl;rw[←hFm]at hg hnx;have hro:RootsOK (120*FL.length+120*(FR.take j).length) (zb8 NL1 BL1 (FR.take j)):=hro;obtain⟨⟨NLk,BLk,A⟩,hA⟩:∃s,zb8 NL1 BL1 (FR.take j)=s:=⟨_,rfl⟩;rw[hA]at hm hro hnx;have hwf:=HF1.out.trans hm.fr (fun _ _ q=>q);have d1:w17.cell? ⟨b1,o1+j,none⟩=some (.slice an Fm.length cn):=hwf.cell c1 (fun q=>q);have hlen:NLk.length≤120*FL.length+120*j:=by have h1:=hro.len;rw[List.length_take,Nat.min_eq_left (by omega)]at h1;exact h1
     have hal:A.length=j:=by
      have h1:=zeu (FR.take j) (NL1,BL1,[]);have h1:(zb8 NL1 BL1 (FR.take j)).2.2.length=0+(FR.take j).length:=h1;rw[hA,List.length_take,Nat.min_eq_left (by omega)]at h1;have h1:A.length=0+j:=h1;omega
     have hroot:=zk1 (R:=(· < w.heap.size)) bb (.slice an Fm.length cn) NLk Fm BLk w17 hm.book hro.ok (hN.fr0 hwf) (fun k hk hS=>by have h1:k<w.heap.size:=hk;have:=(hm.sub k hS).1;have:=HS1.out;omega) hg.opts (by have:=hg.le;omega) (fun y hy=>by have:=hg.lens y hy;omega) hg.pos;have HRoot:=Hh hroot;have HM2:=Hh hm;have HNx:=Hh hnx;have HAl:=Hh hal;have HA:=Hh hA;clear hroot hm hnx hal hA hro hlen hN hg hFm hFe hnv c1 hwf;go_wp2_with fail;refine HRoot.out.mono ?_
     rintro e w18 ⟨S',rfl,b8,s8,f8⟩;have hM8:=HM2.out.root (s':=((addB NLk BLk Fm).1,(addB NLk BLk Fm).2.1)) b8 s8 f8;obtain⟨x,hx⟩:∃x,x=zdm NLk BLk Fm:=⟨_,rfl⟩;rw[←hx];have HM8:=Hh hM8;have HX:=Hh hx;clear hM8 b8 s8 f8 hx d1 ix;go_wp2_with (at_builtin;refine zaq (enc:=encN) _ rfl (.tmp 35) (.tmp 42) 42 rfl w1.heap.size 3 (.int .i64 0) 8 Tryz.underlying42 za8 rfl u A.length (A.map encN) rfl (za2 HM8.out.own1 ((Fr.refl NoM w18).alloc _) (fun _ _ q=>q)) (.slice (some ⟨w18.heap.size,0,none⟩) 1 1) rfl [x] (SliceOf.one encN w18 x 3) (fun _=>rfl) (by have:=HAl.out;simp;omega) (by decide) (by have:=HM8.out.fr.size;rw[World.size_alloc];omega) ?_);intro v9 w9 h9 f9 q9;have hM9:=HM8.out.app ((Fr.refl NoM w18).alloc _) h9 f9 (by rw[World.size_alloc];exact q9);have HM9:=Hh hM9;clear hM9 h9 f9 q9;go_wp2;go_roundw
     case rel =>
      refine⟨j+1,fun k=>S' k/\k<w18.heap.size,v9,rfl,by go_num,by omega,?_⟩;have h:=HM9.out;rw[HNx.out];rw[HX.out]at h;exact h
     case measure=>simp[intOf];omega
    ·have hje:j=FR.length:=by omega
     subst hje;rw[List.take_length]at hm;clear hlt hj;have hro:=zd5 (FL:=FR) HSt.out GR.out;have hle:=zui (FL:=FR) HSt.out GR.out;have hro:RootsOK (120*FL.length+120*FR.length) (zb8 NL1 BL1 FR):=hro;have hle:NL1.length≤(zb8 NL1 BL1 FR).1.length:=hle;have hal:=zeu FR (NL1,BL1,[]);have hal:(zb8 NL1 BL1 FR).2.2.length=0+FR.length:=hal;obtain⟨⟨NL2,BL2,A2⟩,hA2⟩:∃s,zb8 NL1 BL1 FR=s:=⟨_,rfl⟩;rw[hA2]at hm hro hal hle;have hlen:NL2.length≤120*FL.length+120*FR.length:=hro.len;have hA1l:∀x∈A1,x<NL2.length:=fun x hx=>Nat.lt_of_lt_of_le (HRo.out.lt x hx) hle
     have hA2l:∀x∈A2,x<NL2.length:=fun x hx=>hro.lt x hx
     have hal:A2.length=FR.length:=by have h1:A2.length=0+FR.length:=hal;omega
     obtain⟨k1,k2,k3,k4,k5⟩:=zsi hro.ok A1 A2 hA1l hA2l;have hup:=zsg (BL:=BL2) hro.up A1 A2;have hfin:zm9 FL FR=ze7 (putB NL2 BL2 A1 A2).1 (putB NL2 BL2 A1 A2).2.1 (putB NL2 BL2 A1 A2).2.2:=by
      unfold zm9;simp only[HA1.out,hA2]
     have hput:=zsd bb v u NL2 BL2 A1 A2 w17 hm.book (SliceOf.of_owns hm.own2 rfl) (SliceOf.of_owns hm.own1 rfl) (fun j x hx=>hA1l x (List.mem_of_getElem? hx)) (fun j x hx=>hA2l x (List.mem_of_getElem? hx)) (by have:=HAl1.out;omega) (by omega) (by omega)
      (fun x hx=>by have:=hro.ok.lt NL2.length (Nat.le_refl _) x hx;omega)
     have hlens:=hup.lens k1;have HPut:=Hh hput;have HM2:=Hh hm;have HFin:=Hh hfin;have HK:=Hh (And.intro k1 (And.intro k2 (And.intro k3 hlens)));have HLen:=Hh hlen;clear hput hm hfin k1 k2 k3 k4 k5 hlens hlen hup hA1l hA2l hal hle hro hA2;go_wp2_with fail;refine HPut.out.mono ?_
     rintro e w18 ⟨rfl,b8,f8⟩;obtain⟨x,hx⟩:∃x,x=(putB NL2 BL2 A1 A2).2.2:=⟨_,rfl⟩;have hform:=zp8 bb x _ _ w18 b8 HK.out.1 (by rw[hx];exact HK.out.2.1) (by have:=HK.out.2.2.1;have:=HLen.out;omega) (fun y hy=>by have:=HK.out.2.2.2 y hy;have:=HK.out.2.2.1;have:=HLen.out;omega);have hf8:Fr NoM w1 w18:=HM2.out.fr.trans f8 (fun q hq e=>by
      have h1:=(HM2.out.sub q (HM2.out.book.m q e)).1;omega)
     rw[←hx];have HForm:=Hh hform;have HF8:=Hh hf8;have HX:=Hh hx;clear hform hf8 b8 f8 hx;go_wp2_with fail;refine HForm.out.mono ?_
     rintro e w19 ⟨v',rfl,n9,f9⟩;obtain⟨av,cv,rfl,z⟩:=id n9.nodeL;clear z;have hb9:=(HF8.out.trans f9 (fun _ _ q=>q)).heap HB1.out (fun q=>q);have k9:w19.cell? ⟨w.heap.size,0,none⟩=some (.slice none 0 0):=by rw[cell_of_row w19 _ 0 _ _ _ hb9];rfl
     have z9:w19.frozen? ⟨w.heap.size,0,none⟩=false:=by simp[World.frozen?,hb9]
     have HN9:=Hh n9;have HF9:=Hh f9;clear n9 f9 hb9;go_wp2;refine bodyPost_ret (v:=.agg #[.slice av (ze7 (putB NL2 BL2 A1 A2).1 (putB NL2 BL2 A1 A2).2.1 x).length cv]) (by simp[results,Tryz.results19,go_sem,k9]) rfl ?_
     have hlow:w.heap.size<w18.heap.size:=by have:=HF8.out.size;have:=HS1.out;omega
     refine⟨_,rfl,?_,(((HF1.out.trans HF8.out (fun _ _ q=>q)).trans HF9.out (fun _ _ q=>q))).setCell _ _ (fun h=>absurd h (Nat.lt_irrefl _))⟩;rw[HFin.out,←HX.out];refine(HN9.out.fr (Fr.set w19 ⟨w.heap.size,0,none⟩ _) (fun q hq e=>?_)).mono (Nat.le_of_lt hlow);have e:q=w.heap.size:=e;omega
theorem zr8 {R:Nat→Prop}(lv rv:Value)(FL FR:List (List PL))(w:World)(hL:zn1 R w lv FL)(hR:zn1 R w rv FR)(gL:∀Fm∈FL,GoodF Fm)(gR:∀Fm∈FR,GoodF Fm)(nL:FL.length≤1000)(nR:FR.length≤1000) :
  Calls Tryz.prog 19 #[lv,rv] w fun e w'=>∃v',e=.returned (.agg #[v'])/\NodeL (fun b=>w.heap.size≤b) encN w' v' (zm9 FL FR)/\Fr NoM w w':=by
 refine(zr7 lv rv FL FR w hL hR gL gR nL nR).mono ?_
 rintro e w' ⟨v',rfl,h,f⟩;exact⟨v',rfl,h.nodeL,f⟩
theorem SliceOf.unmap {α β:Type}{enc:α→Value}{enc':β→Value}{w:World}{v:Value}{L:List α}{f:α→β}(h:SliceOf enc' w v (L.map f))(hf:∀x,enc' (f x)=enc x):SliceOf enc w v L:=by
 obtain⟨a,c,rfl,h1,h2,h3⟩:=h;refine⟨a,c,by simp,by simpa using h1,h2,fun j x hx=>?_⟩;obtain⟨b,off,ha,hc⟩:=h3 j (f x) (by rw[List.getElem?_map,hx];rfl);exact⟨b,off,ha,by rw[←hf];exact hc⟩
theorem NodeL.toI {R:Nat→Prop}{w:World}{v:Value}{Fm:List PL}(h:NodeL R encN w v Fm):NodeL R encI w v (i2 Fm):=by
 obtain⟨a,c,rfl,h1,h2,h3⟩:=h;refine⟨a,c,by rw[zek],by rw[zek];exact h1,h2,fun j y hy=>?_⟩;obtain⟨x,hx,rfl⟩:=zt7 hy;obtain⟨b,off,lv,rv,ha,hb,c1,c2,s1,s2,r1,r2⟩:=h3 j x hx;exact⟨b,off,lv,rv,ha,hb,c1,c2,Nats.ints s1,Nats.ints s2,fun hne=>r1 (fun e=>hne (by rw[e];rfl)),fun hne=>r2 (fun e=>hne (by rw[e];rfl))⟩
theorem NodeL.ofI {R:Nat→Prop}{w:World}{v:Value}{Fm:List PL}(h:NodeL R encI w v (i2 Fm)):NodeL R encN w v Fm:=by
 obtain⟨a,c,rfl,h1,h2,h3⟩:=h;rw[zek]at h1 ⊢;refine⟨a,c,rfl,h1,h2,fun j x hx=>?_⟩;obtain⟨b,off,lv,rv,ha,hb,c1,c2,s1,s2,r1,r2⟩:=h3 j (ints x.1,ints x.2) (by unfold i2;rw[List.getElem?_map,hx];rfl);have hne:∀L:List Nat,L≠[]→ints L≠[]:=fun L h e=>h (by unfold ints at e;simpa using e)
 exact⟨b,off,lv,rv,ha,hb,c1,c2,SliceOf.unmap s1 (fun _=>rfl),SliceOf.unmap s2 (fun _=>rfl),fun h=>r1 (hne _ h),fun h=>r2 (hne _ h)⟩
theorem zp5 {Fm:List PL}(h:zby Fm=true)(ho:∀(j:Nat) (y:PL),Fm[j]?=some y→(∀i∈y.1,i<j)/\∀i∈y.2,i<j):GoodF Fm:=by
 obtain⟨h1,h2,h3⟩:=of_decide_eq_true h;exact⟨by omega,h1,ho,fun y hy=>by have:=h3 y hy;omega⟩
set_option maxRecDepth 4000 in
set_option maxHeartbeats 4000000 in
theorem zr9 {R:Nat→Prop}(nv:Value)(Fi:List (List Int × List Int))(w:World)(h:NodeL R encI w nv Fi) :
  Calls Tryz.prog 39 #[.agg #[nv]] w fun e w'=>∃b,e=.returned (.bool b)/\(b=true↔zeb Fi)/\Fr NoM w w':=by
 have hN:=h.low;obtain⟨a,c,rfl,h1,h2,h3⟩:=id h;clear h h1 h2;obtain⟨w1,hw1⟩:∃w1,w1=w.alloc (.cells #[.slice a Fi.length c] 27):=⟨_,rfl⟩;have hf1:Fr NoM w w1:=by rw[hw1];exact(Fr.refl NoM w).alloc _
 have hb1:w1.heap[w.heap.size]?=some (.cells #[.slice a Fi.length c] 27 (0,0)):=by rw[hw1];exact heap_alloc_new w _
 have HK:=Hh (fun(W:World) (f:Fr NoM w1 W)=>show W.cell? ⟨w.heap.size,0,none⟩=some (.slice a Fi.length c)from by rw[cell_of_row W _ 0 _ _ _ (f.heap hb1 (fun q=>q))];rfl);have HRd:=Hh (fun(k:Nat) (hk:k<Fi.length) (W:World) (f:Fr NoM w1 W)=>show ∃b off al cl ar cr,a=some ⟨b,off,none⟩/\W.cell? ⟨b,off+k*2,none⟩=some (.slice al Fi[k].1.length cl)/\W.cell? ⟨b,off+k*2+1,none⟩=some (.slice ar Fi[k].2.length cr)/\Ints W (.slice al Fi[k].1.length cl) Fi[k].1/\Ints W (.slice ar Fi[k].2.length cr) Fi[k].2 from by
  obtain⟨b,off,lv,rv,ha,_,c1,c2,s1,s2,_,_⟩:=h3 k Fi[k] (List.getElem?_eq_getElem hk);have f0:=hf1.trans f (fun _ _ q=>q);have s1:=s1.fr0 f0;have s2:=s2.fr0 f0;obtain⟨al,cl,rfl,_⟩:=id s1;obtain⟨ar,cr,rfl,_⟩:=id s2;exact⟨b,off,al,cl,ar,cr,ha,f0.cell c1 (fun q=>q),f0.cell c2 (fun q=>q),s1,s2⟩)
 have HN:=Hh hN;have HF1:=Hh hf1;have HB1:=Hh hb1;have hk1:=HK.out w1 (Fr.refl _ _);clear hN hf1 hb1 h3;go_enter Tryz.func39,Tryz.ntmps39;go_wp2_with fail;rw[←hw1];clear hw1;refine(zra (.slice a Fi.length c) Fi w1 (HN.out.fr0 HF1.out)).mono ?_
 rintro e w2 ⟨rfl,f2⟩;have F2:=Hh f2;clear f2 hk1;cases hfit:zby Fi with
 | false =>
  have HFit:=Hh hfit;clear hfit;go_wp2;go_ret;exact⟨false,rfl,⟨fun e=>(by cases e),fun e=>by have:=e.1;rw[HFit.out]at this;cases this⟩,HF1.out.trans F2.out (fun _ _ q=>q)⟩
 | true =>
  have HFit:=Hh hfit;clear hfit;go_wp2_with fail;go_loopw [3] (fun i W=>∃k:Nat,i=.int .i64 k/\k≤Fi.length/\risI Fi k/\Fr NoM w1 W) (fun i _=>Fi.length-(intOf i).toNat)
  case atStart=>exact⟨0,rfl,Nat.zero_le _,fun j y hj=>by omega,F2.out⟩
  case round =>
   obtain⟨k,rfl,hk,hris,hfr⟩:=hrel;obtain⟨w3,rfl⟩:∃w3,w3=wr:=⟨_,rfl⟩;have HRis:=Hh hris;have HFr:=Hh hfr;have HKl:=Hh hk;clear hris hfr hk;have k3:=HK.out w3 HFr.out;have hfl:Fi.length≤120:=(of_decide_eq_true HFit.out).1;by_cases hlt:k<Fi.length
   ·obtain⟨b,off,al,cl,ar,cr,ha,c1,c2,s1,s2⟩:=HRd.out k hlt w3 HFr.out
    subst ha;have ix:=zbr (some ⟨b,off,none⟩) Fi.length c k b off hlt rfl;have hc1:=zgq (.slice al Fi[k].1.length cl) Fi[k].1 0 ((k:Int)-1) w3 s1;obtain⟨b1,hb1⟩:∃b1,b1=zad 0 ((k:Int)-1) none Fi[k].1:=⟨_,rfl⟩;obtain⟨b2,hb2⟩:∃b2,b2=zad 0 ((k:Int)-1) none Fi[k].2:=⟨_,rfl⟩;have HC2:=Hh (fun(W:World) (f:Fr NoM w3 W)=>zgq (.slice ar Fi[k].2.length cr) Fi[k].2 0 ((k:Int)-1) W (s2.fr0 f));rw[←hb1]at hc1;rw[←hb2]at HC2;have HCell:=Hh (fun(W:World) (f:Fr NoM w3 W)=>show W.cell? ⟨w.heap.size,0,none⟩=some (.slice (some ⟨b,off,none⟩) Fi.length c)/\W.cell? ⟨b,off+k*2+1,none⟩=some (.slice ar Fi[k].2.length cr)from⟨f.cell k3 (fun q=>q),f.cell c2 (fun q=>q)⟩);have HC1:=Hh hc1;have HB1':=Hh hb1;have HB2':=Hh hb2;clear hc1 hb1 hb2 s1 s2 c2;go_wp2_with fail;refine HC1.out.mono ?_
    rintro e w4 ⟨rfl,q,hw4⟩;have hf4:Fr NoM w3 w4:=by rw[hw4];exact⟨rfl,rfl,rfl,Nat.le_refl _,fun _ _ _=>rfl⟩
    obtain⟨k4,c4⟩:=HCell.out w4 hf4;have hc2:=HC2.out w4 hf4;have HC2':=Hh hc2;have HF4:=Hh hf4;clear hc2 hf4 hw4 k3 c1;cases hb:b1 with
    | false =>
     have HBad:=Hh (show zad 0 ((k:Int)-1) none Fi[k].1=false from by rw[←HB1'.out,hb]);subst hb;go_wp2;go_ret;exact⟨false,rfl,⟨fun e=>(by cases e),fun e=>by have h1:=(e.2.1 k Fi[k] hlt (List.getElem?_eq_getElem hlt)).1;rw[HBad.out]at h1;cases h1⟩,(HF1.out.trans HFr.out (fun _ _ q=>q)).trans HF4.out (fun _ _ q=>q)⟩
    | true =>
     have HGood:=Hh (show zad 0 ((k:Int)-1) none Fi[k].1=true from by rw[←HB1'.out,hb]);subst hb;go_wp2_with fail;refine HC2'.out.mono ?_
     rintro e w5 ⟨rfl,q5,hw5⟩;have hf5:Fr NoM w4 w5:=by rw[hw5];exact⟨rfl,rfl,rfl,Nat.le_refl _,fun _ _ _=>rfl⟩
     have HF5:=Hh hf5;clear hf5 hw5 k4 c4;cases hb:b2 with
     | false =>
      have HBad:=Hh (show zad 0 ((k:Int)-1) none Fi[k].2=false from by rw[←HB2'.out,hb]);subst hb;go_wp2;go_ret;exact⟨false,rfl,⟨fun e=>(by cases e),fun e=>by have h1:=(e.2.1 k Fi[k] hlt (List.getElem?_eq_getElem hlt)).2;rw[HBad.out]at h1;cases h1⟩,((HF1.out.trans HFr.out (fun _ _ q=>q)).trans HF4.out (fun _ _ q=>q)).trans HF5.out (fun _ _ q=>q)⟩
     | true =>
      have HGood2:=Hh (show zad 0 ((k:Int)-1) none Fi[k].2=true from by rw[←HB2'.out,hb]);subst hb;go_wp2;go_roundw
      case rel =>
       refine⟨k+1,by go_num,by omega,fun j y hj hy=>?_,(HFr.out.trans HF4.out (fun _ _ q=>q)).trans HF5.out (fun _ _ q=>q)⟩;by_cases e:j=k
       ·subst e
        rw[List.getElem?_eq_getElem hlt]at hy;cases hy
        exact⟨HGood.out,HGood2.out⟩
       ·exact HRis.out j y (by omega) hy
      case measure=>simp[intOf];omega
   ·have hke:k=Fi.length:=by have:=HKl.out;omega
    subst hke;obtain⟨Fm,hFm,ho,hu⟩:=zgx HRis.out;have hgF:GoodF Fm:=zp5 (by rw[←zi2,←hFm];exact HFit.out) ho;have hfin:∀b:Bool,b=decide (i2 (ze7 (addB [] [] Fm).1 (addB [] [] Fm).2.1 (zdm [] [] Fm))=Fi)→(b=true↔zeb Fi):=fun b hb=>by
     rw[hb,decide_eq_true_iff];constructor
     ·intro e
      refine⟨HFit.out,HRis.out,fun F' hF'=>?_⟩;have e1:Fm=F':=zmf (hFm.symm.trans hF');subst e1;rw[hFm]at e;exact zmf e
     ·intro e
      rw[e.2.2 Fm hFm];exact hFm.symm
    obtain⟨k1,k2,k3',k4,k5⟩:=zeq BookOK.nil Fm hgF.opts;have hup:=zty (BL:=[]) BookUp.nil Fm;have hlens:=hup.lens k1;obtain⟨NL1,hNL⟩:∃x,x=(addB [] [] Fm).1:=⟨_,rfl⟩;obtain⟨BL1,hBL⟩:∃x,x=(addB [] [] Fm).2.1:=⟨_,rfl⟩;obtain⟨x,hx⟩:∃x,x=zdm [] [] Fm:=⟨_,rfl⟩;have hxl:x<NL1.length:=by
     rw[hx,hNL];unfold zdm;have hp:=hgF.pos;rw[List.getD_eq_getElem?_getD,List.getElem?_eq_getElem (by omega)];exact k3' _ (List.getElem_mem _)
    have hnl:NL1.length≤120:=by have h1:=hgF.le;have h2:(addB [] [] Fm).1.length≤0+Fm.length:=k4;rw[hNL];omega
    rw[←hNL,←hBL,←hx]at hfin;rw[←hNL,←hBL]at k1;rw[←hNL]at hlens;obtain⟨w5,hw5⟩:∃w5,w5=w3.alloc (.cells #[.slice none 0 0,.slice none 0 0] 79):=⟨_,rfl⟩;have hf5:Fr NoM w3 w5:=by rw[hw5];exact(Fr.refl NoM w3).alloc _
    have hb5:w5.heap[w3.heap.size]?=some (.cells #[.slice none 0 0,.slice none 0 0] 79 (0,0)):=by rw[hw5];exact heap_alloc_new w3 _
    obtain⟨bb,hbb⟩:∃bb,bb=w3.heap.size:=⟨_,rfl⟩;rw[←hbb]at hb5;have hwb:w.heap.size<bb:=by
     have e1:=HFr.out.size;have e2:w.heap.size<w1.heap.size:=(Array.getElem?_eq_some_iff.1 HB1.out).1;omega
    have hf05:=(HF1.out.trans HFr.out (fun _ _ q=>q)).trans hf5 (fun _ _ q=>q);have hNm:NodeL (· < w.heap.size) encN w5 (.slice a Fi.length c) Fm:=by
     have h:=HN.out.fr0 hf05;rw[hFm]at h ⊢;exact h.ofI
    have HRoot:=Hh (fun(W:World) (f:Fr NoM w5 W)=>show Calls Tryz.prog 36 #[.pointer (some ⟨bb,0,none⟩),.agg #[.slice a Fi.length c]] W fun e w'=>∃S',e=.returned (.int .i64 (x:Nat))/\BookS S' w' bb NL1 BL1/\(∀k,S' k→k=bb∨W.heap.size≤k)/\Fr (fun k=>k=bb) W w' from by
     have h:=zk1 (R:=(· < w.heap.size)) bb (.slice a Fi.length c) [] Fm [] W ((BookS.made hb5).fr0 f) BookOK.nil (hNm.fr0 f) (fun k hk e=>by have hk:k<w.heap.size:=hk;omega) hgF.opts (by have:=hgF.le;simp;omega) (fun y hy=>by have:=hgF.lens y hy;omega) hgF.pos;rw[←hNL,←hBL,←hx]at h;exact h)
    have HForm:=Hh (fun(S':Nat→Prop) (W:World) (b:BookS S' W bb NL1 BL1)=>zvq bb x NL1 BL1 W b k1 hxl (by omega) (fun y hy=>by have:=hlens y hy;omega));have HSame:=Hh (fun(W:World) (f:Fr (fun k=>k=bb) w5 W) (R2:Nat→Prop) (v':Value) (G:List PL) (n:NodeL R2 encN W v' G)=>zr6 v' (.slice a Fi.length c) (i2 G) Fi W n.toI ((HN.out.fr0 hf05).fr f (fun k hk e=>by have hk:k<w.heap.size:=hk;omega)));have HCell:=Hh (fun(W:World) (f:Fr (fun k=>k=bb) w5 W)=>show W.cell? ⟨w.heap.size,0,none⟩=some (.slice a Fi.length c)from f.cell (hf5.cell k3 (fun q=>q)) (fun e=>by have e:w.heap.size=bb:=e;omega));have HFin:=Hh hfin;have HBb:=Hh hbb;have HF05:=Hh hf05;have HWb:=Hh hwb;clear hfin hf5 hb5 hf05 hNm hwb k1 k2 k3' k4 k5 hup hlens hNL hBL hx hxl hnl hgF ho hu hFm;go_upto_region 9 with fail;rw[←hw5,←hbb];have HW5:=Hh hw5;clear hw5 hbb k3;have F0:Fr NoM w5 w5.drew:=(Fr.refl NoM w5).drew;have G0:Fr (fun k=>k=bb) w5 w5.drew:=(Fr.refl _ w5).drew;have hc5:=HCell.out w5 (Fr.refl _ _);go_region_held3 (fun(W:World)=>W.cell? ⟨w.heap.size,0,none⟩=some (.slice a Fi.length c))
     (exact HCell.out _ (by assumption))
     (first
      | (go_at_call 36;(with_reducible refine(HRoot.out _ (by assumption)).mono ?_);rintro e w6 ⟨S',rfl,b6,s6,f6⟩;have G6:Fr (fun k=>k=bb) w5 w6:=Fr.trans (by assumption) f6 (fun _ _ q=>q))
      | (go_at_call 37;(with_reducible refine(HForm.out _ _ b6).mono ?_);rintro e w7 ⟨v7,rfl,n7,f7⟩;obtain⟨a7,c7,rfl,z7⟩:=id n7;clear z7;have G7:Fr (fun k=>k=bb) w5 w7:=Fr.trans G6 f7 (fun _ _ q=>q.elim))
      | (go_at_call 74;(with_reducible refine(HSame.out _ (by assumption) _ _ _ n7).mono ?_);rintro e w8 ⟨rfl,f8⟩;have G8:Fr (fun k=>k=bb) w5 w8:=Fr.trans G7 f8 (fun _ _ q=>q.elim))
      | fail)
    all_goals
     have HG8:=Hh G8;clear n7 f7 f8 G6 G7 G8 b6 s6 f6 hc5 F0 G0;obtain⟨bR,hbR⟩:∃bR,bR=decide (i2 (ze7 NL1 BL1 x)=Fi):=⟨_,rfl⟩;rw[←hbR];have HBR:=Hh hbR;clear hbR;go_wp2;go_ret;refine⟨bR,rfl,HFin.out bR HBR.out,HF05.out.trans HG8.out (fun q hq e=>?_)⟩;have:=HWb.out;omega
theorem zmk {R:Nat→Prop}(nv:Value)(Fi:List (List Int × List Int))(w:World)(h:NodeL R encI w nv Fi) :
  Calls Tryz.prog 20 #[.agg #[nv]] w fun e w'=>∃b,e=.returned (.bool b)/\(b=true↔zeb Fi)/\Fr NoM w w':=by
 have O1:nv.oneCell'=true:=by obtain⟨_,_,rfl,_⟩:=h;rfl
 have f1:Fr NoM w (w.alloc (.cells #[nv] 27)):=(Fr.refl NoM w).alloc _;have HG:=Hh (zr9 nv Fi _ (h.fr0 f1));have HF1:=Hh f1;clear h f1;go_enter Tryz.func20,Tryz.ntmps20;go_wp2_with fail;refine HG.out.mono ?_
 rintro e w' ⟨b,rfl,hb,f⟩;have HB:=Hh hb;have HF:=Hh (HF1.out.trans f (fun _ _ q=>q));clear hb f;go_wp2;go_ret;exact⟨b,rfl,HB.out,HF.out⟩
end Go.Proofs.YtkofnbjjbcohgaaGreatDoor
