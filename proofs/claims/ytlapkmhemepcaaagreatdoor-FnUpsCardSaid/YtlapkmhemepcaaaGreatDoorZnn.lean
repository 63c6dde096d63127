import Derived.Test.YtlapkmhemepcaaaGreatDoorZn3
/- Lemmas. -/
namespace Go.Proofs.YtlapkmhemepcaaaGreatDoor
set_option linter.unusedVariables false
set_option linter.unusedSimpArgs false
open Go.RowKit
theorem zs3 (a:Option Addr)(n c k b off:Nat)(hk:k<n)(ha:a=some ⟨b,off,none⟩)(w:World) :
  (Instr.indexAt 59 (.slice a n c) (.int .i64 (k:Int))).run Tryz.prog w=.ok (.pointer (some ⟨b,off+k,none⟩)) w:=by
 subst ha;go_simp
def FormsL (R:Nat→Prop)(w:World)(v:Value)(FL:List (List PL)):Prop :=
 ∃VS:List Value,Vals w v VS/\VS.length=FL.length/\∀(j:Nat) (nv:Value) (Fm:List PL),VS[j]?=some nv→FL[j]?=some Fm→NodeL R encN w nv Fm
theorem NodeL.low {α:Type}{R:Nat→Prop}{enc:α→Value}{w:World}{v:Value}{NL:List (List α × List α)}(h:NodeL R enc w v NL):NodeL (· < w.heap.size) enc w v NL:=by
 obtain⟨a,c,rfl,h1,h2,h3⟩:=h;refine⟨a,c,rfl,h1,h2,fun j y hy=>?_⟩;obtain⟨b,off,lv,rv,ha,hb,c1,c2,s1,s2,r1,r2⟩:=h3 j y hy;refine⟨b,off,lv,rv,ha,World.block_lt_of_cell? w _ c1,c1,c2,s1,s2,fun hne q hq=>?_,fun hne q hq=>?_⟩
 ·obtain⟨b',hb',hl⟩:=s1.block hne;rw[hq]at hb';cases hb';exact hl
 ·obtain⟨b',hb',hl⟩:=s2.block hne;rw[hq]at hb';cases hb';exact hl
structure Mk (w1 W:World) (bb:Nat) (s:List PL × List Nat) (S1:Nat→Prop) (v:Value) (A:List Nat) (u:Value) (B:List Nat):Prop where
 book:BookS S1 W bb s.1 s.2
 sub:∀q,S1 q→w1.heap.size≤q/\q<W.heap.size
 own1:W.ownsRow w1.heap.size 3 1 v A.length (A.map encN)
 own2:W.ownsRow w1.heap.size 3 1 u B.length (B.map encN)
 no1:∀b,v.ownBlock=some b→¬S1 b
 no2:∀b,u.ownBlock=some b→¬S1 b
 sep:∀b,v.ownBlock=some b→u.ownBlock≠some b
 fr:Fr NoM w1 W
theorem Mk.swap {w1 W:World}{bb:Nat}{s:List PL × List Nat}{S1:Nat→Prop}{v u:Value}{A B:List Nat}(h:Mk w1 W bb s S1 v A u B):Mk w1 W bb s S1 u B v A :=
 ⟨h.book,h.sub,h.own2,h.own1,h.no2,h.no1,fun b h1 h2=>h.sep b h2 h1,h.fr⟩
theorem Mk.root {w1 W W':World}{bb:Nat}{s s':List PL × List Nat}{S1 S':Nat→Prop}{v u:Value}{A B:List Nat}(h:Mk w1 W bb s S1 v A u B)(hb:BookS S' W' bb s'.1 s'.2)(hs:∀k,S' k→S1 k∨W.heap.size≤k)(hf:Fr S1 W W'):Mk w1 W' bb s' (fun k=>S' k/\k<W'.heap.size) v A u B:=by
 have key:∀b,(¬S1 b/\b<W.heap.size)→¬(S' b/\b<W'.heap.size):=fun b ⟨h1,h2⟩ ⟨h3,_⟩=>by
  rcases hs b h3 with h|h
  ·exact h1 h
  ·omega
 exact⟨hb.cut,fun q hq=>⟨by
   rcases hs q hq.1 with h1|h1
   ·exact(h.sub q h1).1
   ·exact Nat.le_trans h.fr.size h1,hq.2⟩,za3 h.own1 hf (fun b hb=>h.no1 b hb),za3 h.own2 hf (fun b hb=>h.no2 b hb),fun b hb=>key b ⟨h.no1 b hb,(h.own1.lt b hb).2⟩,fun b hb=>key b ⟨h.no2 b hb,(h.own2.lt b hb).2⟩,h.sep,
  h.fr.trans hf (fun q hq hS=>by have:=(h.sub q hS).1;omega)⟩
theorem Mk.app {w1 W Wa W4:World}{bb:Nat}{s:List PL × List Nat}{S1:Nat→Prop}{v v4 u:Value}{A B:List Nat}{x:Nat}(h:Mk w1 W bb s S1 v A u B)(ha:Fr NoM W Wa)(ho:W4.ownsRow w1.heap.size 3 1 v4 (A.length+1) (A.map encN ++ [x].map encN))(hf:Fr (Own1 v) Wa W4)(hq:v4.ownBlock=v.ownBlock∨∃b,v4.ownBlock=some b/\Wa.heap.size≤b):Mk w1 W4 bb s S1 v4 (A ++ [x]) u B:=by
 have hfa:Fr (Own1 v) W W4:=ha.any.trans hf (fun q _ e=>e);have hlt:∀b,v4.ownBlock=some b→v.ownBlock=some b∨W.heap.size≤b:=fun b hb=>by
  rcases hq with h1|⟨b',h1,h2⟩
  ·rw[h1]at hb;exact .inl hb
  ·rw[h1]at hb;cases hb;exact .inr (Nat.le_trans ha.size h2)
 exact⟨h.book.fr hfa (fun k hk e=>h.no1 k e hk),fun q hq=>⟨(h.sub q hq).1,Nat.lt_of_lt_of_le (h.sub q hq).2 hfa.size⟩,by rw[List.length_append,List.map_append];exact ho,za3 h.own2 hfa (fun b hb e=>h.sep b e hb),
  fun b hb hS=>by
   rcases hlt b hb with h1|h1
   ·exact h.no1 b h1 hS
   ·have:=(h.sub b hS).2;omega,
  h.no2,fun b hb hu=>by
   rcases hlt b hb with h1|h1
   ·exact h.sep b h1 hu
   ·have:=(h.own2.lt b hu).2;omega,
  h.fr.trans hfa (fun q hq e=>by have:=(h.own1.lt q e).1;omega)⟩
theorem BookS.made {w:World}{bb:Nat}(h:w.heap[bb]?=some (.cells #[.slice none 0 0,.slice none 0 0] 147 (0,0))):BookS (fun q=>q=bb) w bb [] [] :=
 ⟨.slice none 0 0,.slice none 0 0,[],⟨h,World.ownsRow_nil _ _ _ _,World.ownsRow_nil _ _ _ _,rfl,rfl,by simp,by simp[Value.ownBlock],by simp[Value.ownBlock],by simp[Value.ownBlock]⟩,fun k hk=>by
  rcases (zbs h).1 hk with h|h|h
  ·exact h
  ·simp[Value.ownBlock]at h
  ·simp[Value.ownBlock]at h,by intro j x y hx;simp at hx⟩
theorem zzv {FL:List (List PL)}:∀ {n:Nat}{s:List PL × List Nat × List Nat},RootsOK n s→(∀Fm∈FL,GoodF Fm)→s.1.length≤(FL.foldl zb6 s).1.length:=by
 induction FL with
 | nil=>intro n s _ _;exact Nat.le_refl _
 | cons f l ih =>
  intro n s h hF;have hf:=hF f List.mem_cons_self;have h1:=ih (h.step hf) (fun g hg=>hF g (List.mem_cons_of_mem _ hg));have h2:=(zh4 h.ok f hf.opts).2.2.2.2.length_le;rw[List.foldl_cons];exact Nat.le_trans h2 h1
theorem RootsOK.start:RootsOK 0 ([],[],[]):=⟨BookOK.nil,BookUp.nil,by simp,by simp⟩
theorem zn0 {NL:List PL}{BL:List Nat}{FL:List (List PL)}{j:Nat}(hj:j<FL.length):zbn NL BL (FL.take (j+1))=zb6 (zbn NL BL (FL.take j)) FL[j]:=by
 rw[List.take_succ_eq_append_getElem hj,zrc]
set_option maxHeartbeats 4000000 in
theorem zux {R:Nat→Prop}(lv rv:Value)(FL FR:List (List PL))(w:World)(hL:FormsL R w lv FL)(hR:FormsL R w rv FR)(gL:∀Fm∈FL,GoodF Fm)(gR:∀Fm∈FR,GoodF Fm)(nL:FL.length≤1000)(nR:FR.length≤1000) :
  Calls Tryz.prog 92 #[lv,rv] w fun e w'=>∃v',e=.returned (.agg #[v'])/\NodeOwn w.heap.size w' v' (zfz FL FR)/\Fr NoM w w':=by
 obtain⟨VL,hvl,hll,hfl⟩:=hL;obtain⟨VR,hvr,hlr,hfr⟩:=hR;obtain⟨al,cl,rfl,zl1,zl2,hcl⟩:=hvl;obtain⟨ar,cr,rfl,zr1,zr2,hcr⟩:=hvr;rw[hll,hlr];have HFl:=Hh hfl;have HFr:=Hh hfr;have HCl:=Hh hcl;have HCr:=Hh hcr;have GL:=Hh gL;have GR:=Hh gR;have HLl:=Hh hll;have HLr:=Hh hlr;clear hfl hfr hcl hcr gL gR hll hlr zl1 zl2 zr1 zr2;go_enter Tryz.func92,Tryz.ntmps92;go_wp2_with fail;obtain⟨w1,hw1⟩:∃w1,w1=w.alloc (.cells #[.slice none 0 0] 26):=⟨_,rfl⟩;have hs1:w1.heap.size=w.heap.size+1:=by rw[hw1];simp
 have hf1:Fr NoM w w1:=by rw[hw1];exact(Fr.refl NoM w).alloc _
 have hb1:w1.heap[w.heap.size]?=some (.cells #[.slice none 0 0] 26 (0,0)):=by rw[hw1];exact heap_alloc_new w _
 rw[←hw1];obtain⟨bb,hbb⟩:∃bb,bb=w.heap.size+1:=⟨_,rfl⟩;obtain⟨w4,hw4⟩:∃w4,w4=((w1.alloc (.cells #[.slice none 0 0,.slice none 0 0] 147)).alloc (.cells #[] 3)).alloc (.cells #[] 3):=⟨_,rfl⟩;have hmk:Mk w1 w4 bb ([],[]) (fun q=>q=bb) (.slice (some ⟨bb+1,0,none⟩) 0 0) [] (.slice (some ⟨bb+1+1,0,none⟩) 0 0) []:=by
  rw[hbb];have hF:Fr NoM w1 w4:=by rw[hw4];exact(((Fr.refl NoM w1).alloc _).alloc _).alloc _
  have hsz:w4.heap.size=w.heap.size+4:=by rw[hw4];simp[hs1]
  have k0:w4.heap[w.heap.size+1]?=some (.cells #[.slice none 0 0,.slice none 0 0] 147 (0,0)):=by
   have h:=heap_alloc_new w1 (.cells #[.slice none 0 0,.slice none 0 0] 147);rw[hs1]at h;rw[hw4];exact(((Fr.refl NoM _).alloc _).alloc _).heap h (fun q=>q)
  have o1:w4.ownsRow w1.heap.size 3 1 (.slice (some ⟨w.heap.size+1+1,0,none⟩) 0 0) 0 []:=by
   have h:=World.ownsRow_made (base:=w1.heap.size) (e:=3) (size:=1) (w1.alloc (.cells #[.slice none 0 0,.slice none 0 0] 147)) #[] 0 (by simp) (by decide) (by simp);simp only[World.size_alloc,hs1]at h;rw[hw4,hs1];exact za3 h ((Fr.refl NoM _).alloc _) (fun _ _ q=>q)
  have o2:w4.ownsRow w1.heap.size 3 1 (.slice (some ⟨w.heap.size+1+1+1,0,none⟩) 0 0) 0 []:=by
   have h:=World.ownsRow_made (base:=w1.heap.size) (e:=3) (size:=1) ((w1.alloc (.cells #[.slice none 0 0,.slice none 0 0] 147)).alloc (.cells #[] 3)) #[] 0 (by simp;omega) (by decide) (by simp);simp only[World.size_alloc,hs1]at h;rw[hw4,hs1];exact h
  refine⟨BookS.made k0,fun q hq=>⟨by omega,by omega⟩,o1,o2,fun b hb e=>?_,fun b hb e=>?_,fun b hb e=>?_,hF⟩
  ·have hb:w.heap.size+1+1=b:=Option.some.inj hb
   omega
  ·have hb:w.heap.size+1+1+1=b:=Option.some.inj hb
   omega
  ·have hb:w.heap.size+1+1=b:=Option.some.inj hb
   have e:w.heap.size+1+1+1=b:=Option.some.inj e;omega
 rw[←hw4];have HMk:=Hh hmk;have HF1:=Hh hf1;have HB1:=Hh hb1;have HS1:=Hh hs1;clear hmk hf1 hb1 hs1 hw4 hw1;rw[←hbb];have HBb:=Hh hbb;clear hbb;go_loopw [6,8] (fun v0 i W=>∃(j:Nat) (S1:Nat→Prop) (v:Value),v=v0/\i=.int .i64 j/\j≤FL.length/\Mk w1 W bb ((zbn [] [] (FL.take j)).1,(zbn [] [] (FL.take j)).2.1) S1 v (zbn [] [] (FL.take j)).2.2 (.slice (some ⟨bb+1+1,0,none⟩) 0 0) []) (fun _ i _=>FL.length-(intOf i).toNat)
 case atStart=>exact⟨0,_,_,rfl,rfl,Nat.zero_le _,HMk.out⟩
 case round =>
  obtain⟨j,S1,v,rfl,rfl,hj,hm⟩:=hrel;obtain⟨w7,rfl⟩:∃w7,w7=wr:=⟨_,rfl⟩;by_cases hlt:j<FL.length
  ·have hro:=zed (FL:=FL.take j) RootsOK.start (fun Fm h=>GL.out Fm (List.mem_of_mem_take h))
   have hnx:=zn0 (NL:=[]) (BL:=[]) hlt;have hg:=GL.out FL[j] (List.getElem_mem _);obtain⟨Fm,hFm⟩:∃Fm,Fm=FL[j]:=⟨_,rfl⟩;have hFe:FL[j]?=some Fm:=by rw[hFm];exact List.getElem?_eq_getElem _
   obtain⟨nv,hnv⟩:∃nv,VL[j]?=some nv:=⟨VL[j]'(by rw[HLl.out];exact hlt),List.getElem?_eq_getElem _⟩;have hN:=(HFl.out j nv Fm hnv hFe).low;obtain⟨an,cn,rfl,z⟩:=id hN;clear z;obtain⟨b1,o1,rfl,c1⟩:=HCl.out j _ hnv;have ix:=zs3 (some ⟨b1,o1,none⟩) FL.length cl j b1 o1 hlt rfl;rw[←hFm]at hg hnx;have hro:RootsOK (0+120*(FL.take j).length) (zbn [] [] (FL.take j)):=hro;obtain⟨⟨NLk,BLk,A⟩,hA⟩:∃s,zbn [] [] (FL.take j)=s:=⟨_,rfl⟩;rw[hA]at hm hro hnx;have hwf:=HF1.out.trans hm.fr (fun _ _ q=>q);have d1:w7.cell? ⟨b1,o1+j,none⟩=some (.slice an Fm.length cn):=hwf.cell c1 (fun q=>q);have hlen:NLk.length≤120*j:=by have h1:=hro.len;rw[List.length_take,Nat.min_eq_left (by omega)]at h1;have h1:NLk.length≤0+120*j:=h1;omega
   have hal:A.length=j:=by
    have h1:=zgd (FL.take j) ([],[],[]);have h1:(zbn [] [] (FL.take j)).2.2.length=0+(FL.take j).length:=h1;rw[hA,List.length_take,Nat.min_eq_left (by omega)]at h1;have h1:A.length=0+j:=h1;omega
   have hroot:=zt3 (R:=(· < w.heap.size)) bb (.slice an Fm.length cn) NLk Fm BLk w7 hm.book hro.ok (hN.fr0 hwf) (fun k hk hS=>by have h1:k<w.heap.size:=hk;have:=(hm.sub k hS).1;have:=HS1.out;omega) hg.opts (by have:=hg.le;omega) (fun y hy=>by have:=hg.lens y hy;omega) hg.pos;have HRoot:=Hh hroot;have HM:=Hh hm;have HNx:=Hh hnx;have HAl:=Hh hal;have HA:=Hh hA;clear hroot hm hnx hal hA hro hlen hN hg hFm hFe hnv c1 hwf;go_wp2_with fail;refine HRoot.out.mono ?_
   rintro e w8 ⟨S',rfl,b8,s8,f8⟩;have hM8:=HM.out.root (s':=((addB NLk BLk Fm).1,(addB NLk BLk Fm).2.1)) b8 s8 f8;obtain⟨x,hx⟩:∃x,x=zfm NLk BLk Fm:=⟨_,rfl⟩;rw[←hx];have HM8:=Hh hM8;have HX:=Hh hx;clear hM8 b8 s8 f8 hx d1 ix;go_wp2_with (at_builtin;refine zai (enc:=encN) _ rfl (.tmp 20) (.tmp 27) 100 rfl w1.heap.size 3 (.int .i64 0) 8 Tryz.underlying100 za9 rfl v A.length (A.map encN) rfl (za3 HM8.out.own1 ((Fr.refl NoM w8).alloc _) (fun _ _ q=>q)) (.slice (some ⟨w8.heap.size,0,none⟩) 1 1) rfl [x] (SliceOf.one encN w8 x 3) (fun _=>rfl) (by have:=HAl.out;simp;omega) (by decide) (by have:=HM8.out.fr.size;rw[World.size_alloc];omega) ?_);intro v9 w9 h9 f9 q9;have hM9:=HM8.out.app ((Fr.refl NoM w8).alloc _) h9 f9 (by rw[World.size_alloc];exact q9);have HM9:=Hh hM9;clear hM9 h9 f9 q9;go_wp2;go_roundw
   case rel =>
    refine⟨j+1,fun k=>S' k/\k<w8.heap.size,v9,rfl,by go_num,by omega,?_⟩;have h:=HM9.out;rw[HNx.out];rw[HX.out]at h;exact h
   case measure=>simp[intOf];omega
  ·have hje:j=FL.length:=by omega
   subst hje;rw[List.take_length]at hm;clear hlt hj;have hro:=zed (FL:=FL) RootsOK.start GL.out;have hro:RootsOK (0+120*FL.length) (zbn [] [] FL):=hro;have hal:=zgd FL ([],[],[]);have hal:(zbn [] [] FL).2.2.length=0+FL.length:=hal;obtain⟨⟨NL1,BL1,A1⟩,hA1⟩:∃s,zbn [] [] FL=s:=⟨_,rfl⟩;rw[hA1]at hm hro hal;have hal:A1.length=FL.length:=by have h1:A1.length=0+FL.length:=hal;omega
   have hst:RootsOK (120*FL.length) (NL1,BL1,[]):=⟨hro.ok,hro.up,by have h1:NL1.length≤0+120*FL.length:=hro.len;show NL1.length≤120*FL.length;omega,by simp⟩;have HM:=Hh hm.swap;have HRo:=Hh hro;have HAl1:=Hh hal;have HA1:=Hh hA1;have HSt:=Hh hst;clear hm hro hal hA1 hst;go_wp2_with fail;go_loopw [7,9] (fun v0 i W=>∃(j:Nat) (S2:Nat→Prop) (u:Value),u=v0/\i=.int .i64 j/\j≤FR.length/\Mk w1 W bb ((zbn NL1 BL1 (FR.take j)).1,(zbn NL1 BL1 (FR.take j)).2.1) S2 u (zbn NL1 BL1 (FR.take j)).2.2 v A1) (fun _ i _=>FR.length-(intOf i).toNat)
   case atStart=>exact⟨0,_,_,rfl,rfl,Nat.zero_le _,HM.out⟩
   case round =>
    obtain⟨j,S2,u,rfl,rfl,hj,hm⟩:=hrel;obtain⟨w17,rfl⟩:∃w17,w17=wr:=⟨_,rfl⟩;by_cases hlt:j<FR.length
    ·have hro:=zed (FL:=FR.take j) HSt.out (fun Fm h=>GR.out Fm (List.mem_of_mem_take h))
     have hnx:=zn0 (NL:=NL1) (BL:=BL1) hlt;have hg:=GR.out FR[j] (List.getElem_mem _);obtain⟨Fm,hFm⟩:∃Fm,Fm=FR[j]:=⟨_,rfl⟩;have hFe:FR[j]?=some Fm:=by rw[hFm];exact List.getElem?_eq_getElem _
     obtain⟨nv,hnv⟩:∃nv,VR[j]?=some nv:=⟨VR[j]'(by rw[HLr.out];exact hlt),List.getElem?_eq_getElem _⟩;have hN:=(HFr.out j nv Fm hnv hFe).low;obtain⟨an,cn,rfl,z⟩:=id hN;clear z;obtain⟨b1,o1,rfl,c1⟩:=HCr.out j _ hnv;have ix:=zs3 (some ⟨b1,o1,none⟩) FR.length cr j b1 o1 hlt rfl;rw[←hFm]at hg hnx;have hro:RootsOK (120*FL.length+120*(FR.take j).length) (zbn NL1 BL1 (FR.take j)):=hro;obtain⟨⟨NLk,BLk,A⟩,hA⟩:∃s,zbn NL1 BL1 (FR.take j)=s:=⟨_,rfl⟩;rw[hA]at hm hro hnx;have hwf:=HF1.out.trans hm.fr (fun _ _ q=>q);have d1:w17.cell? ⟨b1,o1+j,none⟩=some (.slice an Fm.length cn):=hwf.cell c1 (fun q=>q);have hlen:NLk.length≤120*FL.length+120*j:=by have h1:=hro.len;rw[List.length_take,Nat.min_eq_left (by omega)]at h1;exact h1
     have hal:A.length=j:=by
      have h1:=zgd (FR.take j) (NL1,BL1,[]);have h1:(zbn NL1 BL1 (FR.take j)).2.2.length=0+(FR.take j).length:=h1;rw[hA,List.length_take,Nat.min_eq_left (by omega)]at h1;have h1:A.length=0+j:=h1;omega
     have hroot:=zt3 (R:=(· < w.heap.size)) bb (.slice an Fm.length cn) NLk Fm BLk w17 hm.book hro.ok (hN.fr0 hwf) (fun k hk hS=>by have h1:k<w.heap.size:=hk;have:=(hm.sub k hS).1;have:=HS1.out;omega) hg.opts (by have:=hg.le;omega) (fun y hy=>by have:=hg.lens y hy;omega) hg.pos;have HRoot:=Hh hroot;have HM2:=Hh hm;have HNx:=Hh hnx;have HAl:=Hh hal;have HA:=Hh hA;clear hroot hm hnx hal hA hro hlen hN hg hFm hFe hnv c1 hwf;go_wp2_with fail;refine HRoot.out.mono ?_
     rintro e w18 ⟨S',rfl,b8,s8,f8⟩;have hM8:=HM2.out.root (s':=((addB NLk BLk Fm).1,(addB NLk BLk Fm).2.1)) b8 s8 f8;obtain⟨x,hx⟩:∃x,x=zfm NLk BLk Fm:=⟨_,rfl⟩;rw[←hx];have HM8:=Hh hM8;have HX:=Hh hx;clear hM8 b8 s8 f8 hx d1 ix;go_wp2_with (at_builtin;refine zai (enc:=encN) _ rfl (.tmp 35) (.tmp 42) 100 rfl w1.heap.size 3 (.int .i64 0) 8 Tryz.underlying100 za9 rfl u A.length (A.map encN) rfl (za3 HM8.out.own1 ((Fr.refl NoM w18).alloc _) (fun _ _ q=>q)) (.slice (some ⟨w18.heap.size,0,none⟩) 1 1) rfl [x] (SliceOf.one encN w18 x 3) (fun _=>rfl) (by have:=HAl.out;simp;omega) (by decide) (by have:=HM8.out.fr.size;rw[World.size_alloc];omega) ?_);intro v9 w9 h9 f9 q9;have hM9:=HM8.out.app ((Fr.refl NoM w18).alloc _) h9 f9 (by rw[World.size_alloc];exact q9);have HM9:=Hh hM9;clear hM9 h9 f9 q9;go_wp2;go_roundw
     case rel =>
      refine⟨j+1,fun k=>S' k/\k<w18.heap.size,v9,rfl,by go_num,by omega,?_⟩;have h:=HM9.out;rw[HNx.out];rw[HX.out]at h;exact h
     case measure=>simp[intOf];omega
    ·have hje:j=FR.length:=by omega
     subst hje;rw[List.take_length]at hm;clear hlt hj;have hro:=zed (FL:=FR) HSt.out GR.out;have hle:=zzv (FL:=FR) HSt.out GR.out;have hro:RootsOK (120*FL.length+120*FR.length) (zbn NL1 BL1 FR):=hro;have hle:NL1.length≤(zbn NL1 BL1 FR).1.length:=hle;have hal:=zgd FR (NL1,BL1,[]);have hal:(zbn NL1 BL1 FR).2.2.length=0+FR.length:=hal;obtain⟨⟨NL2,BL2,A2⟩,hA2⟩:∃s,zbn NL1 BL1 FR=s:=⟨_,rfl⟩;rw[hA2]at hm hro hal hle;have hlen:NL2.length≤120*FL.length+120*FR.length:=hro.len;have hA1l:∀x∈A1,x<NL2.length:=fun x hx=>Nat.lt_of_lt_of_le (HRo.out.lt x hx) hle
     have hA2l:∀x∈A2,x<NL2.length:=fun x hx=>hro.lt x hx
     have hal:A2.length=FR.length:=by have h1:A2.length=0+FR.length:=hal;omega
     obtain⟨k1,k2,k3,k4,k5⟩:=zxe hro.ok A1 A2 hA1l hA2l;have hup:=zxd (BL:=BL2) hro.up A1 A2;have hfin:zfz FL FR=zdg (putB NL2 BL2 A1 A2).1 (putB NL2 BL2 A1 A2).2.1 (putB NL2 BL2 A1 A2).2.2:=by
      unfold zfz;simp only[HA1.out,hA2]
     have hput:=zri bb v u NL2 BL2 A1 A2 w17 hm.book (SliceOf.of_owns hm.own2 rfl) (SliceOf.of_owns hm.own1 rfl) (fun j x hx=>hA1l x (List.mem_of_getElem? hx)) (fun j x hx=>hA2l x (List.mem_of_getElem? hx)) (by have:=HAl1.out;omega) (by omega) (by omega)
      (fun x hx=>by have:=hro.ok.lt NL2.length (Nat.le_refl _) x hx;omega)
     have hlens:=hup.lens k1;have HPut:=Hh hput;have HM2:=Hh hm;have HFin:=Hh hfin;have HK:=Hh (And.intro k1 (And.intro k2 (And.intro k3 hlens)));have HLen:=Hh hlen;clear hput hm hfin k1 k2 k3 k4 k5 hlens hlen hup hA1l hA2l hal hle hro hA2;go_wp2_with fail;refine HPut.out.mono ?_
     rintro e w18 ⟨rfl,b8,f8⟩;obtain⟨x,hx⟩:∃x,x=(putB NL2 BL2 A1 A2).2.2:=⟨_,rfl⟩;have hform:=ztz bb x _ _ w18 b8 HK.out.1 (by rw[hx];exact HK.out.2.1) (by have:=HK.out.2.2.1;have:=HLen.out;omega) (fun y hy=>by have:=HK.out.2.2.2 y hy;have:=HK.out.2.2.1;have:=HLen.out;omega);have hf8:Fr NoM w1 w18:=HM2.out.fr.trans f8 (fun q hq e=>by
      have h1:=(HM2.out.sub q (HM2.out.book.m q e)).1;omega)
     rw[←hx];have HForm:=Hh hform;have HF8:=Hh hf8;have HX:=Hh hx;clear hform hf8 b8 f8 hx;go_wp2_with fail;refine HForm.out.mono ?_
     rintro e w19 ⟨v',rfl,n9,f9⟩;obtain⟨av,cv,rfl,z⟩:=id n9.nodeL;clear z;have hb9:=(HF8.out.trans f9 (fun _ _ q=>q)).heap HB1.out (fun q=>q);have k9:w19.cell? ⟨w.heap.size,0,none⟩=some (.slice none 0 0):=by rw[cell_of_row w19 _ 0 _ _ _ hb9];rfl
     have z9:w19.frozen? ⟨w.heap.size,0,none⟩=false:=by simp[World.frozen?,hb9]
     have HN9:=Hh n9;have HF9:=Hh f9;clear n9 f9 hb9;go_wp2;refine bodyPost_ret (v:=.agg #[.slice av (zdg (putB NL2 BL2 A1 A2).1 (putB NL2 BL2 A1 A2).2.1 x).length cv]) (by simp[results,Tryz.results92,go_sem,k9]) rfl ?_
     have hlow:w.heap.size<w18.heap.size:=by have:=HF8.out.size;have:=HS1.out;omega
     refine⟨_,rfl,?_,(((HF1.out.trans HF8.out (fun _ _ q=>q)).trans HF9.out (fun _ _ q=>q))).setCell _ _ (fun h=>absurd h (Nat.lt_irrefl _))⟩;rw[HFin.out,←HX.out];refine(HN9.out.fr (Fr.set w19 ⟨w.heap.size,0,none⟩ _) (fun q hq e=>?_)).mono (Nat.le_of_lt hlow);have e:q=w.heap.size:=e;omega
theorem zn8 {R:Nat→Prop}(lv rv:Value)(FL FR:List (List PL))(w:World)(hL:FormsL R w lv FL)(hR:FormsL R w rv FR)(gL:∀Fm∈FL,GoodF Fm)(gR:∀Fm∈FR,GoodF Fm)(nL:FL.length≤1000)(nR:FR.length≤1000) :
  Calls Tryz.prog 92 #[lv,rv] w fun e w'=>∃v',e=.returned (.agg #[v'])/\NodeL (fun b=>w.heap.size≤b) encN w' v' (zfz FL FR)/\Fr NoM w w':=by
 refine(zux lv rv FL FR w hL hR gL gR nL nR).mono ?_
 rintro e w' ⟨v',rfl,h,f⟩;exact⟨v',rfl,h.nodeL,f⟩
theorem SliceOf.unmap {α β:Type}{enc:α→Value}{enc':β→Value}{w:World}{v:Value}{L:List α}{f:α→β}(h:SliceOf enc' w v (L.map f))(hf:∀x,enc' (f x)=enc x):SliceOf enc w v L:=by
 obtain⟨a,c,rfl,h1,h2,h3⟩:=h;refine⟨a,c,by simp,by simpa using h1,h2,fun j x hx=>?_⟩;obtain⟨b,off,ha,hc⟩:=h3 j (f x) (by rw[List.getElem?_map,hx];rfl);exact⟨b,off,ha,by rw[←hf];exact hc⟩
theorem NodeL.toI {R:Nat→Prop}{w:World}{v:Value}{Fm:List PL}(h:NodeL R encN w v Fm):NodeL R encI w v (i2 Fm):=by
 obtain⟨a,c,rfl,h1,h2,h3⟩:=h;refine⟨a,c,by rw[zc3],by rw[zc3];exact h1,h2,fun j y hy=>?_⟩;obtain⟨x,hx,rfl⟩:=zy9 hy;obtain⟨b,off,lv,rv,ha,hb,c1,c2,s1,s2,r1,r2⟩:=h3 j x hx;exact⟨b,off,lv,rv,ha,hb,c1,c2,Nats.ints s1,Nats.ints s2,fun hne=>r1 (fun e=>hne (by rw[e];rfl)),fun hne=>r2 (fun e=>hne (by rw[e];rfl))⟩
theorem NodeL.ofI {R:Nat→Prop}{w:World}{v:Value}{Fm:List PL}(h:NodeL R encI w v (i2 Fm)):NodeL R encN w v Fm:=by
 obtain⟨a,c,rfl,h1,h2,h3⟩:=h;rw[zc3]at h1 ⊢;refine⟨a,c,rfl,h1,h2,fun j x hx=>?_⟩;obtain⟨b,off,lv,rv,ha,hb,c1,c2,s1,s2,r1,r2⟩:=h3 j (ints x.1,ints x.2) (by unfold i2;rw[List.getElem?_map,hx];rfl);have hne:∀L:List Nat,L≠[]→ints L≠[]:=fun L h e=>h (by unfold ints at e;simpa using e)
 exact⟨b,off,lv,rv,ha,hb,c1,c2,SliceOf.unmap s1 (fun _=>rfl),SliceOf.unmap s2 (fun _=>rfl),fun h=>r1 (hne _ h),fun h=>r2 (hne _ h)⟩
structure BkSt (w1 W:World) (bb:Nat) (V:List PL) (BV:List Nat) (S:Nat→Prop) (v1:Value) (A1 c1:List Nat) (v2:Value) (A2 c2:List Nat) (v3:Value) (A3 c3:List Nat):Prop where
 book:BookS S W bb V BV
 ok:PoolOK V BV
 sub:∀q,S q→w1.heap.size≤q/\q<W.heap.size
 o1:W.ownsRow w1.heap.size 3 1 v1 A1.length (A1.map encN)
 o2:W.ownsRow w1.heap.size 3 1 v2 A2.length (A2.map encN)
 o3:W.ownsRow w1.heap.size 3 1 v3 A3.length (A3.map encN)
 n1:∀b,v1.ownBlock=some b→¬S b
 n2:∀b,v2.ownBlock=some b→¬S b
 n3:∀b,v3.ownBlock=some b→¬S b
 s12:∀b,v1.ownBlock=some b→v2.ownBlock≠some b
 s13:∀b,v1.ownBlock=some b→v3.ownBlock≠some b
 s23:∀b,v2.ownBlock=some b→v3.ownBlock≠some b
 r1:RowC V A1 c1
 r2:RowC V A2 c2
 r3:RowC V A3 c3
 fr:Fr NoM w1 W
section
variable {w1 W W' Wa:World}{bb:Nat}{V:List PL}{BV:List Nat}{S S':Nat→Prop}{v1 v2 v3 v4:Value}{A1 c1 A2 c2 A3 c3:List Nat}{x c:Nat}
theorem BkSt.fr0 (h:BkSt w1 W bb V BV S v1 A1 c1 v2 A2 c2 v3 A3 c3)(hf:Fr NoM W W'):BkSt w1 W' bb V BV S v1 A1 c1 v2 A2 c2 v3 A3 c3 :=
 ⟨h.book.fr0 hf,h.ok,fun q hq=>⟨(h.sub q hq).1,Nat.lt_of_lt_of_le (h.sub q hq).2 hf.size⟩,za3 h.o1 hf (fun _ _ q=>q),za3 h.o2 hf (fun _ _ q=>q),za3 h.o3 hf (fun _ _ q=>q),h.n1,h.n2,h.n3,h.s12,h.s13,h.s23,h.r1,h.r2,h.r3,h.fr.trans hf (fun _ _ q=>q)⟩
theorem BkSt.app (h:BkSt w1 W bb V BV S v1 A1 c1 v2 A2 c2 v3 A3 c3)(ha:Fr NoM W Wa)(ho:W'.ownsRow w1.heap.size 3 1 v4 (A1.length+1) (A1.map encN ++ [x].map encN))(hf:Fr (Own1 v1) Wa W')(hq:v4.ownBlock=v1.ownBlock∨∃b,v4.ownBlock=some b/\Wa.heap.size≤b)(hx:x<V.length)(hc:(za0 V).getD x 0=c) :
  BkSt w1 W' bb V BV S v4 (A1 ++ [x]) (c1 ++ [c]) v2 A2 c2 v3 A3 c3:=by
 have h:=h.fr0 ha;have hlt:∀b,v4.ownBlock=some b→v1.ownBlock=some b∨Wa.heap.size≤b:=fun b hb=>by
  rcases hq with h1|⟨b',h1,h2⟩
  ·rw[h1]at hb;exact .inl hb
  ·rw[h1]at hb;cases hb;exact .inr h2
 exact⟨h.book.fr hf (fun k hk e=>h.n1 k e hk),h.ok,fun q hq=>⟨(h.sub q hq).1,Nat.lt_of_lt_of_le (h.sub q hq).2 hf.size⟩,by rw[List.length_append,List.map_append];exact ho,za3 h.o2 hf (fun b hb e=>h.s12 b e hb),za3 h.o3 hf (fun b hb e=>h.s13 b e hb),
  fun b hb hS=>by
   rcases hlt b hb with h1|h1
   ·exact h.n1 b h1 hS
   ·have:=(h.sub b hS).2;omega,
  h.n2,h.n3,fun b hb hu=>by
   rcases hlt b hb with h1|h1
   ·exact h.s12 b h1 hu
   ·have:=(h.o2.lt b hu).2;omega,fun b hb hu=>by
   rcases hlt b hb with h1|h1
   ·exact h.s13 b h1 hu
   ·have:=(h.o3.lt b hu).2;omega,h.s23,h.r1.snoc hx hc,h.r2,h.r3,
  h.fr.trans hf (fun q hq e=>by have:=(h.o1.lt q e).1;omega)⟩
theorem BkSt.put {L3 R3 cs ds:List Nat}(h:BkSt w1 W bb V BV S v1 A1 c1 v2 A2 c2 v3 A3 c3)(hL:RowC V L3 cs)(hR:RowC V R3 ds)(hb:BookS (fun k=>S k∨W.heap.size≤k) W' bb (putB V BV L3 R3).1 (putB V BV L3 R3).2.1)(hf:Fr (zcz W bb) W W') :
  BkSt w1 W' bb (za4 V BV L3 R3).1 (za4 V BV L3 R3).2.1 (fun k=>(S k∨W.heap.size≤k)/\k<W'.heap.size) v1 A1 c1 v2 A2 c2 v3 A3 c3/\(putB V BV L3 R3).2.2<(za4 V BV L3 R3).1.length/\(za0 (za4 V BV L3 R3).1).getD (putB V BV L3 R3).2.2 0=mkC cs ds ∧
   V <+: (za4 V BV L3 R3).1/\(za4 V BV L3 R3).1.length≤V.length+1:=by
 obtain⟨q1,q2,q3,q4⟩:=zi3 h.ok hL hR;obtain⟨_,q5,_⟩:=zge V BV L3 R3;rw[zex h.ok]at hb ⊢;have hm:=h.book.m;have hsz:=h.fr.size;refine⟨⟨hb.cut,q1,fun q hq=>⟨hq.1.elim (fun e=>(h.sub q e).1) (fun e=>by omega),hq.2⟩,za3 h.o1 hf (fun b e z=>h.n1 b e (hm b z)),za3 h.o2 hf (fun b e z=>h.n2 b e (hm b z)),za3 h.o3 hf (fun b e z=>h.n3 b e (hm b z)),
  fun b e z=>z.1.elim (h.n1 b e) (fun k=>by have:=(h.o1.lt b e).2;omega),fun b e z=>z.1.elim (h.n2 b e) (fun k=>by have:=(h.o2.lt b e).2;omega),fun b e z=>z.1.elim (h.n3 b e) (fun k=>by have:=(h.o3.lt b e).2;omega),
  h.s12,h.s13,h.s23,h.r1.mono q2,h.r2.mono q2,h.r3.mono q2,h.fr.trans hf (fun q hq z=>by have:=(h.sub q (hm q z)).1;omega)⟩,q3,q4,q2,q5⟩
theorem BkSt.nats1 (h:BkSt w1 W bb V BV S v1 A1 c1 v2 A2 c2 v3 A3 c3):Nats W v1 A1:=SliceOf.of_owns h.o1 rfl
end
theorem yc0 {CF A L:List Nat}{i:Nat}(hL:∀x∈L,x<i)(hi:i≤CF.length):za2 ((CF.map negC).take i) L=(za2 CF L).map negC:=by
 unfold za2;rw[List.map_map];refine List.map_congr_left fun x hx=>?_
 have hl:=hL x hx;simp[List.getD_eq_getElem?_getD,List.getElem?_take,hl,List.getElem?_map,List.getElem?_eq_getElem (show x<CF.length by omega)]
set_option maxRecDepth 8000 in
set_option maxHeartbeats 16000000 in
theorem zy0 {R:Nat→Prop}(v1:Value)(Fs:List PL)(w:World)(h1:NodeL R encN w v1 Fs)(oF:OptsOK Fs)(lF:∀y∈Fs,y.1.length≤24/\y.2.length≤24)(pF:0<Fs.length)(hFl:Fs.length≤120) :
  Calls Tryz.prog 134 #[.agg #[v1]] w fun e w'=>∃v',e=.returned (.agg #[v'])/\NodeL (fun b=>w.heap.size≤b) encN w' v' (za6 (negC (zas Fs)))/\Fr NoM w w':=by
 obtain⟨w3,hw3⟩:∃w3,w3=(w.alloc (.cells #[v1] 26)).alloc (.cells #[.slice none 0 0] 26):=⟨_,rfl⟩;have f3:Fr NoM w w3:=by rw[hw3];exact((Fr.refl NoM w).alloc _).alloc _
 have hs3:w3.heap.size=w.heap.size+2:=by rw[hw3];simp
 have e0:w3.heap[w.heap.size]?=some (.cells #[v1] 26 (0,0)):=by rw[hw3];exact((Fr.refl NoM _).alloc _).heap (heap_alloc_new w _) (fun q=>q)
 have e2:w3.heap[w.heap.size+1]?=some (.cells #[.slice none 0 0] 26 (0,0)):=by
  have h:=heap_alloc_new (w.alloc (.cells #[v1] 26)) (.cells #[.slice none 0 0] 26);rw[World.size_alloc]at h;rw[hw3];exact h
 obtain⟨bb,hbb⟩:∃bb,bb=w.heap.size+1+1:=⟨_,rfl⟩;obtain⟨q0,hq0⟩:∃q0,q0=Value.slice (some ⟨w.heap.size+1+1+1,0,none⟩) 0 0:=⟨_,rfl⟩;obtain⟨w4,hw4⟩:∃w4,w4=w3.alloc (.cells #[.slice none 0 0,.slice none 0 0] 147):=⟨_,rfl⟩;have f4:Fr NoM w3 w4:=by rw[hw4];exact(Fr.refl NoM w3).alloc _
 have hs4:w4.heap.size=w.heap.size+3:=by rw[hw4];simp[hs3]
 have e4:w4.heap[bb]?=some (.cells #[.slice none 0 0,.slice none 0 0] 147 (0,0)):=by rw[hw4,hbb,show w.heap.size+1+1=w3.heap.size from by omega];exact heap_alloc_new w3 _
 obtain⟨w5,hw5⟩:∃w5,w5=w4.alloc (.cells #[] 3):=⟨_,rfl⟩;have f5:Fr NoM w4 w5:=by rw[hw5];exact(Fr.refl NoM w4).alloc _
 have hs5:w5.heap.size=w.heap.size+4:=by rw[hw5];simp[hs4]
 have m5:w5.ownsRow (w.heap.size+3) 3 1 (.slice (some ⟨w.heap.size+3,0,none⟩) 0 0) 0 []:=by
  have h:(w4.alloc (.cells #[] 3)).ownsRow w4.heap.size 3 1 (.slice (some ⟨w4.heap.size,0,none⟩) 0 0) 0 []:=World.ownsRow_made w4 #[] 0 (Nat.le_refl _) (by decide) (by simp);rw[hs4,←hw5]at h;exact h
 obtain⟨nF,hnF⟩:∃nF,nF=Fs.length:=⟨_,rfl⟩;obtain⟨Tb,hTb⟩:∃Tb,Tb=(za0 Fs).map negC:=⟨_,rfl⟩;have hst:BkSt w3 w5 bb [] [] (fun q=>q=bb) q0 [] (Tb.take 0) (.slice none 0 0) [] [] (.slice none 0 0) [] [] :=
  ⟨(BookS.made e4).fr0 f5,PoolOK.nil,fun q hq=>⟨by rw[hq];omega,by rw[hq];omega⟩,(by rw[hq0];exact zb3 m5 (by omega)),World.ownsRow_nil _ _ _ _,World.ownsRow_nil _ _ _ _,fun b e hq=>by
   rw[hq0]at e;have e:w.heap.size+3=b:=Option.some.inj e;omega,(fun b hb=>by cases hb),(fun b hb=>by cases hb),(fun b _ hb=>by cases hb),(fun b _ hb=>by cases hb),(fun b hb=>by cases hb),RowC.nil _,RowC.nil _,RowC.nil _,f4.trans f5 (fun _ _ q=>q)⟩
 have H1:=Hh (h1.fr0 f3);obtain⟨na1,nc1,rfl,z⟩:=id h1;clear z;have HK:=Hh (fun(W:World) (f:Fr NoM w3 W)=>show W.cell? ⟨w.heap.size,0,none⟩=some (.slice na1 Fs.length nc1)/\W.cell? ⟨w.heap.size+1,0,none⟩=some (.slice none 0 0)/\W.frozen? ⟨w.heap.size+1,0,none⟩=false from by
  have k0:=f.heap e0 (fun q=>q);have k2:=f.heap e2 (fun q=>q);exact⟨by rw[cell_of_row W _ 0 _ _ _ k0];rfl,by rw[cell_of_row W _ 0 _ _ _ k2];rfl,by simp[World.frozen?,k2]⟩)
 rw[←hnF]at HK;have HSt:=Hh hst;have HF3:=Hh f3;have HS3:=Hh hs3;have OF:=Hh oF;have LF:=Hh lF;have PF:=Hh pF;have HnF:=Hh hnF;have HTb:=Hh hTb;have HNb:=Hh (show nF≤120 from by omega);rw[←hnF]at hw3 ⊢;clear h1 oF lF pF hFl hst hs3 e0 e2 e4 f3 f4 f5 m5 hnF hTb;obtain⟨k0,k2,k3⟩:=HK.out w5 HSt.out.fr;go_enter Tryz.func134,Tryz.ntmps134;go_upto_region 3 with fail;rw[←hw3,←hw4,←hw5,←hq0,←hbb];clear hw3 hw4 hw5 hbb hq0 hs4 hs5;go_wp2_with fail;clear k0 k2 k3;go_loopw [4,5] (fun v7 t W=>∃(i:Nat) (va:Value) (V:List PL) (BV:List Nat) (S:Nat→Prop) (A:List Nat),va=v7/\t=.int .i64 i/\i≤nF/\BkSt w3 W bb V BV S va A (Tb.take i) (.slice none 0 0) [] [] (.slice none 0 0) [] []/\V.length≤i) (fun _ t _=>nF-(intOf t).toNat)
 case atStart=>exact⟨0,_,[],[],_,[],rfl,rfl,Nat.zero_le _,HSt.out,Nat.zero_le _⟩
 case round =>
  obtain⟨i,va,V,BV,S,A,rfl,rfl,hi,hs,hV⟩:=hrel;obtain⟨w7,rfl⟩:∃w7,w7=wr:=⟨_,rfl⟩;have HS:=Hh hs;have HV:=Hh hV;obtain⟨k0,k2,k3⟩:=HK.out w7 hs.fr;by_cases hlt:i<nF
  ·have hiF:i<Fs.length:=by have:=HnF.out;omega
   obtain⟨X,hX⟩:∃X,Fs[i]?=some X:=⟨_,List.getElem?_eq_getElem hiF⟩;obtain⟨_,_,ee,_,_,hnn⟩:=id H1.out;obtain⟨rfl,hz,rfl⟩:=Value.slice.inj ee;clear ee hz;obtain⟨b1,o1,xl,xr,ha1,hR1,d1,d2,n1,n2,m1,m2⟩:=hnn i X hX;have ixn1:=zd0 na1 nF nc1 i b1 o1 hlt ha1;have HC:=Hh (fun(W:World) (f:Fr NoM w3 W)=>(⟨(HK.out W f).1,f.cell d1 (fun q=>q),f.cell d2 (fun q=>q)⟩:W.cell? ⟨w.heap.size,0,none⟩=some (.slice na1 nF nc1)/\W.cell? ⟨b1,o1+i*2,none⟩=some xl/\W.cell? ⟨b1,o1+i*2+1,none⟩=some xr));have HN1:=Hh (fun(W:World) (f:Fr NoM w7 W)=>(n1.fr0 hs.fr).fr0 f);have HN2:=Hh (fun(W:World) (f:Fr NoM w7 W)=>(n2.fr0 hs.fr).fr0 f);have HV7:=Hh (fun(W:World) (f:Fr NoM w7 W)=>(hs.nats1.fr0 f:Nats W va A));obtain⟨xla,xlc,rfl,z⟩:=id n1;clear z;obtain⟨xra,xrc,rfl,z⟩:=id n2;clear z;obtain⟨p1,p2⟩:=OF.out i X hX;obtain⟨l1,l2⟩:=LF.out X (List.mem_of_getElem? hX);have hnb:=HNb.out;have hTl:Tb.length=Fs.length:=by rw[HTb.out,List.length_map,za1]
   have hAl:A.length=i:=by
    have h:=hs.r1.len;rw[List.length_take]at h;omega
   have rL:=hs.r1.at (L:=X.2) (fun x hx=>by rw[hAl];exact p2 x hx);have rR:=hs.r1.at (L:=X.1) (fun x hx=>by rw[hAl];exact p1 x hx);rw[HTb.out,yc0 (A:=A) p2 (by rw[za1];omega)]at rL;rw[HTb.out,yc0 (A:=A) p1 (by rw[za1];omega)]at rR;have HRL:=Hh rL;have HRR:=Hh rR;have hmk:=ybz (zc8 Fs OF.out i X hX);have HMk:=Hh hmk;have HTn:=Hh (show Tb[i]?=some (negC ((za0 Fs).getD i 0))from by
    rw[HTb.out,List.getElem?_map,List.getD_eq_getElem?_getD,List.getElem?_eq_getElem (show i<(za0 Fs).length by rw[za1];exact hiF)];rfl)
   have HX1:=Hh (show ∀(j x:Nat),X.1[j]?=some x→x<A.length from fun j x hx=>by rw[hAl];exact p1 x (List.mem_of_getElem? hx));have HX2:=Hh (show ∀(j x:Nat),X.2[j]?=some x→x<A.length from fun j x hx=>by rw[hAl];exact p2 x (List.mem_of_getElem? hx));have HY1:=Hh (show X.1.length<1000000000000 by omega);have HY2:=Hh (show X.2.length<1000000000000 by omega);have HP1:=Hh (show ∀(j x:Nat),(za2 A X.2)[j]?=some x→x<V.length from fun j x hx=>rL.1 x (List.mem_of_getElem? hx));have HP2:=Hh (show ∀(j x:Nat),(za2 A X.1)[j]?=some x→x<V.length from fun j x hx=>rR.1 x (List.mem_of_getElem? hx));have HP3:=Hh (show(za2 A X.2).length<1000000000 by simp[za2];omega);have HP4:=Hh (show(za2 A X.1).length<1000000000 by simp[za2];omega);have HP5:=Hh (show V.length<1000000000 by omega);have HP6:=Hh (show ∀x∈BV,x<1000000000 from fun x hx=>by have:=(zu9 hs.ok).lt V.length (Nat.le_refl _) x hx;omega);have HA:=Hh hAl;have HW:=Hh (fun(W:World) (f:Fr NoM w7 W)=>(hs.fr.trans f (fun _ _ q=>q):Fr NoM w3 W));have hc:=HC.out w7 hs.fr;have F0:Fr NoM w7 w7.drew:=(Fr.refl NoM w7).drew;have G0:Fr NoM w3 w7.drew:=HW.out _ F0;clear hX hnn ha1 hR1 d1 d2 n1 n2 m1 m2 p1 p2 l1 l2 hTl hAl rL rR hmk hs hV hiF k2 k3;go_wp2_with fail;go_region_held3 (fun(W:World)=>W.cell? ⟨w.heap.size,0,none⟩=some (.slice na1 nF nc1)/\W.cell? ⟨b1,o1+i*2,none⟩=some (.slice xla X.1.length xlc)/\W.cell? ⟨b1,o1+i*2+1,none⟩=some (.slice xra X.2.length xrc))
    (first|exact HC.out _ (by assumption)|exact HC.out _ (Fr.alloc (by assumption) _))
    (first
     | (go_at_call 129;with_reducible refine(zgi _ (.slice xra X.2.length xrc) A X.2 _ (HV7.out _ (by assumption)) (HN2.out _ (by assumption)) HX2.out HY2.out).mono ?_;rintro e wa ⟨va1,rfl,t1,fa⟩;have z1:Nats wa va1 (za2 A X.2):=zdz t1;clear t1;have ga:Fr NoM w7 wa:=Fr.trans (by assumption) fa (fun _ _ q=>q);have ka:Fr NoM w3 wa:=HW.out _ ga;try (have z2:=SliceOf.fr0 (L:=za2 A X.1) (by assumption) fa))
     | (go_at_call 129;with_reducible refine(zgi _ (.slice xla X.1.length xlc) A X.1 _ (HV7.out _ (by assumption)) (HN1.out _ (by assumption)) HX1.out HY1.out).mono ?_;rintro e wb ⟨vb1,rfl,t2,fb⟩;have z2:Nats wb vb1 (za2 A X.1):=zdz t2;clear t2;have gb:Fr NoM w7 wb:=Fr.trans (by assumption) fb (fun _ _ q=>q);have kb:Fr NoM w3 wb:=HW.out _ gb;try (have z1:=SliceOf.fr0 (L:=za2 A X.2) (by assumption) fb))
     | (go_at_call 140;with_reducible refine(zri bb _ _ V BV (za2 A X.2) (za2 A X.1) _ (HS.out.fr0 (by assumption)).book (by assumption) (by assumption) HP1.out HP2.out HP3.out HP4.out HP5.out HP6.out).mono ?_;rintro e wc ⟨rfl,p1,p2⟩;obtain⟨st,hr,hcd,hpre,hln⟩:=(HS.out.fr0 (by assumption)).put HRL.out HRR.out p1 p2;clear p1 p2;rw[HMk.out]at hcd;have HST:=Hh st;have HR:=Hh hr;have HCD:=Hh hcd;have HLN:=Hh hln;have kc:Fr NoM w3 wc:=st.fr;clear st hr hcd hpre hln)
     | (refine zbr (enc:=encN) rfl (.tmp 16) (.tmp 35) 100 rfl w3.heap.size 3 (.int .i64 0) 8 Tryz.underlying100 za9 rfl va A.length (A.map encN) rfl (za3 HST.out.o1 ((Fr.refl NoM wc).alloc _) (fun _ _ q=>q)) (.slice (some ⟨wc.heap.size,0,none⟩) 1 1) rfl [(putB V BV (za2 A X.2) (za2 A X.1)).2.2] (SliceOf.one encN wc _ 3) (fun _=>rfl) (by have:=HA.out;have:=HNb.out;simp only[List.length_singleton];omega) (by decide) (by have:=kc.size;rw[World.size_alloc];omega) ?_;intro v4 wd h4 f4 q4;have hap:=HST.out.app ((Fr.refl NoM wc).alloc _) h4 f4 (by first|exact q4|(rw[World.size_alloc];exact q4)) HR.out HCD.out;rw[zzh HTn.out]at hap;have HAp:=Hh hap;have kd:Fr NoM w3 wd:=hap.fr;clear hap h4 f4 q4)
     | fail)
   all_goals
    go_wp2;go_roundw
    case rel=>exact⟨i+1,v4,_,_,_,_,rfl,by go_num,by omega,HAp.out,by have h1:=HLN.out;have h2:=HV.out;omega⟩
    case measure=>simp[intOf];omega
  ·obtain rfl:i=nF:=by omega
   have hn2:=HnF.out;have hpf:0<i:=by have:=PF.out;omega
   have hTl:Tb.length=i:=by rw[HTb.out,List.length_map,za1];omega
   have hnb:=HNb.out;have hAl:A.length=i:=by
    have h:=hs.r1.len;rw[List.length_take]at h;omega
   obtain⟨x,hx,hxl,hxc⟩:=hs.r1.get (p:=i-1) (c:=negC ((za0 Fs).getD (i-1) 0)) (by omega) (by
    rw[HTb.out,List.getElem?_map,List.getD_eq_getElem?_getD,List.getElem?_eq_getElem (show i-1<(za0 Fs).length by rw[za1];omega)];rfl)
   obtain⟨p,hp⟩:∃p,i=p+1:=⟨i-1,by omega⟩;rw[show i-1=p from by omega]at hx;obtain⟨aa,ac,rfl,_,_,hac⟩:=hs.nats1;obtain⟨b4,o4,ha4,c4⟩:=hac p x hx;unfold encN at c4;have ix4:=za8 aa A.length ac p b4 o4 (by omega) ha4;have hcast:((A.length:Int)-1)=(p:Int):=by omega
   have hpb:p<1600:=by omega
   have hAb:A.length<1000000:=by omega
   have hlen:=hs.ok.lens (n:=100000000) (by omega);have HFo:=Hh (yb9 bb x V BV w7 hs.book (zu9 hs.ok) hxl (by omega) hlen);have hfo:=zhq hs.ok hxl hxc;have HFe:=Hh (show zdg V BV x=za6 (negC (zas Fs))from by
    rw[hfo];unfold zas;rw[hn2])
   clear hx hxl hxc hac ha4 hlen hfo hAl hp hpf hi hlt hn2 hTl hs hV k2 k3;go_wp2_with fail;refine HFo.out.mono ?_
   rintro e w11 ⟨v',rfl,hn',f11⟩;rw[HFe.out]at hn';obtain⟨k0',k2',k3'⟩:=HK.out w11 (HS.out.fr.trans f11 (fun _ _ q=>q));have HFn:=Hh hn';have F11:=Hh (HS.out.fr.trans f11 (fun _ _ q=>q));have HSz:=Hh (show w.heap.size+2≤w7.heap.size from by have:=HS.out.fr.size;have:=HS3.out;omega);obtain⟨va',vc',rfl,zz⟩:=id hn';clear zz hn' f11 k0' k0 c4 ix4;go_wp2;refine bodyPost_ret (v:=.agg #[.slice va' (za6 (negC (zas Fs))).length vc']) (by simp[results,Tryz.results134,go_sem,k2']) rfl ?_
   refine⟨_,rfl,?_,(HF3.out.trans F11.out (fun _ _ q=>q)).setCell _ _ (fun h=>by have h:w.heap.size+1<w.heap.size:=h;omega)⟩;exact(HFn.out.fr (Fr.set w11 ⟨w.heap.size+1,0,none⟩ _) (fun q hq e=>by have e:q=w.heap.size+1:=e;have:=HSz.out;omega)).mono (fun q hq=>by have:=HSz.out;omega)
section
variable {U:List Nat}{S:Nat→Prop}{w w':World}{bb:Nat}{V:List PL}{BV:List Nat}
end
end Go.Proofs.YtlapkmhemepcaaaGreatDoor
