import Derived.Test.YtkofnbjjbcohgaaGreatDoorZwh
import Derived.Test.YtkofnbjjbcohgaaGreatDoorZwk
import Derived.Test.YtkofnbjjbcohgaaGreatDoorZwl
/- Lemmas. -/
namespace Go.Proofs.YtkofnbjjbcohgaaGreatDoor
set_option linter.unusedVariables false
set_option linter.unusedSimpArgs false
open Go.RowKit
set_option maxHeartbeats 1000000 in
theorem zmy (s:ByteArray)(w:World)(hs:s.size<1000000000)(g:Bool)(hg:g=true↔zcb s) :
  Calls Tryz.prog 30 #[.string s] w fun e w'=>e=.returned (.bool g)/\Fr NoM w w':=by
 have hcon:=Any.strings_Trim_laid Tryz.layTrim (by kernel_rfl) s ⟨#[76,82]⟩ w (by omega) (by decide) (ascii_of_all (by decide));change Calls Tryz.prog 54 _ _ (fun e w'=>e=.returned (.string ⟨(Lib.trimS s.data.toList [76,82]).toArray⟩)/\Below w.heap.size w w')at hcon
 have hn:g=true↔Lib.trimS s.data.toList [76,82]=[]:=hg.trans (zue _).symm;generalize Lib.trimS s.data.toList [76,82]=r at hcon hn
 have HC:=Hh hcon;have HN:=Hh hn;clear hcon hn hg;go_enter Tryz.func30,Tryz.ntmps30;go_wp2_with fail;refine HC.out.mono ?_
 rintro e w' ⟨rfl,hB⟩;have HB:=Hh hB;clear hB;cases r with
 | nil =>
  have hg:g=true:=HN.out.2 rfl;subst hg;go_wp2;go_ret;exact⟨rfl,Fr.of_below HB.out⟩
 | cons y l =>
  have hg:g=false:=by
   cases g with
   | false=>rfl
   | true=>exact absurd (HN.out.1 rfl) (by simp)
  subst hg;go_wp2;go_ret;exact⟨rfl,Fr.of_below HB.out⟩
set_option maxHeartbeats 1000000 in
theorem zfa (s:ByteArray)(w:World)(hs:s.size<1000000000)(g:Bool)(hg:g=true↔zcb s/\s.size≤16) :
  Calls Tryz.prog 13 #[.string s] w fun e w'=>e=.returned (.bool g)/\Fr NoM w w':=by
 obtain⟨m,hm⟩:∃m:Bool,(m=true↔zcb s):=by
  by_cases h:zcb s
  ·exact⟨true,by simp[h]⟩
  ·exact⟨false,by simp[h]⟩
 have HM:=Hh (zmy s w hs m hm);have h1:s.size≤16→m=g:=fun h=>by
  cases g <;> cases m <;> simp_all
 have h0:¬s.size≤16→g=false:=fun h=>by
  cases g with
  | false=>rfl
  | true=>exact absurd (hg.1 rfl).2 h
 have H1:=Hh h1;have H0:=Hh h0;clear h1 h0 hm hg;go_enter Tryz.func13,Tryz.ntmps13;by_cases h:s.size≤16
 ·go_wp2_with fail
  refine HM.out.mono ?_
  rintro e w' ⟨rfl,hf⟩;have hmg:=H1.out h;subst hmg;go_wp2;go_ret;exact⟨rfl,hf⟩
 ·have hg:=H0.out h
  subst hg;go_wp2;go_ret;exact⟨rfl,Fr.refl _ _⟩
theorem zrd (b:List Bool)(n:Nat)(hn:n≤24){ok:Bool}{FN:List PL}(h:zki (stF b (n+1)) (List.range (n+1)) n ok FN):ok=true/\FN=stF b (n+1):=by
 rcases h with ⟨_,_,Q,hnd,hm,hl⟩|⟨Q,GN,O,_,e1,e2⟩
 ·exfalso
  have hle:=hnd.length_le_of_subset (l₂:=List.range (n+1)) fun x hx=>List.mem_range.2 (by
   have:=(zhq b (n+1)).reach (R:=[n]) (fun r hr=>by rw[List.mem_singleton]at hr;subst hr;rw[zae];omega) ((hm x).1 hx);rw[zae]at this;exact this)
  rw[List.length_range]at hle;omega
 ·have e:=zuv b n O
  rw[e,zo1 b n hn]at e1;subst e1;exact⟨rfl,by rw[e2,e];rfl⟩
set_option maxRecDepth 4000 in
set_option maxHeartbeats 8000000 in
theorem zi9 (s:ByteArray) (w:World) (hs:s.size < 1000000000) (g:Bool) (hg:g=true↔zcb s∧s.size≤16) :
    Calls Tryz.prog 6 #[.string s] w fun e w'=>∃ v',e=.returned (.tuple #[.agg #[v'],.bool g])∧NodesS w.heap.size w' v' (if g then stF (zf6 s) (s.size + 1) else [])∧Fr NoM w w':=by
  obtain ⟨w1,hw1⟩:∃ w1,w1=w.alloc (.cells #[.slice none 0 0] 27):=⟨_,rfl⟩;have hf1:Fr NoM w w1:=by rw [hw1];exact (Fr.refl NoM w).alloc _
  have hb1:w1.heap[w.heap.size]?=some (.cells #[.slice none 0 0] 27 (0,0)):=by rw [hw1];exact heap_alloc_new w _
  have hs1:w1.heap.size=w.heap.size + 1:=by rw [hw1];simp
  have HK:=Hh (fun (W:World) (f:Fr NoM w1 W)=>show W.cell? ⟨w.heap.size,0,none⟩=some (.slice none 0 0)∧W.frozen? ⟨w.heap.size,0,none⟩=false from by
    have hb:=f.heap hb1 (fun q=>q);exact ⟨by rw [cell_of_row W _ 0 _ _ _ hb];rfl,by simp [World.frozen?,hb]⟩)
  have HF1:=Hh hf1;have HS1:=Hh hs1;have HG:=Hh hg;have HSig:=Hh (zfa s w1 hs g hg);clear hf1 hb1 hs1 hg;go_enter Tryz.func6,Tryz.ntmps6;go_wp2_with fail;rw [← hw1];clear hw1;refine HSig.out.mono ?_
  rintro e w2 ⟨rfl,f2⟩;have HF2:=Hh f2;clear f2;cases g with
  | false =>
    obtain ⟨k1,z1⟩:=HK.out w2 HF2.out;go_wp2;refine bodyPost_ret (v:=.tuple #[.agg #[.slice none 0 0],.bool false]) (by simp [results,Tryz.results6,go_sem,k1]) rfl ?_
    exact ⟨_,rfl,NodesS.nil _ _,(HF1.out.trans HF2.out (fun _ _ q=>q)).setCell _ _ (fun h=>absurd h (Nat.lt_irrefl _))⟩
  | true =>
    obtain ⟨hmk,h16⟩:=HG.out.1 rfl;have HMk:=Hh hmk;have hsl:s.data.toList.length=s.size:=by rw [Array.length_toList];rfl
    have HSl:=Hh hsl;have HH16:=Hh h16;clear hmk hsl hs;obtain ⟨bits,hbits⟩:∃ b,b=zf6 s:=⟨_,rfl⟩;have HBits:=Hh hbits;clear hbits;go_wp2_with fail;refine (zhs w2).mono ?_
    rintro e w3 ⟨rfl,hp3,_,f3⟩;obtain ⟨pb,hpb⟩:∃ pb,pb=w2.heap.size + 5:=⟨_,rfl⟩;rw [← hpb] at hp3 ⊢;obtain ⟨mo,hmo⟩:∃ v,v=Value.map (some (w2.heap.size + 1)):=⟨_,rfl⟩;obtain ⟨mc,hmc⟩:∃ v,v=Value.map (some (w2.heap.size + 2)):=⟨_,rfl⟩;obtain ⟨ms,hms⟩:∃ v,v=Value.map (some (w2.heap.size + 3)):=⟨_,rfl⟩;obtain ⟨mn,hmn⟩:∃ v,v=Value.map (some (w2.heap.size + 4)):=⟨_,rfl⟩;rw [← hmo,← hmc,← hms,← hmn] at hp3;have HP3:=Hh hp3.low;have F3:=Hh f3;have HPb:=Hh hpb;clear hp3 f3 hpb hmo hmc hms hmn;go_wp2_with fail;obtain ⟨w4,hw4⟩:∃ w4,w4=w3.alloc (.cells #[] 3):=⟨_,rfl⟩;have f34:Fr NoM w3 w4:=by rw [hw4];exact (Fr.refl NoM w3).alloc _
    have hrow:NRow w2.heap.size w4 (.slice (some ⟨w3.heap.size,0,none⟩) 0 0) (List.range 0):=by
      rw [hw4];exact ⟨zb2 (NRow.made w3).own F3.out.size,(NRow.made w3).shape⟩
    have hp4:PoolS (fun q=>(q=w2.heap.size∨q=pb)∧q < w3.heap.size) (fun q=>NoM q∧q < w3.heap.size) w4 pb (stF bits 0) (List.range 0) mo mc ms mn:=HP3.out.fr0 f34;have hm4:∀ q,((q=w2.heap.size∨q=pb)∧q < w3.heap.size)→w2.heap.size≤q∧q < w4.heap.size∧(Value.slice (some ⟨w3.heap.size,0,none⟩) 0 0).ownBlock≠some q:=fun q ⟨h1,h2⟩ =>
      ⟨by rcases h1 with h1 | h1
          · omega
          · rw [h1,HPb.out];omega,Nat.lt_of_lt_of_le h2 f34.size,fun e=>by have e:w3.heap.size=q:=Option.some.inj e;omega⟩
    have hf4:Fr NoM w2 w4:=F3.out.trans f34 (fun _ _ q=>q);rw [← hw4];have HRow:=Hh hrow;have HP4:=Hh hp4;have HM4:=Hh hm4;have HF4:=Hh hf4;clear hrow hp4 hm4 hf4 f34 hw4;go_loopw [5,19] (fun v5 i W=>∃ (n:Nat) (v:Value) (M I:Nat→Prop),v=v5∧i=.int .i64 n∧n≤s.size + 1∧NRow w2.heap.size W v (List.range n)∧PoolS M I W pb (stF bits n) (List.range n) mo mc ms mn ∧
      (∀ q,M q→w2.heap.size≤q∧q < W.heap.size∧v.ownBlock≠some q)∧(∀ q,I q→w2.heap.size≤q∧q < W.heap.size∧v.ownBlock≠some q)∧Fr NoM w2 W) (fun _ i _=>s.size + 1 - (intOf i).toNat)
    case atStart=>exact ⟨0,_,_,_,rfl,rfl,Nat.zero_le _,HRow.out,HP4.out,HM4.out,fun q hq=>hq.1.elim,HF4.out⟩
    case round =>
      obtain ⟨n,v,M,I,rfl,rfl,hn,hrow,hp,hM,hI,hfr⟩:=hrel;obtain ⟨wo,rfl⟩:∃ wo,wo=wr:=⟨_,rfl⟩;obtain ⟨lb,lc,rfl⟩:=hrow.shape;have hlr:(List.range n).length=n:=List.length_range;have HRowO:=Hh hrow;have HP:=Hh hp;have HM:=Hh hM;have HI:=Hh hI;have HFrO:=Hh hfr;have HN:=Hh hn;have HLr:=Hh hlr;rw [hlr];have HCell:=Hh (fun (W:World) (f:Fr NoM wo W) (k:Nat) (hk:k < n)=>show W.cell? ⟨lb,k,none⟩=some (.int .i64 (k:Int)) from by
        obtain ⟨a,c,e,_,_,h⟩:=hrow.nats;obtain ⟨b,off,ea,hc⟩:=h k k (by rw [rget,if_pos hk]);cases e;cases ea
        rw [Nat.zero_add] at hc;exact f.cell hc (fun q=>q))
      clear hrow hp hM hI hfr hlr;by_cases hlt:n≤s.size
      · have hlt' : (n : Int) < (s.size : Int) + 1 := by omega
        go_wp2_with fail;obtain ⟨w5,hw5⟩:∃ w5,w5=(wo.alloc (.cells #[] 3)).alloc (.cells #[] 3):=⟨_,rfl⟩;have r1:NRow wo.heap.size w5 (.slice (some ⟨wo.heap.size,0,none⟩) 0 0) (goL bits 0):=by
          rw [hw5];exact (NRow.made wo).fr ((Fr.refl NoM _).alloc _) (fun _ _ q=>q)
        have r2:NRow wo.heap.size w5 (.slice (some ⟨wo.heap.size + 1,0,none⟩) 0 0) (goR bits 0):=by
          have h:=NRow.made (wo.alloc (.cells #[] 3));rw [World.size_alloc] at h;rw [hw5];exact ⟨zb2 h.own (by omega),h.shape⟩
        have f5:Fr NoM wo w5:=by rw [hw5];exact ((Fr.refl NoM wo).alloc _).alloc _
        rw [← hw5];have R1:=Hh r1;have R2:=Hh r2;have F5:=Hh f5;clear r1 r2 f5 hw5;go_loopw [7,8,25] (fun l r i W=>∃ (k:Nat) (lv rv:Value),l=lv∧r=rv∧i=.int .i64 k∧k≤n∧NRow wo.heap.size W lv (goL bits k)∧NRow wo.heap.size W rv (goR bits k)∧(∀ q,lv.ownBlock=some q→rv.ownBlock≠some q)∧Fr NoM wo W) (fun _ _ i _=>n - (intOf i).toNat)
        case atStart=>exact ⟨0,_,_,rfl,rfl,rfl,Nat.zero_le _,R1.out,R2.out,fun q e e'=>by have e:wo.heap.size=q:=Option.some.inj e;have e':wo.heap.size + 1=q:=Option.some.inj e';omega,F5.out⟩
        case round =>
          obtain ⟨k,lv,rv,rfl,rfl,rfl,hk,hl,hr,hlr,hf7⟩:=hrel;obtain ⟨w7,rfl⟩:∃ w7,w7=wr:=⟨_,rfl⟩;obtain ⟨b1,c1,rfl⟩:=hl.shape;obtain ⟨b2,c2,rfl⟩:=hr.shape;have HL:=Hh hl;have HR:=Hh hr;have HLR:=Hh hlr;have HF7:=Hh hf7;clear hl hr hlr hf7;by_cases hkn:k < n
          · obtain ⟨b, hb⟩ : ∃ b, s.data.toList[k]? = some b := ⟨_, List.getElem?_eq_getElem (by rw [HSl.out]; omega)⟩
            have hrun:=zed s k b hb .i64 w7;have hbit:bits.getD k false=decide (b=76):=by rw [HBits.out];exact zf4 s k b hb
            have hb2:b=76∨b=82:=HMk.out b (List.mem_of_getElem? hb);have ixl:=zaa (some ⟨lb,0,none⟩) n lc k lb 0 hkn rfl;rw [Nat.zero_add] at ixl;have hcl:=HCell.out w7 HF7.out k hkn;have hll:(goL bits k).length≤k:=zp7 bits k;have hlr:(goR bits k).length≤k:=zp6 bits k;have HLl:=Hh hll;have HLrr:=Hh hlr;have HB2:=Hh hb2;have HBit:=Hh hbit;have hk16:k < 1000:=by have:=HN.out;have:=HH16.out;omega
            have HK16:=Hh hk16;clear hb hbit hb2 hll hlr hk16;by_cases h76:b=76
            · subst h76
              have e1:bits.getD k false=true:=by rw [HBit.out];rfl
              have HE1:=Hh e1;clear e1;go_wp2_with (at_builtin;refine zaq (enc:=encN) _ rfl (.tmp 32) (.tmp 37) 42 rfl wo.heap.size 3 (.int .i64 0) 8 Tryz.underlying42 za8 rfl (.slice (some ⟨b1,0,none⟩) (goL bits k).length c1) (goL bits k).length ((goL bits k).map encN) rfl (za2 HL.out.own ((Fr.refl NoM w7).alloc _) (fun _ _ q=>q)) (.slice (some ⟨w7.heap.size,0,none⟩) 1 1) rfl [k] (SliceOf.one encN w7 k 3) (fun _=>rfl) (by have:=HLl.out;have:=HK16.out;simp;omega) (by decide) (by have:=HF7.out.size;rw [World.size_alloc];omega) ?_);intro v8 w8 h8 f8 q8;have H8:=Hh (NRow.snoc h8);have F8:=Hh f8;have Q8:=Hh q8;clear h8 f8 q8;go_wp2;go_roundw
              case rel =>
                have f78:Fr (Own1 (.slice (some ⟨b1,0,none⟩) (goL bits k).length c1)) w7 w8:=Fr.trans ((Fr.refl _ w7).alloc _) F8.out (fun _ _ q=>q);refine ⟨k + 1,v8,.slice (some ⟨b2,0,none⟩) (goR bits k).length c2,rfl,rfl,by go_num,by omega,?_,?_,fun q e e'=>?_,HF7.out.trans f78 (fun q hq e=>?_)⟩
                · rw [zh4,if_pos HE1.out];exact H8.out
                · rw [zh3, if_pos HE1.out]
                  exact HR.out.fr f78 (fun q e e'=>HLR.out q e' e)
                · rcases Q8.out with h | ⟨b, h, hb⟩
                  · rw [h] at e;exact HLR.out q e e'
                  · rw [h] at e; cases e
                    have:=(HR.out.own.lt _ e').2;omega
                · have:=(HL.out.own.lt q e).1;omega
              case measure=>simp [intOf];omega
            · have h82 : b = 82 := HB2.out.resolve_left h76
              subst h82;have e1:bits.getD k false≠true:=by rw [HBit.out];decide
              have HE1:=Hh e1;clear e1;go_wp2_with (at_builtin;refine zaq (enc:=encN) _ rfl (.tmp 39) (.tmp 44) 42 rfl wo.heap.size 3 (.int .i64 0) 8 Tryz.underlying42 za8 rfl (.slice (some ⟨b2,0,none⟩) (goR bits k).length c2) (goR bits k).length ((goR bits k).map encN) rfl (za2 HR.out.own ((Fr.refl NoM w7).alloc _) (fun _ _ q=>q)) (.slice (some ⟨w7.heap.size,0,none⟩) 1 1) rfl [k] (SliceOf.one encN w7 k 3) (fun _=>rfl) (by have:=HLrr.out;have:=HK16.out;simp;omega) (by decide) (by have:=HF7.out.size;rw [World.size_alloc];omega) ?_);intro v8 w8 h8 f8 q8;have H8:=Hh (NRow.snoc h8);have F8:=Hh f8;have Q8:=Hh q8;clear h8 f8 q8;go_wp2;go_roundw
              case rel =>
                have f78:Fr (Own1 (.slice (some ⟨b2,0,none⟩) (goR bits k).length c2)) w7 w8:=Fr.trans ((Fr.refl _ w7).alloc _) F8.out (fun _ _ q=>q);refine ⟨k + 1,.slice (some ⟨b1,0,none⟩) (goL bits k).length c1,v8,rfl,rfl,by go_num,by omega,?_,?_,fun q e e'=>?_,HF7.out.trans f78 (fun q hq e=>?_)⟩
                · rw [zh4, if_neg HE1.out]
                  exact HL.out.fr f78 (fun q e e'=>HLR.out q e e')
                · rw [zh3,if_neg HE1.out];exact H8.out
                · rcases Q8.out with h | ⟨b, h, hb⟩
                  · rw [h] at e';exact HLR.out q e e'
                  · rw [h] at e'; cases e'
                    have:=(HL.out.own.lt _ e).2;omega
                · have:=(HR.out.own.lt q e).1;omega
              case measure=>simp [intOf];omega
          · have hkn' : k = n := by omega
            subst hkn';have hn16:k≤16:=by have:=HH16.out;omega
            obtain ⟨l1,l2⟩:=zcq bits k;have HNode:=Hh (show Calls Tryz.prog 15 #[.pointer (some ⟨pb,0,none⟩),.slice (some ⟨b1,0,none⟩) (goL bits k).length c1,.slice (some ⟨b2,0,none⟩) (goR bits k).length c2] w7 fun e w'=>e=.returned (.int .i64 (k:Int)) ∧
                ∃ M' I',PoolS M' I' w' pb (stF bits (k + 1)) (List.range (k + 1)) mo mc ms mn∧(∀ q,M' q→M q∨w7.heap.size≤q)∧(∀ q,I' q→I q∨w7.heap.size≤q)∧Fr M w7 w' from by
              have h:=zk8 pb (stF bits k) (List.range k) (goL bits k) (goR bits k) mo mc ms mn b1 0 c1 b2 0 c2 w7 (HP.out.fr0 HF7.out) HL.out.nats HR.out.nats (fun x hx=>by rw [zae];exact l1 x hx) (fun x hx=>by rw [zae];exact l2 x hx)
                (by have:=zp7 bits k;omega) (by have:=zp6 bits k;omega) (by rw [zae];omega) (fun x hx=>by have:=List.mem_range.1 hx;omega)
              rw [show za3 (stF bits k) (List.range k) (goL bits k) (goR bits k)=(stF bits (k + 1),List.range (k + 1),k) from zim bits k] at h;exact h)
            have HN16:=Hh hn16;clear l1 l2 hn16;go_wp2_with fail;refine HNode.out.mono ?_
            rintro e w9 ⟨rfl,M',I',hp9,hM9,hI9,f9⟩;have HP9:=Hh hp9.low;have HM9:=Hh hM9;have HI9:=Hh hI9;have F9:=Hh f9;have hown:∀ q,(Value.slice (some ⟨lb,0,none⟩) k lc).ownBlock=some q→¬ M q:=fun q e h=>(HM.out q h).2.2 (by rw [HLr.out];exact e)
            have hrow9:NRow w2.heap.size w9 (.slice (some ⟨lb,0,none⟩) k lc) (List.range k):=by
              have h:=(HRowO.out.fr HF7.out (fun _ _ q=>q));rw [HLr.out] at h;exact h.fr F9.out hown
            have hf9:Fr NoM w2 w9:=(HFrO.out.trans HF7.out (fun _ _ q=>q)).trans F9.out (fun q hq h=>by have:=(HM.out q h).1;omega);have HRow9:=Hh hrow9;have HF9:=Hh hf9;have HOwn:=Hh hown;clear hp9 hM9 hI9 f9 hrow9 hf9 hown;go_wp2_with (at_builtin;refine zaq (enc:=encN) _ rfl (.tmp 47) (.tmp 52) 42 rfl w2.heap.size 3 (.int .i64 0) 8 Tryz.underlying42 za8 rfl (.slice (some ⟨lb,0,none⟩) k lc) k ((List.range k).map encN) rfl (by have h:=za2 HRow9.out.own ((Fr.refl NoM w9).alloc (.cells #[encN k] 3)) (fun _ _ q=>q);rw [HLr.out] at h;exact h) (.slice (some ⟨w9.heap.size,0,none⟩) 1 1) rfl [k] (SliceOf.one encN w9 k 3) (fun _=>rfl) (by have:=HN16.out;simp;omega) (by decide) (by have:=HF9.out.size;rw [World.size_alloc];omega) ?_);intro v8 w8 h8 f8 q8;have h8':NRow w2.heap.size w8 v8 (List.range (k + 1)):=by
              rw [List.range_succ];exact NRow.snoc (by rw [HLr.out];exact h8)
            have H8:=Hh h8';have F8:=Hh f8;have Q8:=Hh q8;clear h8 h8' f8 q8;go_wp2;go_roundw
            case rel =>
              have f98:Fr (Own1 (.slice (some ⟨lb,0,none⟩) k lc)) w9 w8:=Fr.trans ((Fr.refl _ w9).alloc _) F8.out (fun _ _ q=>q);have hlt9:∀ q,(Value.slice (some ⟨lb,0,none⟩) k lc).ownBlock=some q→q < wo.heap.size:=fun q e=>(HRowO.out.own.lt q (by rw [HLr.out];exact e)).2
              have s7:=HF7.out.size;have s9:=F9.out.size;have sw:=HFrO.out.size;have key:∀ (N N':Nat→Prop),(∀ q,N' q→N q∨w7.heap.size≤q)→(∀ q,N q→w2.heap.size≤q∧q < wo.heap.size∧(Value.slice (some ⟨lb,0,none⟩) (List.range k).length lc).ownBlock≠some q)→∀ q,(N' q∧q < w9.heap.size)→(w2.heap.size≤q∧q < w8.heap.size∧v8.ownBlock≠some q)∧(Value.slice (some ⟨lb,0,none⟩) k lc).ownBlock≠some q:=by
                intro N N' h1 h2 q ⟨h3,h4⟩;have hno:(Value.slice (some ⟨lb,0,none⟩) k lc).ownBlock≠some q:=fun e=>by
                  rcases h1 q h3 with h | h
                  · exact (h2 q h).2.2 (by rw [HLr.out];exact e)
                  · have:=hlt9 q e;omega
                refine ⟨⟨?_,Nat.lt_of_lt_of_le h4 f98.size,fun e=>?_⟩,hno⟩
                · rcases h1 q h3 with h | h
                  · exact (h2 q h).1
                  · omega
                · rcases Q8.out with h | ⟨b, h, hb⟩
                  · rw [h] at e;exact hno e
                  · rw [h] at e; cases e
                    omega
              refine ⟨k + 1,v8,_,_,rfl,by go_num,by omega,H8.out,HP9.out.fr f98 (fun q hq e=>(key M M' HM9.out HM.out q hq).2 e) (fun q hq e=>(key I I' HI9.out HI.out q hq).2 e),fun q hq=>(key M M' HM9.out HM.out q hq).1,fun q hq=>(key I I' HI9.out HI.out q hq).1,HF9.out.trans f98 (fun q hq e=>?_)⟩;have:=(HRow9.out.own.lt q (by rw [HLr.out] at *;exact e)).1;omega
            case measure=>simp [intOf];omega
      · have hne : n = s.size + 1 := by have := HN.out; omega
        subst hne;have ixl:=zaa (some ⟨lb,0,none⟩) (s.size + 1) lc s.size lb 0 (Nat.lt_succ_self _) rfl;rw [Nat.zero_add] at ixl;have hcl:=HCell.out wo (Fr.refl _ _) s.size (Nat.lt_succ_self _);have HForm:=Hh (zsk pb s.size (stF bits (s.size + 1)) (List.range (s.size + 1)) mo mc ms mn wo HP.out (zhq bits (s.size + 1)) (by rw [zae];omega) (by rw [zae];have:=HH16.out;omega));go_wp2_with fail;refine HForm.out.mono ?_
        rintro e w9 ⟨nv,ok,FN,rfl,hres,hns,f9⟩;obtain ⟨rfl,rfl⟩:=zrd bits s.size (by have:=HH16.out;omega) hres;have hnl:=hns.nodeL;obtain ⟨an,cn,rfl,z⟩:=id hnl;clear z hnl hres;have HF9:=Hh f9;have HNs:=Hh hns;have f29:=(HF2.out.trans HFrO.out (fun _ _ q=>q)).trans HF9.out (fun _ _ q=>q);obtain ⟨k1,z1⟩:=HK.out w9 f29;have HF29:=Hh f29;clear f9 hns f29;go_wp2;refine bodyPost_ret (v:=.tuple #[.agg #[.slice an (stF bits (s.size + 1)).length cn],.bool true]) (by simp [results,Tryz.results6,go_sem,k1]) rfl ?_
        refine ⟨_,rfl,?_,(HF1.out.trans HF29.out (fun _ _ q=>q)).setCell _ _ (fun h=>absurd h (Nat.lt_irrefl _))⟩;show NodesS _ _ _ (stF (zf6 s) (s.size + 1))
        rw [← HBits.out];have h1:=HS1.out;have h2:=HF2.out.size;have h3:=HFrO.out.size;exact (HNs.out.fr (Fr.set w9 ⟨w.heap.size,0,none⟩ (.slice an (stF bits (s.size + 1)).length cn)) (fun q hq _ e=>by have e:q=w.heap.size:=e;omega)).base (by omega)
end Go.Proofs.YtkofnbjjbcohgaaGreatDoor
