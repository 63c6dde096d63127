import Derived.Test.YtbbbmjiloihajaaGreatDoorZeNumFits
import Derived.Test.YtbbbmjiloihajaaGreatDoorZePoolGe
import Derived.StillTailTactics
/- What the claim of FnNumberCard needs of: IsNumP OrderKit. -/
namespace Go.Proofs.YtbbbmjiloihajaaGreatDoor
set_option linter.unusedVariables false
set_option linter.unusedSimpArgs false
open Go.RowKit
theorem row_one {V:List PL}{C:List Nat}(B:BookC V C){x:Nat}(hx:x<V.length) :
  (∀L,L=(nodeV V x).1→(∀a b,a∈L→b∈L→C.getD a 0=C.getD b 0→a=b)∧L.Pairwise (· < ·))∧∀L,L=(nodeV V x).2→(∀a b,a∈L→b∈L→C.getD a 0=C.getD b 0→a=b)∧L.Pairwise (· < ·):=by
 obtain⟨o1,o2⟩:=B.opts x _ (node_at hx);obtain⟨u1,u2⟩:=B.up x _ (node_at hx);have inj:∀a b,a<x→b<x→C.getD a 0=C.getD b 0→a=b:=fun a b ha hb e=>by
  have hl:=B.len;rw[List.getD_eq_getElem?_getD,List.getD_eq_getElem?_getD,List.getElem?_eq_getElem (show a<C.length by omega),List.getElem?_eq_getElem (show b<C.length by omega)]at e;exact(List.getElem_inj B.nodup).1 e
 exact⟨fun L e=>⟨fun a b ha hb h=>inj a b (o1 a (e ▸ ha)) (o1 b (e ▸ hb)) h,e ▸ u1⟩,fun L e=>⟨fun a b ha hb h=>inj a b (o2 a (e ▸ ha)) (o2 b (e ▸ hb)) h,e ▸ u2⟩⟩
theorem len_one {L:List Nat}(hu:L.Pairwise (· < ·))(h:∀a∈L,∀b∈L,a=b):L.length≤1:=by
 match L,hu,h with
 | [],_,_=>simp
 | [_],_,_=>simp
 | a::b::l,hu,h =>
  have h1:=List.rel_of_pairwise_cons hu (show b∈b::l by simp);have h2:=h a (by simp) b (by simp);omega
theorem one_mem {L:List Nat}(h:L.length≤1):∀a∈L,∀b∈L,a=b:=by
 match L,h with
 | [],_=>simp
 | [_],_=>simp
 | a::b::l,h=>simp at h
theorem isN_rows {V:List PL}{C:List Nat}(B:BookC V C){x:Nat}(hx:x<V.length)(hc:CanC (C.getD x 0)) :
  isNB (C.getD x 0)=true↔(nodeV V x).1.length≤1∧(nodeV V x).2.length≤1∧(∀l∈(nodeV V x).1,isNB (C.getD l 0)=true)∧(∀r∈(nodeV V x).2,isNB (C.getD r 0)=true)∧∀l∈(nodeV V x).1,∀r∈(nodeV V x).2,geV C l r=false:=by
 obtain⟨oL,oR⟩:=opts_code B hx;obtain⟨rL,rR⟩:=row_one B hx;obtain⟨iL,pL⟩:=rL _ rfl;obtain⟨iR,pR⟩:=rR _ rfl;constructor
 ·intro h
  refine⟨len_one pL fun a ha b hb=>iL a b ha hb (num_oneL h ((oL _).2 ⟨a,ha,rfl⟩) ((oL _).2 ⟨b,hb,rfl⟩)),len_one pR fun a ha b hb=>iR a b ha hb (num_oneR h ((oR _).2 ⟨a,ha,rfl⟩) ((oR _).2 ⟨b,hb,rfl⟩)),
   fun l hl=>num_optL h ((oL _).2 ⟨l,hl,rfl⟩),fun r hr=>num_optR h ((oR _).2 ⟨r,hr,rfl⟩),fun l hl r hr=>num_apart h ((oL _).2 ⟨l,hl,rfl⟩) ((oR _).2 ⟨r,hr,rfl⟩)⟩
 ·rintro⟨h1,h2,h3,h4,h5⟩
  refine num_know hc (fun l l' a b=>?_) (fun l l' a b=>?_) (fun l a=>?_) (fun l a=>?_) (fun l r a b=>?_)
  ·obtain⟨y,hy,rfl⟩:=(oL _).1 a
   obtain⟨z,hz,rfl⟩:=(oL _).1 b;rw[one_mem h1 y hy z hz]
  ·obtain⟨y,hy,rfl⟩:=(oR _).1 a
   obtain⟨z,hz,rfl⟩:=(oR _).1 b;rw[one_mem h2 y hy z hz]
  ·obtain⟨y,hy,rfl⟩:=(oL _).1 a
   exact h3 y hy
  ·obtain⟨y,hy,rfl⟩:=(oR _).1 a
   exact h4 y hy
  ·obtain⟨y,hy,rfl⟩:=(oL _).1 a
   obtain⟨z,hz,rfl⟩:=(oR _).1 b;exact h5 y hy z hz
theorem quiet_fr (w:World)(n:Nat):Fr NoM w (w.drewN n):=⟨rfl,rfl,rfl,Nat.le_refl _,fun _ _ _=>rfl⟩
def IsNPost (M I:Nat→Prop)(C:List Nat)(ob:Nat)(res:Bool)(w:World)(e:Ending)(w':World):Prop:=e=.returned (.bool res)∧∃f',MapF encP encB w' ob f'∧OrdF C f'∧Fr (fun q=>q=ob) w w'
set_option maxRecDepth 4000 in
set_option maxHeartbeats 8000000 in
theorem isN_all {M I:Nat→Prop}{C:List Nat}{V:List PL}{BV:List Nat}(B:BookC V C)(pb ob:Nat)(mc ms mn:Value)(hMo:¬M ob)(hIo:¬I ob):∀n x,x<n→x<V.length→CanC (C.getD x 0)→∀(f:Nat × Nat→Option Bool) (w:World),PoolS M I w pb V BV (.map (some ob)) mc ms mn→MapF encP encB w ob f→OrdF C f →
  Calls Tryz.prog 132 #[.pointer (some ⟨pb,0,none⟩),.int .i64 (x:Int)] w fun e w'=>IsNPost M I C ob (isNB (C.getD x 0)) w e w':=by
 intro n;induction n with
 | zero=>intro x h;omega
 | succ n ih =>
  intro x hn hx hc f w hP hF hO;have hiff:=isN_rows B hx hc;obtain⟨res,hres⟩:∃res,res=isNB (C.getD x 0):=⟨_,rfl⟩;rw[←hres]at hiff ⊢;have hsub:∀(y:Nat),(y∈(nodeV V x).1∨y∈(nodeV V x).2)→y<x∧CanC (C.getD y 0):=fun y hy=>by
   obtain⟨o1,o2⟩:=B.opts x _ (node_at hx);obtain⟨oL,oR⟩:=opts_code B hx;rcases hy with h|h
   ·exact⟨o1 y h,hc.opt (.inl ((oL _).2 ⟨y,h,rfl⟩))⟩
   ·exact⟨o2 y h,hc.opt (.inr ((oR _).2 ⟨y,h,rfl⟩))⟩
  have HSub:=Hh hsub;have HIh:=Hh ih;have HPs:=Hh (fun(W:World) (f:Fr (fun q=>q=ob) w W)=>show PoolS M I W pb V BV (.map (some ob)) mc ms mn from hP.fr f (fun q hq e=>hMo (by rw[←e];exact hq)) (fun q hq e=>hIo (by rw[←e];exact hq)));have HF:=Hh hF;have HO:=Hh hO;have HGe:=Hh (fun(a b:Nat) (ha:a<x) (hb:b<x)=>ge_all (BV:=BV) B pb ob mc ms mn hMo hIo _ a b (Nat.lt_succ_self _) (by omega) (by omega));obtain⟨la,lc,ra,rc,p0,p1,_,_,_,_,hL,hR⟩:=hP.rd;obtain⟨lb,lo,lv,rfl,r1,s1,i1⟩:=hL x hx;obtain⟨rb,ro,rv,rfl,r2,s2,i2⟩:=hR x hx;have ix1:=ixLists (some ⟨lb,lo,none⟩) V.length lc x lb lo hx rfl;have ix2:=ixLists (some ⟨rb,ro,none⟩) V.length rc x rb ro hx rfl;obtain⟨L,hLe⟩:∃L,L=(nodeV V x).1:=⟨_,rfl⟩;obtain⟨R,hRe⟩:∃R,R=(nodeV V x).2:=⟨_,rfl⟩;rw[←hLe,←hRe]at hiff;rw[←hLe]at s1 i1;rw[←hRe]at s2 i2;have HUL:=Hh (fun(W:World) (f:Fr (fun q=>q=ob) w W)=>show Nats W lv L from s1.fr f (fun hne q hq e=>hIo (by rw[←e];exact i1 hne q hq)));have HUR:=Hh (fun(W:World) (f:Fr (fun q=>q=ob) w W)=>show Nats W rv R from s2.fr f (fun hne q hq e=>hIo (by rw[←e];exact i2 hne q hq)));have hsub:=HSub.out;rw[←hLe,←hRe]at hsub;have HSub:=Hh hsub;have HIff:=Hh hiff;have hL9:L.length≤9223372036854775807:=by obtain⟨a,c,_,h1,h2,_⟩:=s1;omega
  have hR9:R.length≤9223372036854775807:=by obtain⟨a,c,_,h1,h2,_⟩:=s2;omega
  obtain⟨ua,uc,rfl,z⟩:=id s1;clear z;obtain⟨va,vc,rfl,z⟩:=id s2;clear z hL hR s1 s2 i1 i2 hLe hRe hsub hiff hP hF hO hc ih hres;go_enter Tryz.func132,Tryz.ntmps132;go_upto_region 1 with fail;go_quiet (fail);obtain⟨w2,hw2⟩:∃w2,w2=w.drewN nq:=⟨_,rfl⟩;have hf2:Fr NoM w w2:=by rw[hw2];exact⟨rfl,rfl,rfl,Nat.le_refl _,fun _ _ _=>rfl⟩
  rw[←hw2];have F2:=Hh (hf2.any (M:=fun q=>q=ob));have HF2:=Hh (HF.out.fr hf2 (fun q=>q));clear hf2 hw2 p0 p1 r1 r2 ix1 ix2;by_cases h1:1<L.length
  ·have HN:=Hh (show res=false from by
    cases hc:res with
    | false=>rfl
    | true=>have:=(HIff.out.1 hc).1;omega)
   have h1':(1:Int)<(L.length:Int):=by omega
   go_wp2_with fail;go_ret;exact⟨by rw[HN.out];rfl,f,HF2.out,HO.out,F2.out⟩
  ·by_cases h2:1<R.length
   ·have HN:=Hh (show res=false from by
     cases hc:res with
     | false=>rfl
     | true=>have:=(HIff.out.1 hc).2.1;omega)
    have h1':¬(1:Int)<(L.length:Int):=by omega
    have h2':(1:Int)<(R.length:Int):=by omega
    go_wp2_with fail;go_ret;exact⟨by rw[HN.out];rfl,f,HF2.out,HO.out,F2.out⟩
   ·have h1':¬(1:Int)<(L.length:Int):=by omega
    have h2':¬(1:Int)<(R.length:Int):=by omega
    go_wp2_with fail;go_loopw [35] (fun t W=>∃(k:Nat) (f':Nat × Nat→Option Bool),t=.int .i64 (k:Int)∧k≤L.length∧(∀r∈L.take k,isNB (C.getD r 0)=true)∧MapF encP encB W ob f'∧OrdF C f'∧Fr (fun q=>q=ob) w2 W) (fun t _=>L.length-(intOf t).toNat)
    case atStart=>exact⟨0,f,rfl,Nat.zero_le _,by simp,HF2.out,HO.out,Fr.refl _ _⟩
    case round =>
     obtain⟨k,f7,rfl,hk,hall,hm7,ho7,hf7⟩:=hrel;obtain⟨w7,rfl⟩:∃w7,w7=wr:=⟨_,rfl⟩;have F7:=Hh (F2.out.trans hf7 (fun _ _ q=>q));have F27:=Hh hf7;have e4:=HUL.out w7 F7.out;have HAll:=Hh hall;have HM7:=Hh hm7;have HO7:=Hh ho7;clear hall hm7 ho7 hf7;by_cases hkl:k<L.length
     ·obtain⟨r,hr⟩:∃r,L[k]?=some r:=⟨_,List.getElem?_eq_getElem hkl⟩
      obtain⟨hrx,hrc⟩:=HSub.out r (.inl (List.mem_of_getElem? hr));obtain⟨a',c',ee,_,_,hcc⟩:=e4;cases ee
      obtain⟨b3,o3,ha3,c3⟩:=hcc k r hr;have c3':w7.cell? ⟨b3,o3+k,none⟩=some (.int .i64 (r:Int)):=c3;have ix3:=ixInts ua L.length uc k b3 o3 hkl ha3;have hq:=HIh.out r (by omega) (by omega) hrc f7 w7 (HPs.out w7 F7.out) HM7.out HO7.out;obtain⟨gb,hgb⟩:∃gb,gb=isNB (C.getD r 0):=⟨_,rfl⟩;rw[←hgb]at hq;have HGq:=Hh hq;have HGb:=Hh hgb;have HR':=Hh hr;clear hr hcc ha3 c3 hq hgb;go_wp2_with fail;(with_reducible refine HGq.out.mono ?_);rintro e w8 ⟨rfl,f8,hm8,ho8,hf8⟩;have HM8:=Hh hm8;have HO8:=Hh ho8;have F8:=Hh (F7.out.trans hf8 (fun _ _ q=>q));have F28:=Hh (F27.out.trans hf8 (fun _ _ q=>q));clear hm8 ho8 hf8 c3';cases gb with
      | false =>
       have hn:res=false:=by
        cases hc:res with
        | false=>rfl
        | true=>have:=(HIff.out.1 hc).2.2.1 r (List.mem_of_getElem? HR'.out);rw[←HGb.out]at this;cases this
       have HN:=Hh hn;clear hn;go_wp2_with fail;go_ret;exact⟨by rw[HN.out];rfl,f8,HM8.out,HO8.out,F8.out⟩
      | true =>
       go_wp2_with fail;go_roundw
       case rel=>exact⟨k+1,f8,by go_num,by omega,fun r' hr'=>by
        obtain⟨hkl',ee⟩:=List.getElem?_eq_some_iff.1 HR'.out
        rw[List.take_succ_eq_append_getElem hkl',List.mem_append,List.mem_singleton]at hr';rcases hr' with hr'|hr'
        ·exact HAll.out r' hr'
        ·rw[hr',ee];exact HGb.out.symm,HM8.out,HO8.out,F28.out⟩
       case measure=>simp[intOf];omega
     ·have hk':k=L.length:=by omega
      subst hk';have hallL:∀r∈L,isNB (C.getD r 0)=true:=by have:=HAll.out;rwa [List.take_length]at this
      have HAllL:=Hh hallL;clear hallL HAll e4;go_wp2_with fail;go_loopw [46] (fun t W=>∃(k:Nat) (f':Nat × Nat→Option Bool),t=.int .i64 (k:Int)∧k≤R.length∧(∀r∈R.take k,isNB (C.getD r 0)=true)∧MapF encP encB W ob f'∧OrdF C f'∧Fr (fun q=>q=ob) w7 W) (fun t _=>R.length-(intOf t).toNat)
      case atStart=>exact⟨0,f7,rfl,Nat.zero_le _,by simp,HM7.out,HO7.out,Fr.refl _ _⟩
      case round =>
       obtain⟨k,f6,rfl,hk,hall,hm6,ho6,hf6⟩:=hrel;obtain⟨w6,rfl⟩:∃w6,w6=wr:=⟨_,rfl⟩;have F6:=Hh (F7.out.trans hf6 (fun _ _ q=>q));have F76:=Hh hf6;have e4:=HUR.out w6 F6.out;have HAll:=Hh hall;have HM6:=Hh hm6;have HO6:=Hh ho6;clear hall hm6 ho6 hf6;by_cases hkl:k<R.length
       ·obtain⟨r,hr⟩:∃r,R[k]?=some r:=⟨_,List.getElem?_eq_getElem hkl⟩
        obtain⟨hrx,hrc⟩:=HSub.out r (.inr (List.mem_of_getElem? hr));obtain⟨a',c',ee,_,_,hcc⟩:=e4;cases ee
        obtain⟨b3,o3,ha3,c3⟩:=hcc k r hr;have c3':w6.cell? ⟨b3,o3+k,none⟩=some (.int .i64 (r:Int)):=c3;have ix3:=ixInts va R.length vc k b3 o3 hkl ha3;have hq:=HIh.out r (by omega) (by omega) hrc f6 w6 (HPs.out w6 F6.out) HM6.out HO6.out;obtain⟨gb,hgb⟩:∃gb,gb=isNB (C.getD r 0):=⟨_,rfl⟩;rw[←hgb]at hq;have HGq:=Hh hq;have HGb:=Hh hgb;have HR':=Hh hr;clear hr hcc ha3 c3 hq hgb;go_wp2_with fail;(with_reducible refine HGq.out.mono ?_);rintro e w8 ⟨rfl,f8,hm8,ho8,hf8⟩;have HM8:=Hh hm8;have HO8:=Hh ho8;have F8:=Hh (F6.out.trans hf8 (fun _ _ q=>q));have F78:=Hh (F76.out.trans hf8 (fun _ _ q=>q));clear hm8 ho8 hf8 c3';cases gb with
        | false =>
         have hn:res=false:=by
          cases hc:res with
          | false=>rfl
          | true=>have:=(HIff.out.1 hc).2.2.2.1 r (List.mem_of_getElem? HR'.out);rw[←HGb.out]at this;cases this
         have HN:=Hh hn;clear hn;go_wp2_with fail;go_ret;exact⟨by rw[HN.out];rfl,f8,HM8.out,HO8.out,F8.out⟩
        | true =>
         go_wp2_with fail;go_roundw
         case rel=>exact⟨k+1,f8,by go_num,by omega,fun r' hr'=>by
          obtain⟨hkl',ee⟩:=List.getElem?_eq_some_iff.1 HR'.out
          rw[List.take_succ_eq_append_getElem hkl',List.mem_append,List.mem_singleton]at hr';rcases hr' with hr'|hr'
          ·exact HAll.out r' hr'
          ·rw[hr',ee];exact HGb.out.symm,HM8.out,HO8.out,F78.out⟩
         case measure=>simp[intOf];omega
       ·have hk':k=R.length:=by omega
        subst hk';have hallR:∀r∈R,isNB (C.getD r 0)=true:=by have:=HAll.out;rwa [List.take_length]at this
        have HAllR:=Hh hallR;clear hallR HAll;have HL1:=Hh (show L.length≤1 by omega);have HR1:=Hh (show R.length≤1 by omega);by_cases hz:L.length=0∨R.length=0
        ·have hn:res=true:=HIff.out.2 ⟨HL1.out,HR1.out,HAllL.out,HAllR.out,fun l hl r hr=>by
          rcases hz with h|h
          ·rw[List.length_eq_zero_iff]at h;rw[h]at hl;simp at hl
          ·rw[List.length_eq_zero_iff]at h;rw[h]at hr;simp at hr⟩
         have HN:=Hh hn;clear hn;by_cases hl0:L.length=0
         ·have hl0':((L.length:Int) == 0)=true:=by rw[hl0];rfl
          have hl1':(L.length:Int)=0:=by omega
          clear e4 hz;go_upto_region 16 with fail;go_quiet (fail);go_wp2_with fail;go_ret;exact⟨by rw[HN.out];rfl,f6,HM6.out.fr (quiet_fr w6 nq) (fun q=>q),HO6.out,F6.out.trans (quiet_fr w6 nq) (fun _ _ q=>q.elim)⟩
         ·have hr0:R.length=0:=hz.resolve_left hl0
          have hl0':((L.length:Int) == 0)=false:=by rw[beq_eq_false_iff_ne];omega
          have hr0':((R.length:Int) == 0)=true:=by rw[hr0];rfl
          have hl1':¬(L.length:Int)=0:=by omega
          have hr1':(R.length:Int)=0:=by omega
          clear e4 hz;go_upto_region 16 with fail;go_quiet (fail);go_wp2_with fail;go_ret;exact⟨by rw[HN.out];rfl,f6,HM6.out.fr (quiet_fr w6 nq) (fun q=>q),HO6.out,F6.out.trans (quiet_fr w6 nq) (fun _ _ q=>q.elim)⟩
        ·obtain⟨a,ha⟩:∃a,L[0]?=some a:=⟨_,List.getElem?_eq_getElem (by omega)⟩
         obtain⟨b,hb⟩:∃b,R[0]?=some b:=⟨_,List.getElem?_eq_getElem (by omega)⟩;have hma:=List.mem_of_getElem? ha;have hmb:=List.mem_of_getElem? hb;obtain⟨hax,_⟩:=HSub.out a (.inl hma);obtain⟨hbx,_⟩:=HSub.out b (.inr hmb);have hn:res=!geV C a b:=by
          cases hc:geV C a b with
          | true =>
           cases hd:res with
           | false=>rfl
           | true=>have:=(HIff.out.1 hd).2.2.2.2 a hma b hmb;rw[hc]at this;cases this
          | false =>
           exact HIff.out.2 ⟨HL1.out,HR1.out,HAllL.out,HAllR.out,fun l hl r hr=>by
            rw[one_mem HL1.out l hl a hma,one_mem HR1.out r hr b hmb];exact hc⟩
         have hl0':((L.length:Int) == 0)=false:=by rw[beq_eq_false_iff_ne];omega
         have hr0':((R.length:Int) == 0)=false:=by rw[beq_eq_false_iff_ne];omega
         have hl1':¬(L.length:Int)=0:=by omega
         have hr1':¬(R.length:Int)=0:=by omega
         obtain⟨_,_,ee,_,_,hcc⟩:=HUL.out w6 F6.out;cases ee
         obtain⟨b3,o3,ha3,c3⟩:=hcc 0 a ha;have c3':w6.cell? ⟨b3,o3,none⟩=some (.int .i64 (a:Int)):=c3;obtain⟨_,_,ee,_,_,hcd⟩:=e4;cases ee
         obtain⟨b4,o4,ha4,c4⟩:=hcd 0 b hb;have c4':w6.cell? ⟨b4,o4,none⟩=some (.int .i64 (b:Int)):=c4;have ix3:∀W,(Instr.indexAt 26 (.slice ua L.length uc) (.int .i64 0)).run Tryz.prog W=.ok (.pointer (some ⟨b3,o3,none⟩)) W:=ixInts ua L.length uc 0 b3 o3 (by omega) ha3;have ix4:∀W,(Instr.indexAt 26 (.slice va R.length vc) (.int .i64 0)).run Tryz.prog W=.ok (.pointer (some ⟨b4,o4,none⟩)) W:=ixInts va R.length vc 0 b4 o4 (by omega) ha4;have FD:=Hh (F6.out.trans ((Fr.refl NoM w6).drew) (fun _ _ q=>q.elim));have hgq:=HGe.out a b hax hbx f6 w6.drew (HPs.out _ FD.out) (HM6.out.fr ((Fr.refl NoM w6).drew) (fun q=>q)) HO6.out;obtain⟨gb,hgb⟩:∃gb,gb=geV C a b:=⟨_,rfl⟩;rw[←hgb]at hn hgq;have HGq:=Hh hgq;have HN:=Hh hn;clear hgq hgb;clear hcc hcd c3 c4 ha3 ha4 hn ha hb hma hmb hz;go_upto_region 16 with fail;go_still_tail 16,(by kernel_rfl);change wpList _ _ _ _ _ w6.drew
         clear c3' c4' ix3 ix4;go_wp2_with fail;(with_reducible refine HGq.out.mono ?_);rintro e w8 ⟨rfl,f8,hm8,ho8,hf8⟩;have HM8:=Hh hm8;have HO8:=Hh ho8;have F8:=Hh (FD.out.trans hf8 (fun _ _ q=>q));clear hm8 ho8 hf8;cases gb with
         | true =>
          go_wp2_with fail;go_ret;exact⟨by rw[HN.out];rfl,f8,HM8.out,HO8.out,F8.out⟩
         | false =>
          go_wp2_with fail;go_ret;exact⟨by rw[HN.out];rfl,f8,HM8.out,HO8.out,F8.out⟩
theorem infoEntry:(Tryz.prog.info? 192).map (fun i=>(i.zero,i.size,i.bytes))=some (some (.agg #[.int .i64 0,.slice none 0 0,.slice none 0 0]),3,56):=by kernel_rfl
def rankF (A:List Nat)(x:Nat):Option Nat:=if x∈A then some (A.idxOf x)else none
theorem rankF_snoc (A:List Nat)(x:Nat)(h:x ∉ A):upd (rankF A) x A.length=rankF (A ++ [x]):=by
 funext y
 unfold upd rankF;by_cases e:y=x
 ·subst e;simp[List.idxOf_append,h]
 ·by_cases hy:y∈A
  ·simp[e,hy,List.idxOf_append]
  ·simp[e,hy]
theorem rankM_rankF {A L:List Nat}(h:∀x∈L,x∈A):rankM (rankF A) L=L.map fun x=>A.idxOf x:=by
 unfold rankM;refine List.map_congr_left fun x hx=>?_
 unfold rankF;rw[if_pos (h x hx)];rfl
def RowB (w:World)(q:Nat):Prop:=∃cur:Array Value,w.heap[q]?=some (.cells cur 3 (0,0))
theorem RowB.fr {M:Nat→Prop}{w w':World}{q:Nat}(h:RowB w q)(hf:Fr M w w')(hm:¬M q):RowB w' q:=by
 obtain⟨cur,h⟩:=h;exact⟨cur,hf.heap h hm⟩
theorem RowB.of_owns {w:World}{base g n cap:Nat}{xs:List Value}(h:w.ownsRow base 3 1 (.slice (some ⟨g,0,none⟩) n cap) n xs):RowB w g:=by
 rcases h.2 with ⟨h0,_⟩|⟨g',cap',cur,hv,hb,hg,hnc,hcm,hs,ht⟩
 ·cases h0
 ·cases hv
  exact⟨cur,hg⟩
theorem ranked_nats (v:Value)(L A:List Nat)(rb:Nat)(w:World)(hL:Nats w v L)(hR:MapF encN encN w rb (rankF A))(hA:∀x∈L,x∈A)(hu:L.Pairwise (· < ·))(hl:L.length<1000000000) :
  Calls Tryz.prog 195 #[v,.map (some rb)] w fun e w'=>∃g,e=.returned (.slice (some ⟨g,0,none⟩) L.length L.length)∧Nats w' (.slice (some ⟨g,0,none⟩) L.length L.length) (rankL A L)∧w.heap.size≤g∧g<w'.heap.size∧Fr NoM w w'∧RowB w' g:=by
 refine(ranked_any v L rb (rankF A) w hL hR hl).mono ?_
 rintro e w' ⟨g,rfl,h,f⟩;have hnd:(L.map fun x=>A.idxOf x).Nodup:=by
  refine List.nodup_iff_pairwise_ne.2 (List.pairwise_map.2 (hu.imp_of_mem fun {a b} ha hb hlt e=>?_));have h1:=(idx_getD (hA a ha)).2;have h2:=(idx_getD (hA b hb)).2;rw[e,h2]at h1;omega
 rw[rankM_rankF hA,sortI_nodup _ hnd]at h;have hx:(ints (sortN (L.map fun x=>A.idxOf x))).map encI=(rankL A L).map encN:=by simp[ints,encN,encI,Function.comp_def,rankL]
 rw[hx]at h;exact⟨g,rfl,SliceOf.of_owns h rfl,(h.lt g rfl).1,(h.lt g rfl).2,f,RowB.of_owns h⟩
def blocksOf (NV:List (Value × Value)):List Nat:=(flat2 NV).filterMap Value.ownBlock
theorem blocksOf_snoc (NV:List (Value × Value))(l r:Value):blocksOf (NV ++ [(l,r)])=blocksOf NV ++ [l,r].filterMap Value.ownBlock:=by simp[blocksOf,flat2]
theorem mem_blocks {NV:List (Value × Value)}{j:Nat}{x:Value × Value}(h:NV[j]?=some x):(∀q,x.1.ownBlock=some q→q∈blocksOf NV)∧∀q,x.2.ownBlock=some q→q∈blocksOf NV:=by
 have hx:=List.mem_of_getElem? h;constructor
 ·intro q hq;exact List.mem_filterMap.2 ⟨x.1,List.mem_flatMap.2 ⟨x,hx,by simp⟩,hq⟩
 ·intro q hq;exact List.mem_filterMap.2 ⟨x.2,List.mem_flatMap.2 ⟨x,hx,by simp⟩,hq⟩
theorem pair_nodup (l r:Value)(h:∀q,l.ownBlock=some q→r.ownBlock≠some q):([l,r].filterMap Value.ownBlock).Nodup:=by
 cases hl:l.ownBlock with
 | none=>cases hr:r.ownBlock <;> simp[List.filterMap_cons,hl,hr]
 | some a =>
  cases hr:r.ownBlock with
  | none=>simp[List.filterMap_cons,hl,hr]
  | some b =>
   have hne:a≠b:=fun e=>h a hl (by rw[hr,e])
   simp[List.filterMap_cons,hl,hr,hne]
theorem mem_pair {l r:Value}{q:Nat}(h:q∈[l,r].filterMap Value.ownBlock):l.ownBlock=some q∨r.ownBlock=some q:=by
 obtain⟨u,hu,hq⟩:=List.mem_filterMap.1 h;simp at hu;rcases hu with rfl|rfl
 ·exact .inl hq
 ·exact .inr hq
structure NodesN (D:Nat) (w:World) (v:Value) (FN:List PL) (NV:List (Value × Value)):Prop where
 row:w.ownsRow D 85 2 v NV.length (flat2 NV)
 len:NV.length=FN.length
 nats:∀(j:Nat) (x:Value × Value) (y:PL),NV[j]?=some x→FN[j]?=some y→Nats w x.1 y.1∧Nats w x.2 y.2
 blk:∀q∈blocksOf NV,D≤q∧q<w.heap.size∧v.ownBlock≠some q
 sep:(blocksOf NV).Nodup
 thaw:∀q∈blocksOf NV,RowB w q
def NodesS (D:Nat)(w:World)(v:Value)(FN:List PL):Prop:=∃NV,NodesN D w v FN NV
theorem NodesN.fr {M:Nat→Prop}{D:Nat}{w w':World}{v:Value}{FN:List PL}{NV:List (Value × Value)}(h:NodesN D w v FN NV)(hf:Fr M w w')(hM:∀q,D≤q→q<w.heap.size→¬M q):NodesN D w' v FN NV:=by
 refine⟨owns_fr h.row hf (fun q hq=>hM q (h.row.lt q hq).1 (h.row.lt q hq).2),h.len,fun j x y hx hy=>?_,fun q hq=>⟨(h.blk q hq).1,Nat.lt_of_lt_of_le (h.blk q hq).2.1 hf.size,(h.blk q hq).2.2⟩,h.sep,fun q hq=>(h.thaw q hq).fr hf (hM q (h.blk q hq).1 (h.blk q hq).2.1)⟩;obtain⟨s1,s2⟩:=h.nats j x y hx hy;obtain⟨m1,m2⟩:=mem_blocks hx;exact⟨s1.fr hf (fun _ q hq=>hM q (h.blk q (m1 q hq)).1 (h.blk q (m1 q hq)).2.1),s2.fr hf (fun _ q hq=>hM q (h.blk q (m2 q hq)).1 (h.blk q (m2 q hq)).2.1)⟩
theorem NodesS.fr {M:Nat→Prop}{D:Nat}{w w':World}{v:Value}{FN:List PL}(h:NodesS D w v FN)(hf:Fr M w w')(hM:∀q,D≤q→q<w.heap.size→¬M q):NodesS D w' v FN:=by
 obtain⟨NV,h⟩:=h;exact⟨NV,h.fr hf hM⟩
theorem NodesS.base {D D':Nat}{w:World}{v:Value}{FN:List PL}(h:NodesS D w v FN)(hd:D'≤D):NodesS D' w v FN:=by
 obtain⟨NV,h⟩:=h;exact⟨NV,owns_base h.row hd,h.len,h.nats,fun q hq=>⟨Nat.le_trans hd (h.blk q hq).1,(h.blk q hq).2⟩,h.sep,h.thaw⟩
theorem NodesS.made (w:World)(n:Nat)(hn:n≤9223372036854775807)(cur:Array Value)(hc:cur.size=n*2):NodesS w.heap.size (w.alloc (.cells cur 85)) (.slice (some ⟨w.heap.size,0,none⟩) 0 n) [] :=
 ⟨[],⟨rfl,.inr ⟨_,n,cur,rfl,Nat.le_refl _,heap_alloc_new w _,Nat.zero_le _,hn,hc,by simp[flat2]⟩⟩,rfl,by simp,by simp[blocksOf,flat2],by simp[blocksOf,flat2],by simp[blocksOf,flat2]⟩
theorem NodesN.snoc {D:Nat}{w w':World}{v v':Value}{FN:List PL}{x:PL}{l r:Value}{NV:List (Value × Value)}(h:NodesN D w v FN NV)
  (hl:Nats w l x.1∧∀q,l.ownBlock=some q→D≤q∧q<w.heap.size∧v.ownBlock≠some q) (hr:Nats w r x.2∧∀q,r.ownBlock=some q→D≤q∧q<w.heap.size∧v.ownBlock≠some q)
  (hlr:∀q,l.ownBlock=some q→r.ownBlock≠some q) (hnew:∀q∈blocksOf NV,l.ownBlock≠some q∧r.ownBlock≠some q)
  (hth:∀q,l.ownBlock=some q∨r.ownBlock=some q→RowB w q)
  (hown:w'.ownsRow D 85 2 v' (NV.length+1) (flat2 NV ++ [l,r])) (hf:Fr (Own1 v) w w') (hb:v'.ownBlock=v.ownBlock∨∃b,v'.ownBlock=some b∧w.heap.size≤b):NodesN D w' v' (FN ++ [x]) (NV ++ [(l,r)]):=by
 have hup:∀q,(D≤q∧q<w.heap.size∧v.ownBlock≠some q)→(D≤q∧q<w'.heap.size∧v'.ownBlock≠some q):=fun q ⟨h1,h2,h3⟩=>⟨h1,Nat.lt_of_lt_of_le h2 hf.size,fun e=>by
  rcases hb with hb|⟨b,hb,hb2⟩
  ·exact h3 (hb ▸ e)
  ·rw[hb]at e;cases e;omega⟩
 have hfl:flat2 NV ++ [l,r]=flat2 (NV ++ [(l,r)]):=by simp[flat2]
 rw[hfl]at hown;refine⟨by rw[List.length_append];exact hown,by simp[h.len],fun j a y ha hy=>?_,fun q hq=>?_,?_,fun q hq=>?_⟩
 ·by_cases hj:j<NV.length
  ·rw[List.getElem?_append_left hj]at ha
   rw[List.getElem?_append_left (by rw[←h.len];exact hj)]at hy;obtain⟨s1,s2⟩:=h.nats j a y ha hy;obtain⟨m1,m2⟩:=mem_blocks ha;exact⟨s1.fr hf (fun _ q hq=>(h.blk q (m1 q hq)).2.2),s2.fr hf (fun _ q hq=>(h.blk q (m2 q hq)).2.2)⟩
  ·have hje:j=NV.length:=by have:=(List.getElem?_eq_some_iff.1 ha).1;simp at this;omega
   subst hje;have e1:a=(l,r):=by simpa using ha.symm
   have e2:y=x:=by rw[h.len]at hy;simpa using hy.symm
   subst e1;subst e2;exact⟨hl.1.fr hf (fun _ q hq=>(hl.2 q hq).2.2),hr.1.fr hf (fun _ q hq=>(hr.2 q hq).2.2)⟩
 ·rw[blocksOf_snoc,List.mem_append]at hq
  rcases hq with hq|hq
  ·exact hup q (h.blk q hq)
  ·rcases mem_pair hq with hq|hq
   ·exact hup q (hl.2 q hq)
   ·exact hup q (hr.2 q hq)
 ·rw[blocksOf_snoc,List.nodup_append]
  refine⟨h.sep,pair_nodup l r hlr,fun q hq p hp e=>?_⟩;subst e;rcases mem_pair hp with hp|hp
  ·exact(hnew q hq).1 hp
  ·exact(hnew q hq).2 hp
 ·rw[blocksOf_snoc,List.mem_append]at hq
  rcases hq with hq|hq
  ·exact(h.thaw q hq).fr hf (h.blk q hq).2.2
  ·refine(hth q (mem_pair hq)).fr hf ?_
   rcases mem_pair hq with hq|hq
   ·exact(hl.2 q hq).2.2
   ·exact(hr.2 q hq).2.2
theorem NodesS.nodeL {D:Nat}{w:World}{v:Value}{FN:List PL}(h:NodesS D w v FN):NodeL (D≤·) encN w v FN:=by
 obtain⟨NV,h⟩:=h;have hr:NodeRow (D≤·) D w v FN:=⟨NV,h.row,h.len,fun j x y hx hy=>by
  obtain⟨s1,s2⟩:=h.nats j x y hx hy;obtain⟨m1,m2⟩:=mem_blocks hx;exact⟨s1,s2,fun _ q hq=>(h.blk q (m1 q hq)).1,fun _ q hq=>(h.blk q (m2 q hq)).1⟩⟩
 exact hr.nodeL (fun _ hb=>hb) (fun _ hb=>hb)
theorem NodesS.nil (D:Nat)(w:World):NodesS D w (.slice none 0 0) []:=⟨[],⟨rfl,.inl ⟨rfl,rfl⟩⟩,rfl,by simp,by simp[blocksOf,flat2],by simp[blocksOf,flat2],by simp[blocksOf,flat2]⟩
def fG (V:List PL)(A G:List Nat)(i:Nat):PL:=if i∈G then rankP A (nodeV V i)else ([],[])
def blocksE (lv rv:Nat→Value)(G:List Nat):List Nat:=(G.flatMap fun x=>[lv x,rv x]).filterMap Value.ownBlock
theorem blocksE_append (lv rv:Nat→Value)(G H:List Nat):blocksE lv rv (G++H)=blocksE lv rv G++blocksE lv rv H:=by simp[blocksE]
theorem blocksE_one (lv rv:Nat→Value)(x:Nat):blocksE lv rv [x]=[lv x,rv x].filterMap Value.ownBlock:=by simp[blocksE]
theorem mem_blocksE {lv rv:Nat→Value}{G:List Nat}{q:Nat}(h:q∈blocksE lv rv G):∃x∈G,(lv x).ownBlock=some q∨(rv x).ownBlock=some q:=by
 obtain⟨u,hu,hq⟩:=List.mem_filterMap.1 h;obtain⟨x,hx,hu⟩:=List.mem_flatMap.1 hu;simp at hu;rcases hu with rfl|rfl
 ·exact⟨x,hx,.inl hq⟩
 ·exact⟨x,hx,.inr hq⟩
theorem blocksE_perm {lv rv:Nat→Value}{G H:List Nat}(h:G.Perm H):(blocksE lv rv G).Perm (blocksE lv rv H):=(h.flatMap_right _).filterMap _
structure ERow (Z:Nat) (w:World) (v:Value) (G:List Nat) (lv rv:Nat→Value) (f:Nat→PL):Prop where
 row:w.ownsRow Z 192 3 v G.length (flat3 lv rv G)
 left:∀i,Nats w (lv i) (f i).1∧∀q,(lv i).ownBlock=some q→Z≤q∧q<w.heap.size∧v.ownBlock≠some q
 right:∀i,Nats w (rv i) (f i).2∧∀q,(rv i).ownBlock=some q→Z≤q∧q<w.heap.size∧v.ownBlock≠some q
 sep:(blocksE lv rv G).Nodup
 thaw:∀i q,(lv i).ownBlock=some q∨(rv i).ownBlock=some q→RowB w q
theorem ERow.fr {M:Nat→Prop}{Z:Nat}{w w':World}{v:Value}{G:List Nat}{lv rv:Nat→Value}{f:Nat→PL}(h:ERow Z w v G lv rv f)(hf:Fr M w w')(hM:∀q,Z≤q→q<w.heap.size→¬M q):ERow Z w' v G lv rv f :=
 ⟨owns_fr h.row hf (fun q hq=>hM q (h.row.lt q hq).1 (h.row.lt q hq).2),
  fun i=>⟨(h.left i).1.fr hf (fun _ q hq=>hM q ((h.left i).2 q hq).1 ((h.left i).2 q hq).2.1),fun q hq=>⟨((h.left i).2 q hq).1,Nat.lt_of_lt_of_le ((h.left i).2 q hq).2.1 hf.size,((h.left i).2 q hq).2.2⟩⟩,
  fun i=>⟨(h.right i).1.fr hf (fun _ q hq=>hM q ((h.right i).2 q hq).1 ((h.right i).2 q hq).2.1),fun q hq=>⟨((h.right i).2 q hq).1,Nat.lt_of_lt_of_le ((h.right i).2 q hq).2.1 hf.size,((h.right i).2 q hq).2.2⟩⟩,h.sep,fun i q hq=>(h.thaw i q hq).fr hf (by
   rcases hq with hq|hq
   ·exact hM q ((h.left i).2 q hq).1 ((h.left i).2 q hq).2.1
   ·exact hM q ((h.right i).2 q hq).1 ((h.right i).2 q hq).2.1)⟩
def setV (f:Nat→Value)(x:Nat)(v:Value)(i:Nat):Value:=if i=x then v else f i
theorem flat3_set (lv rv:Nat→Value)(G:List Nat)(x:Nat)(l r:Value)(h:x ∉ G):flat3 (setV lv x l) (setV rv x r) (G ++ [x])=flat3 lv rv G ++ [encN x,l,r]:=by
 unfold flat3;rw[List.flatMap_append];have e1:G.flatMap (enc3 (setV lv x l) (setV rv x r))=G.flatMap (enc3 lv rv):=by
  rw[List.flatMap_def,List.flatMap_def];congr 1
  refine List.map_congr_left fun i hi=>?_
  have hne:¬i=x:=fun e=>h (e ▸ hi)
  simp[enc3,setV,hne]
 rw[e1];simp[enc3,setV]
theorem blocksE_set (lv rv:Nat→Value)(G:List Nat)(x:Nat)(l r:Value)(h:x ∉ G):blocksE (setV lv x l) (setV rv x r) (G ++ [x])=blocksE lv rv G ++ [l,r].filterMap Value.ownBlock:=by
 rw[blocksE_append,blocksE_one];have e1:G.flatMap (fun y=>[setV lv x l y,setV rv x r y])=G.flatMap (fun y=>[lv y,rv y]):=by
  rw[List.flatMap_def,List.flatMap_def];congr 1
  refine List.map_congr_left fun i hi=>?_
  have hne:¬i=x:=fun e=>h (e ▸ hi)
  simp[setV,hne]
 have e2:blocksE (setV lv x l) (setV rv x r) G=blocksE lv rv G:=by unfold blocksE;rw[e1]
 rw[e2];simp[setV]
theorem ERow.snoc {Z:Nat}{w w1 w':World}{v v':Value}{G:List Nat}{lv rv:Nat→Value}{V:List PL}{A:List Nat}{x:Nat}{l r:Value}(h:ERow Z w v G lv rv (fG V A G))(hx:x ∉ G)(hf1:Fr NoM w w1)
  (hlr:∀q,l.ownBlock=some q→r.ownBlock≠some q) (hge:∀q,l.ownBlock=some q∨r.ownBlock=some q→w.heap.size≤q) (hth:∀q,l.ownBlock=some q∨r.ownBlock=some q→RowB w1 q)
  (hl:Nats w1 l (rankP A (nodeV V x)).1∧∀q,l.ownBlock=some q→Z≤q∧q<w1.heap.size∧v.ownBlock≠some q) (hr:Nats w1 r (rankP A (nodeV V x)).2∧∀q,r.ownBlock=some q→Z≤q∧q<w1.heap.size∧v.ownBlock≠some q)
  (hown:w'.ownsRow Z 192 3 v' (G.length+1) (flat3 lv rv G ++ [encN x,l,r])) (hf:Fr (Own1 v) w1 w') (hb:v'.ownBlock=v.ownBlock∨∃b,v'.ownBlock=some b∧w1.heap.size≤b):ERow Z w' v' (G ++ [x]) (setV lv x l) (setV rv x r) (fG V A (G ++ [x])):=by
 have h1:=h.fr hf1 (fun _ _ _ q=>q);have hnew:∀q,(Z≤q∧q<w1.heap.size∧v.ownBlock≠some q)→(Z≤q∧q<w'.heap.size∧v'.ownBlock≠some q):=fun q ⟨h1,h2,h3⟩=>⟨h1,Nat.lt_of_lt_of_le h2 hf.size,fun e=>by
  rcases hb with hb|⟨b,hb,hb2⟩
  ·exact h3 (hb ▸ e)
  ·rw[hb]at e;cases e;omega⟩
 have hsep:(blocksE (setV lv x l) (setV rv x r) (G ++ [x])).Nodup:=by
  rw[blocksE_set _ _ _ _ _ _ hx,List.nodup_append];refine⟨h.sep,pair_nodup l r hlr,fun q hq p hp e=>?_⟩;subst e;have h1:=hge q (mem_pair hp);obtain⟨i,_,hi|hi⟩:=mem_blocksE hq
  ·have:=((h.left i).2 q hi).2.1;omega
  ·have:=((h.right i).2 q hi).2.1;omega
 refine⟨by rw[List.length_append,flat3_set _ _ _ _ _ _ hx];exact hown,fun i=>?_,fun i=>?_,hsep,fun i q hq=>?_⟩
 ·by_cases e:i=x
  ·subst e
   have e1:fG V A (G ++ [i]) i=rankP A (nodeV V i):=if_pos (by simp);rw[e1];simp only[setV,if_true];exact⟨hl.1.fr hf (fun _ q hq=>(hl.2 q hq).2.2),fun q hq=>hnew q (hl.2 q hq)⟩
  ·have e1:fG V A (G ++ [x]) i=fG V A G i:=by unfold fG;simp[e]
   rw[e1];simp only[setV,if_neg e];exact⟨(h1.left i).1.fr hf (fun _ q hq=>((h1.left i).2 q hq).2.2),fun q hq=>hnew q ((h1.left i).2 q hq)⟩
 ·by_cases e:i=x
  ·subst e
   have e1:fG V A (G ++ [i]) i=rankP A (nodeV V i):=if_pos (by simp);rw[e1];simp only[setV,if_true];exact⟨hr.1.fr hf (fun _ q hq=>(hr.2 q hq).2.2),fun q hq=>hnew q (hr.2 q hq)⟩
  ·have e1:fG V A (G ++ [x]) i=fG V A G i:=by unfold fG;simp[e]
   rw[e1];simp only[setV,if_neg e];exact⟨(h1.right i).1.fr hf (fun _ q hq=>((h1.right i).2 q hq).2.2),fun q hq=>hnew q ((h1.right i).2 q hq)⟩
 ·by_cases e:i=x
  ·subst e
   simp only[setV,if_true]at hq;refine(hth q hq).fr hf ?_
   rcases hq with hq|hq
   ·exact(hl.2 q hq).2.2
   ·exact(hr.2 q hq).2.2
  ·simp only[setV,if_neg e]at hq
   refine(h1.thaw i q hq).fr hf ?_
   rcases hq with hq|hq
   ·exact((h1.left i).2 q hq).2.2
   ·exact((h1.right i).2 q hq).2.2
theorem ERow.made (w:World)(V:List PL)(A:List Nat):ERow w.heap.size (w.alloc (.cells #[] 192)) (.slice (some ⟨w.heap.size,0,none⟩) 0 0) [] (fun _=>.slice none 0 0) (fun _=>.slice none 0 0) (fG V A []) :=
 ⟨World.ownsRow_made w #[] 0 (Nat.le_refl _) (by decide) (by simp),fun i=>⟨⟨none,0,rfl,Nat.le_refl _,by decide,by simp[fG]⟩,fun q hq=>by simp[Value.ownBlock]at hq⟩,fun i=>⟨⟨none,0,rfl,Nat.le_refl _,by decide,by simp[fG]⟩,fun q hq=>by simp[Value.ownBlock]at hq⟩,by simp[blocksE],fun i q hq=>by simp[Value.ownBlock]at hq⟩
end Go.Proofs.YtbbbmjiloihajaaGreatDoor
