import Derived.StillTailTactics
import Derived.Test.YtkofnbjjbcohgaaGreatDoorZwn
import Derived.Test.YtkofnbjjbcohgaaGreatDoorZwc
/- Lemmas. -/
namespace Go.Proofs.YtkofnbjjbcohgaaGreatDoor
set_option linter.unusedVariables false
set_option linter.unusedSimpArgs false
open Go.RowKit
theorem zxf {V:List PL}{C:List Nat}(B:BookC V C){x:Nat}(hx:x<V.length) :
  (∀L,L=(za4 V x).1→(∀a b,a∈L→b∈L→C.getD a 0=C.getD b 0→a=b)/\L.Pairwise (· < ·))/\∀L,L=(za4 V x).2→(∀a b,a∈L→b∈L→C.getD a 0=C.getD b 0→a=b)/\L.Pairwise (· < ·):=by
 obtain⟨o1,o2⟩:=B.opts x _ (zaf hx);obtain⟨u1,u2⟩:=B.up x _ (zaf hx);have inj:∀a b,a<x→b<x→C.getD a 0=C.getD b 0→a=b:=fun a b ha hb e=>by
  have hl:=B.len;rw[List.getD_eq_getElem?_getD,List.getD_eq_getElem?_getD,List.getElem?_eq_getElem (show a<C.length by omega),List.getElem?_eq_getElem (show b<C.length by omega)]at e;exact(List.getElem_inj B.nodup).1 e
 exact⟨fun L e=>⟨fun a b ha hb h=>inj a b (o1 a (e ▸ ha)) (o1 b (e ▸ hb)) h,e ▸ u1⟩,fun L e=>⟨fun a b ha hb h=>inj a b (o2 a (e ▸ ha)) (o2 b (e ▸ hb)) h,e ▸ u2⟩⟩
theorem zsz {L:List Nat}(hu:L.Pairwise (· < ·))(h:∀a∈L,∀b∈L,a=b):L.length≤1:=by
 match L,hu,h with
 | [],_,_=>simp
 | [_],_,_=>simp
 | a::b::l,hu,h =>
  have h1:=List.rel_of_pairwise_cons hu (show b∈b::l by simp);have h2:=h a (by simp) b (by simp);omega
theorem zk4 {L:List Nat}(h:L.length≤1):∀a∈L,∀b∈L,a=b:=by
 match L,h with
 | [],_=>simp
 | [_],_=>simp
 | a::b::l,h=>simp at h
theorem zp1 {V:List PL}{C:List Nat}(B:BookC V C){x:Nat}(hx:x<V.length)(hc:CanC (C.getD x 0)) :
  isNB (C.getD x 0)=true↔(za4 V x).1.length≤1/\(za4 V x).2.length≤1/\(∀l∈(za4 V x).1,isNB (C.getD l 0)=true)/\(∀r∈(za4 V x).2,isNB (C.getD r 0)=true)/\∀l∈(za4 V x).1,∀r∈(za4 V x).2,geV C l r=false:=by
 obtain⟨oL,oR⟩:=zax B hx;obtain⟨rL,rR⟩:=zxf B hx;obtain⟨iL,pL⟩:=rL _ rfl;obtain⟨iR,pR⟩:=rR _ rfl;constructor
 ·intro h
  refine⟨zsz pL fun a ha b hb=>iL a b ha hb (zv3 h ((oL _).2 ⟨a,ha,rfl⟩) ((oL _).2 ⟨b,hb,rfl⟩)),zsz pR fun a ha b hb=>iR a b ha hb (zv2 h ((oR _).2 ⟨a,ha,rfl⟩) ((oR _).2 ⟨b,hb,rfl⟩)),
   fun l hl=>zv1 h ((oL _).2 ⟨l,hl,rfl⟩),fun r hr=>zv0 h ((oR _).2 ⟨r,hr,rfl⟩),fun l hl r hr=>zsq h ((oL _).2 ⟨l,hl,rfl⟩) ((oR _).2 ⟨r,hr,rfl⟩)⟩
 ·rintro⟨h1,h2,h3,h4,h5⟩
  refine zv4 hc (fun l l' a b=>?_) (fun l l' a b=>?_) (fun l a=>?_) (fun l a=>?_) (fun l r a b=>?_)
  ·obtain⟨y,hy,rfl⟩:=(oL _).1 a
   obtain⟨z,hz,rfl⟩:=(oL _).1 b;rw[zk4 h1 y hy z hz]
  ·obtain⟨y,hy,rfl⟩:=(oR _).1 a
   obtain⟨z,hz,rfl⟩:=(oR _).1 b;rw[zk4 h2 y hy z hz]
  ·obtain⟨y,hy,rfl⟩:=(oL _).1 a
   exact h3 y hy
  ·obtain⟨y,hy,rfl⟩:=(oR _).1 a
   exact h4 y hy
  ·obtain⟨y,hy,rfl⟩:=(oL _).1 a
   obtain⟨z,hz,rfl⟩:=(oR _).1 b;exact h5 y hy z hz
theorem zbq (w:World)(n:Nat):Fr NoM w (w.drewN n):=⟨rfl,rfl,rfl,Nat.le_refl _,fun _ _ _=>rfl⟩
def zyh (M I:Nat→Prop)(C:List Nat)(ob:Nat)(res:Bool)(w:World)(e:Ending)(w':World):Prop:=e=.returned (.bool res)/\∃f',MapF encP encB w' ob f'∧OrdF C f'∧Fr (fun q=>q=ob) w w'
set_option maxRecDepth 4000 in
set_option maxHeartbeats 8000000 in
theorem zy1 {M I:Nat→Prop}{C:List Nat}{V:List PL}{BV:List Nat}(B:BookC V C)(pb ob:Nat)(mc ms mn:Value)(hMo:¬M ob)(hIo:¬I ob):∀n x,x<n→x<V.length→CanC (C.getD x 0)→∀(f:Nat × Nat→Option Bool) (w:World),PoolS M I w pb V BV (.map (some ob)) mc ms mn→MapF encP encB w ob f→OrdF C f →
  Calls Tryz.prog 48 #[.pointer (some ⟨pb,0,none⟩),.int .i64 (x:Int)] w fun e w'=>zyh M I C ob (isNB (C.getD x 0)) w e w':=by
 intro n;induction n with
 | zero=>intro x h;omega
 | succ n ih =>
  intro x hn hx hc f w hP hF hO;have hiff:=zp1 B hx hc;obtain⟨res,hres⟩:∃res,res=isNB (C.getD x 0):=⟨_,rfl⟩;rw[←hres]at hiff ⊢;have hsub:∀(y:Nat),(y∈(za4 V x).1∨y∈(za4 V x).2)→y<x/\CanC (C.getD y 0):=fun y hy=>by
   obtain⟨o1,o2⟩:=B.opts x _ (zaf hx);obtain⟨oL,oR⟩:=zax B hx;rcases hy with h|h
   ·exact⟨o1 y h,hc.opt (.inl ((oL _).2 ⟨y,h,rfl⟩))⟩
   ·exact⟨o2 y h,hc.opt (.inr ((oR _).2 ⟨y,h,rfl⟩))⟩
  have HSub:=Hh hsub;have HIh:=Hh ih;have HPs:=Hh (fun(W:World) (f:Fr (fun q=>q=ob) w W)=>show PoolS M I W pb V BV (.map (some ob)) mc ms mn from hP.fr f (fun q hq e=>hMo (by rw[←e];exact hq)) (fun q hq e=>hIo (by rw[←e];exact hq)));have HF:=Hh hF;have HO:=Hh hO;have HGe:=Hh (fun(a b:Nat) (ha:a<x) (hb:b<x)=>ztb (BV:=BV) B pb ob mc ms mn hMo hIo _ a b (Nat.lt_succ_self _) (by omega) (by omega));obtain⟨la,lc,ra,rc,p0,p1,_,_,_,_,hL,hR⟩:=hP.rd;obtain⟨lb,lo,lv,rfl,r1,s1,i1⟩:=hL x hx;obtain⟨rb,ro,rv,rfl,r2,s2,i2⟩:=hR x hx;have ix1:=zb0 (some ⟨lb,lo,none⟩) V.length lc x lb lo hx rfl;have ix2:=zb0 (some ⟨rb,ro,none⟩) V.length rc x rb ro hx rfl;obtain⟨L,hLe⟩:∃L,L=(za4 V x).1:=⟨_,rfl⟩;obtain⟨R,hRe⟩:∃R,R=(za4 V x).2:=⟨_,rfl⟩;rw[←hLe,←hRe]at hiff;rw[←hLe]at s1 i1;rw[←hRe]at s2 i2;have HUL:=Hh (fun(W:World) (f:Fr (fun q=>q=ob) w W)=>show Nats W lv L from s1.fr f (fun hne q hq e=>hIo (by rw[←e];exact i1 hne q hq)));have HUR:=Hh (fun(W:World) (f:Fr (fun q=>q=ob) w W)=>show Nats W rv R from s2.fr f (fun hne q hq e=>hIo (by rw[←e];exact i2 hne q hq)));have hsub:=HSub.out;rw[←hLe,←hRe]at hsub;have HSub:=Hh hsub;have HIff:=Hh hiff;have hL9:L.length≤9223372036854775807:=by obtain⟨a,c,_,h1,h2,_⟩:=s1;omega
  have hR9:R.length≤9223372036854775807:=by obtain⟨a,c,_,h1,h2,_⟩:=s2;omega
  obtain⟨ua,uc,rfl,z⟩:=id s1;clear z;obtain⟨va,vc,rfl,z⟩:=id s2;clear z hL hR s1 s2 i1 i2 hLe hRe hsub hiff hP hF hO hc ih hres;go_enter Tryz.func48,Tryz.ntmps48;go_upto_region 1 with fail;go_quiet (fail);obtain⟨w2,hw2⟩:∃w2,w2=w.drewN nq:=⟨_,rfl⟩;have hf2:Fr NoM w w2:=by rw[hw2];exact⟨rfl,rfl,rfl,Nat.le_refl _,fun _ _ _=>rfl⟩
  rw[←hw2];have F2:=Hh (hf2.any (M:=fun q=>q=ob));have HF2:=Hh (HF.out.fr hf2 (fun q=>q));clear hf2 hw2 p0 p1 r1 r2 ix1 ix2;by_cases h1:1<L.length
  ·have HN:=Hh (show res=false from by
    cases hc:res with
    | false=>rfl
    | true=>have:=(HIff.out.1 hc).1;omega)
   have h1':(1:Int)<(L.length:Int):=by omega
   go_wp2_with fail;go_ret;exact⟨by rw[HN.out];rfl,f,HF2.out,HO.out,F2.out⟩
  ·by_cases h2:1<R.length
   ·have HN:=Hh (show res=false from by
     cases hc:res with
     | false=>rfl
     | true=>have:=(HIff.out.1 hc).2.1;omega)
    have h1':¬(1:Int)<(L.length:Int):=by omega
    have h2':(1:Int)<(R.length:Int):=by omega
    go_wp2_with fail;go_ret;exact⟨by rw[HN.out];rfl,f,HF2.out,HO.out,F2.out⟩
   ·have h1':¬(1:Int)<(L.length:Int):=by omega
    have h2':¬(1:Int)<(R.length:Int):=by omega
    go_wp2_with fail;go_loopw [35] (fun t W=>∃(k:Nat) (f':Nat × Nat→Option Bool),t=.int .i64 (k:Int)/\k≤L.length/\(∀r∈L.take k,isNB (C.getD r 0)=true)/\MapF encP encB W ob f'∧OrdF C f'∧Fr (fun q=>q=ob) w2 W) (fun t _=>L.length-(intOf t).toNat)
    case atStart=>exact⟨0,f,rfl,Nat.zero_le _,by simp,HF2.out,HO.out,Fr.refl _ _⟩
    case round =>
     obtain⟨k,f7,rfl,hk,hall,hm7,ho7,hf7⟩:=hrel;obtain⟨w7,rfl⟩:∃w7,w7=wr:=⟨_,rfl⟩;have F7:=Hh (F2.out.trans hf7 (fun _ _ q=>q));have F27:=Hh hf7;have e4:=HUL.out w7 F7.out;have HAll:=Hh hall;have HM7:=Hh hm7;have HO7:=Hh ho7;clear hall hm7 ho7 hf7;by_cases hkl:k<L.length
     ·obtain⟨r,hr⟩:∃r,L[k]?=some r:=⟨_,List.getElem?_eq_getElem hkl⟩
      obtain⟨hrx,hrc⟩:=HSub.out r (.inl (List.mem_of_getElem? hr));obtain⟨a',c',ee,_,_,hcc⟩:=e4;cases ee
      obtain⟨b3,o3,ha3,c3⟩:=hcc k r hr;have c3':w7.cell? ⟨b3,o3+k,none⟩=some (.int .i64 (r:Int)):=c3;have ix3:=zaa ua L.length uc k b3 o3 hkl ha3;have hq:=HIh.out r (by omega) (by omega) hrc f7 w7 (HPs.out w7 F7.out) HM7.out HO7.out;obtain⟨gb,hgb⟩:∃gb,gb=isNB (C.getD r 0):=⟨_,rfl⟩;rw[←hgb]at hq;have HGq:=Hh hq;have HGb:=Hh hgb;have HR':=Hh hr;clear hr hcc ha3 c3 hq hgb;go_wp2_with fail;(with_reducible refine HGq.out.mono ?_);rintro e w8 ⟨rfl,f8,hm8,ho8,hf8⟩;have HM8:=Hh hm8;have HO8:=Hh ho8;have F8:=Hh (F7.out.trans hf8 (fun _ _ q=>q));have F28:=Hh (F27.out.trans hf8 (fun _ _ q=>q));clear hm8 ho8 hf8 c3';cases gb with
      | false =>
       have hn:res=false:=by
        cases hc:res with
        | false=>rfl
        | true=>have:=(HIff.out.1 hc).2.2.1 r (List.mem_of_getElem? HR'.out);rw[←HGb.out]at this;cases this
       have HN:=Hh hn;clear hn;go_wp2_with fail;go_ret;exact⟨by rw[HN.out];rfl,f8,HM8.out,HO8.out,F8.out⟩
      | true =>
       go_wp2_with fail;go_roundw
       case rel=>exact⟨k+1,f8,by go_num,by omega,fun r' hr'=>by
        obtain⟨hkl',ee⟩:=List.getElem?_eq_some_iff.1 HR'.out
        rw[List.take_succ_eq_append_getElem hkl',List.mem_append,List.mem_singleton]at hr';rcases hr' with hr'|hr'
        ·exact HAll.out r' hr'
        ·rw[hr',ee];exact HGb.out.symm,HM8.out,HO8.out,F28.out⟩
       case measure=>simp[intOf];omega
     ·have hk':k=L.length:=by omega
      subst hk';have hallL:∀r∈L,isNB (C.getD r 0)=true:=by have:=HAll.out;rwa [List.take_length]at this
      have HAllL:=Hh hallL;clear hallL HAll e4;go_wp2_with fail;go_loopw [46] (fun t W=>∃(k:Nat) (f':Nat × Nat→Option Bool),t=.int .i64 (k:Int)/\k≤R.length/\(∀r∈R.take k,isNB (C.getD r 0)=true)/\MapF encP encB W ob f'∧OrdF C f'∧Fr (fun q=>q=ob) w7 W) (fun t _=>R.length-(intOf t).toNat)
      case atStart=>exact⟨0,f7,rfl,Nat.zero_le _,by simp,HM7.out,HO7.out,Fr.refl _ _⟩
      case round =>
       obtain⟨k,f6,rfl,hk,hall,hm6,ho6,hf6⟩:=hrel;obtain⟨w6,rfl⟩:∃w6,w6=wr:=⟨_,rfl⟩;have F6:=Hh (F7.out.trans hf6 (fun _ _ q=>q));have F76:=Hh hf6;have e4:=HUR.out w6 F6.out;have HAll:=Hh hall;have HM6:=Hh hm6;have HO6:=Hh ho6;clear hall hm6 ho6 hf6;by_cases hkl:k<R.length
       ·obtain⟨r,hr⟩:∃r,R[k]?=some r:=⟨_,List.getElem?_eq_getElem hkl⟩
        obtain⟨hrx,hrc⟩:=HSub.out r (.inr (List.mem_of_getElem? hr));obtain⟨a',c',ee,_,_,hcc⟩:=e4;cases ee
        obtain⟨b3,o3,ha3,c3⟩:=hcc k r hr;have c3':w6.cell? ⟨b3,o3+k,none⟩=some (.int .i64 (r:Int)):=c3;have ix3:=zaa va R.length vc k b3 o3 hkl ha3;have hq:=HIh.out r (by omega) (by omega) hrc f6 w6 (HPs.out w6 F6.out) HM6.out HO6.out;obtain⟨gb,hgb⟩:∃gb,gb=isNB (C.getD r 0):=⟨_,rfl⟩;rw[←hgb]at hq;have HGq:=Hh hq;have HGb:=Hh hgb;have HR':=Hh hr;clear hr hcc ha3 c3 hq hgb;go_wp2_with fail;(with_reducible refine HGq.out.mono ?_);rintro e w8 ⟨rfl,f8,hm8,ho8,hf8⟩;have HM8:=Hh hm8;have HO8:=Hh ho8;have F8:=Hh (F6.out.trans hf8 (fun _ _ q=>q));have F78:=Hh (F76.out.trans hf8 (fun _ _ q=>q));clear hm8 ho8 hf8 c3';cases gb with
        | false =>
         have hn:res=false:=by
          cases hc:res with
          | false=>rfl
          | true=>have:=(HIff.out.1 hc).2.2.2.1 r (List.mem_of_getElem? HR'.out);rw[←HGb.out]at this;cases this
         have HN:=Hh hn;clear hn;go_wp2_with fail;go_ret;exact⟨by rw[HN.out];rfl,f8,HM8.out,HO8.out,F8.out⟩
        | true =>
         go_wp2_with fail;go_roundw
         case rel=>exact⟨k+1,f8,by go_num,by omega,fun r' hr'=>by
          obtain⟨hkl',ee⟩:=List.getElem?_eq_some_iff.1 HR'.out
          rw[List.take_succ_eq_append_getElem hkl',List.mem_append,List.mem_singleton]at hr';rcases hr' with hr'|hr'
          ·exact HAll.out r' hr'
          ·rw[hr',ee];exact HGb.out.symm,HM8.out,HO8.out,F78.out⟩
         case measure=>simp[intOf];omega
       ·have hk':k=R.length:=by omega
        subst hk';have hallR:∀r∈R,isNB (C.getD r 0)=true:=by have:=HAll.out;rwa [List.take_length]at this
        have HAllR:=Hh hallR;clear hallR HAll;have HL1:=Hh (show L.length≤1 by omega);have HR1:=Hh (show R.length≤1 by omega);by_cases hz:L.length=0∨R.length=0
        ·have hn:res=true:=HIff.out.2 ⟨HL1.out,HR1.out,HAllL.out,HAllR.out,fun l hl r hr=>by
          rcases hz with h|h
          ·rw[List.length_eq_zero_iff]at h;rw[h]at hl;simp at hl
          ·rw[List.length_eq_zero_iff]at h;rw[h]at hr;simp at hr⟩
         have HN:=Hh hn;clear hn;by_cases hl0:L.length=0
         ·have hl0':((L.length:Int) == 0)=true:=by rw[hl0];rfl
          have hl1':(L.length:Int)=0:=by omega
          clear e4 hz;go_upto_region 16 with fail;go_quiet (fail);go_wp2_with fail;go_ret;exact⟨by rw[HN.out];rfl,f6,HM6.out.fr (zbq w6 nq) (fun q=>q),HO6.out,F6.out.trans (zbq w6 nq) (fun _ _ q=>q.elim)⟩
         ·have hr0:R.length=0:=hz.resolve_left hl0
          have hl0':((L.length:Int) == 0)=false:=by rw[beq_eq_false_iff_ne];omega
          have hr0':((R.length:Int) == 0)=true:=by rw[hr0];rfl
          have hl1':¬(L.length:Int)=0:=by omega
          have hr1':(R.length:Int)=0:=by omega
          clear e4 hz;go_upto_region 16 with fail;go_quiet (fail);go_wp2_with fail;go_ret;exact⟨by rw[HN.out];rfl,f6,HM6.out.fr (zbq w6 nq) (fun q=>q),HO6.out,F6.out.trans (zbq w6 nq) (fun _ _ q=>q.elim)⟩
        ·obtain⟨a,ha⟩:∃a,L[0]?=some a:=⟨_,List.getElem?_eq_getElem (by omega)⟩
         obtain⟨b,hb⟩:∃b,R[0]?=some b:=⟨_,List.getElem?_eq_getElem (by omega)⟩;have hma:=List.mem_of_getElem? ha;have hmb:=List.mem_of_getElem? hb;obtain⟨hax,_⟩:=HSub.out a (.inl hma);obtain⟨hbx,_⟩:=HSub.out b (.inr hmb);have hn:res=!geV C a b:=by
          cases hc:geV C a b with
          | true =>
           cases hd:res with
           | false=>rfl
           | true=>have:=(HIff.out.1 hd).2.2.2.2 a hma b hmb;rw[hc]at this;cases this
          | false =>
           exact HIff.out.2 ⟨HL1.out,HR1.out,HAllL.out,HAllR.out,fun l hl r hr=>by
            rw[zk4 HL1.out l hl a hma,zk4 HR1.out r hr b hmb];exact hc⟩
         have hl0':((L.length:Int) == 0)=false:=by rw[beq_eq_false_iff_ne];omega
         have hr0':((R.length:Int) == 0)=false:=by rw[beq_eq_false_iff_ne];omega
         have hl1':¬(L.length:Int)=0:=by omega
         have hr1':¬(R.length:Int)=0:=by omega
         obtain⟨_,_,ee,_,_,hcc⟩:=HUL.out w6 F6.out;cases ee
         obtain⟨b3,o3,ha3,c3⟩:=hcc 0 a ha;have c3':w6.cell? ⟨b3,o3,none⟩=some (.int .i64 (a:Int)):=c3;obtain⟨_,_,ee,_,_,hcd⟩:=e4;cases ee
         obtain⟨b4,o4,ha4,c4⟩:=hcd 0 b hb;have c4':w6.cell? ⟨b4,o4,none⟩=some (.int .i64 (b:Int)):=c4;have ix3:∀W,(Instr.indexAt 42 (.slice ua L.length uc) (.int .i64 0)).run Tryz.prog W=.ok (.pointer (some ⟨b3,o3,none⟩)) W:=zaa ua L.length uc 0 b3 o3 (by omega) ha3;have ix4:∀W,(Instr.indexAt 42 (.slice va R.length vc) (.int .i64 0)).run Tryz.prog W=.ok (.pointer (some ⟨b4,o4,none⟩)) W:=zaa va R.length vc 0 b4 o4 (by omega) ha4;have FD:=Hh (F6.out.trans ((Fr.refl NoM w6).drew) (fun _ _ q=>q.elim));have hgq:=HGe.out a b hax hbx f6 w6.drew (HPs.out _ FD.out) (HM6.out.fr ((Fr.refl NoM w6).drew) (fun q=>q)) HO6.out;obtain⟨gb,hgb⟩:∃gb,gb=geV C a b:=⟨_,rfl⟩;rw[←hgb]at hn hgq;have HGq:=Hh hgq;have HN:=Hh hn;clear hgq hgb;clear hcc hcd c3 c4 ha3 ha4 hn ha hb hma hmb hz;go_upto_region 16 with fail;go_still_tail 16,(by kernel_rfl);change wpList _ _ _ _ _ w6.drew
         clear c3' c4' ix3 ix4;go_wp2_with fail;(with_reducible refine HGq.out.mono ?_);rintro e w8 ⟨rfl,f8,hm8,ho8,hf8⟩;have HM8:=Hh hm8;have HO8:=Hh ho8;have F8:=Hh (FD.out.trans hf8 (fun _ _ q=>q));clear hm8 ho8 hf8;cases gb with
         | true =>
          go_wp2_with fail;go_ret;exact⟨by rw[HN.out];rfl,f8,HM8.out,HO8.out,F8.out⟩
         | false =>
          go_wp2_with fail;go_ret;exact⟨by rw[HN.out];rfl,f8,HM8.out,HO8.out,F8.out⟩
end Go.Proofs.YtkofnbjjbcohgaaGreatDoor
