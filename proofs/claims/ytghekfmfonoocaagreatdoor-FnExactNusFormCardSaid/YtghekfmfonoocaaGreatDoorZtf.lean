import Derived.Deep.SlicePairs
import Derived.ChangeSlices
import Derived.Test.YtghekfmfonoocaaGreatDoorZt15
import Derived.Test.YtghekfmfonoocaaGreatDoorZt8
/- Lemmas. -/
namespace Go.Proofs.YtghekfmfonoocaaGreatDoor
set_option linter.unusedVariables false
set_option linter.unusedSimpArgs false
open Go.RowKit
end Go.Proofs.YtghekfmfonoocaaGreatDoor
namespace Go.Proofs.YtghekfmfonoocaaGreatDoor
set_option linter.unusedVariables false
set_option linter.unusedSimpArgs false
open Go.RowKit Go.ChangeShapes Go.WideShapes Go.Deep
section
variable {H:Type}{enc:TypeId × Value→H}{w:World}{base:Nat}{spare:Nat→Bool}{held:Bool}
end
end Go.Proofs.YtghekfmfonoocaaGreatDoor
namespace Go.Proofs.YtghekfmfonoocaaGreatDoor
set_option linter.unusedVariables false
set_option linter.unusedSimpArgs false
open Go.RowKit
theorem yby (a:Nat):geC a a=true:=by
 induction a using Nat.strongRecOn with
 | _ a ih =>
  rw[zet];constructor
  ·intro r hr
   cases h:geC a r with
   | false=>rfl
   | true =>
    have h1:=((zet a r).1 h).1 r hr;rw[ih r (za5 (.inr hr))]at h1;cases h1
  ·intro l hl
   cases h:geC l a with
   | false=>rfl
   | true =>
    have h1:=((zet l a).1 h).2 l hl;rw[ih l (za5 (.inl hl))]at h1;cases h1
theorem ybx (C:List Nat)(x:Nat):geV C x x=true:=yby _
theorem zc5 (a:Option Addr)(n c k b off:Nat)(hk:k<n)(ha:a=some ⟨b,off,none⟩)(w:World) :
  (Instr.indexAt 130 (.slice a n c) (.int .i64 (k:Int))).run Tryz.prog w=.ok (.pointer (some ⟨b,off+k,none⟩)) w:=by
 subst ha;go_simp
theorem PoolS.rd {M I:Nat→Prop} {w:World} {pb:Nat} {V:List PL} {BV:List Nat} {mo mc ms mn:Value} (h:PoolS M I w pb V BV mo mc ms mn) :
    ∃ la lc ra rc, w.cell? ⟨pb, 0, none⟩ = some (.slice la V.length lc) ∧ w.cell? ⟨pb, 1, none⟩ = some (.slice ra V.length rc) ∧ w.cell? ⟨pb, 4, none⟩ = some mo ∧ w.cell? ⟨pb, 5, none⟩ = some mc ∧ w.cell? ⟨pb, 6, none⟩ = some ms ∧ w.cell? ⟨pb, 7, none⟩ = some mn ∧
      (∀ x,x < V.length→∃ b off v,la=some ⟨b,off,none⟩∧w.cell? ⟨b,off + x,none⟩=some v∧Nats w v (za6 V x).1∧((za6 V x).1≠[]→∀ q,v.ownBlock=some q→I q)) ∧
      (∀ x,x < V.length→∃ b off v,ra=some ⟨b,off,none⟩∧w.cell? ⟨b,off + x,none⟩=some v∧Nats w v (za6 V x).2∧((za6 V x).2≠[]→∀ q,v.ownBlock=some q→I q)):=by
  obtain ⟨lv,rv,bv,fb,LS,RS,hp,h1,h2,_⟩:=h;obtain ⟨la,lc,rfl,_,_,hl⟩:=SliceOf.of_owns (enc:=encV) (L:=LS) hp.left (by rw [show (encV:Value→Value)=id from rfl,List.map_id]);obtain ⟨ra,rc,rfl,_,_,hr⟩:=SliceOf.of_owns (enc:=encV) (L:=RS) hp.right (by rw [show (encV:Value→Value)=id from rfl,List.map_id]);have hb:=hp.blk;have e1:=hp.lenL;have e2:=hp.lenR;refine ⟨la,lc,ra,rc,by rw [cell_of_row w pb 0 _ _ _ hb,← e1];rfl,by rw [cell_of_row w pb 1 _ _ _ hb,← e2];rfl,by rw [cell_of_row w pb 4 _ _ _ hb];rfl,by rw [cell_of_row w pb 5 _ _ _ hb];rfl,by rw [cell_of_row w pb 6 _ _ _ hb];rfl,by rw [cell_of_row w pb 7 _ _ _ hb];rfl,fun x hx=>?_,fun x hx=>?_⟩
  · have hv := List.getElem?_eq_getElem (l := LS) (i := x) (by omega)
    obtain ⟨b,off,ha,hc⟩:=hl x _ hv;obtain ⟨s1,s2⟩:=h1 x _ _ hv (za7 hx);exact ⟨b,off,_,ha,hc,s1,s2⟩
  · have hv := List.getElem?_eq_getElem (l := RS) (i := x) (by omega)
    obtain ⟨b,off,ha,hc⟩:=hr x _ hv;obtain ⟨s1,s2⟩:=h2 x _ _ hv (za7 hx);exact ⟨b,off,_,ha,hc,s1,s2⟩
def OrdF (C:List Nat)(f:Nat × Nat→Option Bool):Prop:=∀k a,f k=some a→k.1<C.length/\k.2<C.length/\a=geV C k.1 k.2
theorem OrdF.none (C:List Nat):OrdF C (fun _=>none):=fun _ _ h=>by cases h
theorem OrdF.upd {C:List Nat}{f:Nat × Nat→Option Bool}{x y:Nat}(h:OrdF C f)(hx:x<C.length)(hy:y<C.length):OrdF C (upd f (x,y) (geV C x y)):=fun k a hk=>by
 unfold Go.Proofs.YtghekfmfonoocaaGreatDoor.upd at hk;split at hk
 ·rename_i e;subst e;exact⟨hx,hy,(Option.some.inj hk).symm⟩
 ·exact h k a hk
theorem OrdF.mono {C C':List Nat}{f:Nat × Nat→Option Bool}(h:OrdF C f)(hp:C <+: C'):OrdF C' f:=fun k a hk=>by
 obtain⟨h1,h2,h3⟩:=h k a hk;have hl:=hp.length_le;obtain⟨t,rfl⟩:=hp;refine⟨by omega,by omega,?_⟩;unfold geV at h3 ⊢;rw[ze8 h1,ze8 h2];exact h3
def GeIs (M I:Nat→Prop)(C:List Nat)(V:List PL)(BV:List Nat)(pb ob:Nat)(mc ms mn:Value)(x y:Nat):Prop:=∀(f:Nat × Nat→Option Bool) (w:World),PoolS M I w pb V BV (.map (some ob)) mc ms mn→MapF encP encB w ob f→OrdF C f →
  Calls Tryz.prog 164 #[.pointer (some ⟨pb,0,none⟩),.int .i64 (x:Int),.int .i64 (y:Int)] w fun e w'=>e=.returned (.bool (geV C x y))/\∃f',MapF encP encB w' ob f'∧OrdF C f'∧Fr (fun q=>q=ob) w w'
set_option maxRecDepth 4000 in
set_option maxHeartbeats 8000000 in
theorem yd4 {M I:Nat→Prop}{C:List Nat}{V:List PL}{BV:List Nat}(B:BookC V C)(pb ob:Nat)(mc ms mn:Value)(hMo:¬M ob)(hIo:¬I ob):∀n x y,x+y<n→x<V.length→y<V.length→GeIs M I C V BV pb ob mc ms mn x y:=by
 intro n;induction n with
 | zero=>intro x y h;omega
 | succ n ih =>
  intro x y hn hx hy f w hP hF hO;by_cases hxy:x=y
  ·subst hxy
   have HG:=Hh (show geV C x x=true from ybx C x);have hb:((x:Int) == (x:Int))=true:=beq_self_eq_true _;have HF:=Hh hF;have HO:=Hh hO;clear hF hO hP ih;go_enter Tryz.func164,Tryz.ntmps164;go_wp2_with fail;go_ret;exact⟨by rw[HG.out];rfl,f,HF.out,HO.out,Fr.refl _ _⟩
  ·have hb:((x:Int) == (y:Int))=false:=by rw[beq_eq_false_iff_ne];omega
   have HIh:=Hh ih;have HP:=Hh hP;have HF:=Hh hF;have HO:=Hh hO;have hbd:=zo3 (x:Int) (y:Int);clear ih hP hF hO hxy;obtain⟨res,hres⟩:∃res,res=geV C x y:=⟨_,rfl⟩;rw[←hres];have HRes:=Hh hres;clear hres;go_enter Tryz.func164,Tryz.ntmps164;go_wp2_with fail;obtain⟨w1,hw1⟩:∃w1,w1=w.alloc (.cells #[.int .i64 (x:Int),.int .i64 (y:Int)] 174):=⟨_,rfl⟩;have hf1:Fr NoM w w1:=by rw[hw1];exact(Fr.refl NoM w).alloc _
   have hb1:w1.heap[w.heap.size]?=some (.cells #[.int .i64 (x:Int),.int .i64 (y:Int)] 174 (0,0)):=by rw[hw1];exact heap_alloc_new w _
   rw[←hw1];have hne:¬w.heap.size=ob:=by have:=HF.out.lt;omega
   have HK:=Hh (fun(W:World) (f:Fr (fun q=>q=ob) w1 W)=>show W.cell? ⟨w.heap.size,0,none⟩=some (.int .i64 (x:Int))/\W.cell? ⟨w.heap.size,1,none⟩=some (.int .i64 (y:Int))from by
    have h:=f.heap hb1 hne;exact⟨by rw[cell_of_row W _ 0 _ _ _ h];rfl,by rw[cell_of_row W _ 1 _ _ _ h];rfl⟩)
   have HPs:=Hh (fun(W:World) (f:Fr (fun q=>q=ob) w1 W)=>show PoolS M I W pb V BV (.map (some ob)) mc ms mn from
    (HP.out.fr0 hf1).fr f (fun q hq e=>hMo (by rw[←e];exact hq)) (fun q hq e=>hIo (by rw[←e];exact hq)))
   have HFW:=Hh (hf1.any (M:=fun q=>q=ob));have HF1:=Hh (HF.out.fr hf1 (fun q=>q));clear hf1 hb1 hne hw1 HF HP hbd;have hd:∀n,Fr NoM w1 (w1.drewN n):=fun n=>⟨rfl,rfl,rfl,Nat.le_refl _,fun _ _ _=>rfl⟩
   have hlook:∀n,(Instr.lookup 127 (.map (some ob)) (.agg #[.int .i64 (x:Int),.int .i64 (y:Int)]) true).run Tryz.prog (w1.drewN n)=.ok (.tuple #[((f (x,y)).map encB).getD (.bool false),.bool (f (x,y)).isSome]) (w1.drewN n):=fun n =>
    MapF.look (w:=w1.drewN n) (HF1.out.fr (hd n) (fun q=>q)) zik Tryz.underlying127 (Tryz.zeroValue4 _) (x,y) true
   obtain⟨k0,k1⟩:=HK.out w1 (Fr.refl _ _);obtain⟨_,_,_,_,_,_,p4,_⟩:=(HPs.out w1 (Fr.refl _ _)).rd;have HD:=Hh hd;clear hd;cases hfx:f (x,y)with
   | some a =>
    rw[hfx]at hlook;have hlook:∀n,(Instr.lookup 127 (.map (some ob)) (.agg #[.int .i64 (x:Int),.int .i64 (y:Int)]) true).run Tryz.prog (w1.drewN n)=.ok (.tuple #[.bool a,.bool true]) (w1.drewN n):=hlook;have ha:a=res:=by rw[HRes.out];exact(HO.out _ _ hfx).2.2
    have HA:=Hh ha;clear hfx ha;go_quiet (fail);go_wp2_with fail;go_ret;exact⟨by rw[HA.out];rfl,f,HF1.out.fr (HD.out _) (fun q=>q),HO.out,HFW.out.trans (HD.out _) (fun _ _ q=>q.elim)⟩
   | none =>
    rw[hfx]at hlook;have hlook:∀n,(Instr.lookup 127 (.map (some ob)) (.agg #[.int .i64 (x:Int),.int .i64 (y:Int)]) true).run Tryz.prog (w1.drewN n)=.ok (.tuple #[.bool false,.bool false]) (w1.drewN n):=hlook;clear hfx;go_quiet (fail);obtain⟨w2,hw2⟩:∃w2,w2=w1.drewN nq:=⟨_,rfl⟩;have hf2:Fr NoM w1 w2:=by rw[hw2];exact HD.out nq
    rw[←hw2];have HF2:=Hh (HF1.out.fr hf2 (fun q=>q));have F2:=Hh (hf2.any (M:=fun q=>q=ob));clear hlook k0 k1 p4 hf2 hw2 HF1;have hge:=zzk B hx hy;rw[←HRes.out]at hge;obtain⟨u1,u2⟩:=B.opts x _ (za7 hx);obtain⟨v1,v2⟩:=B.opts y _ (za7 hy);obtain⟨_,_,ra,rc,_,p1,_,_,_,_,_,hR⟩:=(HPs.out w2 F2.out).rd;obtain⟨rb,ro,rv,rfl,r1,s1,i1⟩:=hR x hx;have ix1:=zc5 (some ⟨rb,ro,none⟩) V.length rc x rb ro hx rfl;obtain⟨R,hRe⟩:∃R,R=(za6 V x).2:=⟨_,rfl⟩;rw[←hRe]at hge u2 s1 i1;have HU:=Hh (fun(W:World) (f:Fr (fun q=>q=ob) w2 W)=>show Nats W rv R from s1.fr f (fun hne q hq e=>hIo (by rw[←e];exact i1 hne q hq)));have hR9:R.length≤9223372036854775807:=by obtain⟨a,c,_,h1,h2,_⟩:=s1;omega
    obtain⟨ua,uc,rfl,z⟩:=id s1;have HGe:=Hh hge;have HU2:=Hh u2;have HV1:=Hh v1;clear z hge u1 u2 v1 v2 s1 i1 hRe hR;go_wp2_with fail;clear p1 r1 ix1;go_loopw [10,40] (fun b t W=>∃(k:Nat) (f':Nat × Nat→Option Bool),b=.bool true/\t=.int .i64 k/\k≤R.length/\(∀r∈R.take k,geV C y r=false)/\MapF encP encB W ob f'∧OrdF C f'∧Fr (fun q=>q=ob) w2 W) (fun _ t _=>R.length-(intOf t).toNat)
    case atStart=>exact⟨0,f,rfl,rfl,Nat.zero_le _,by simp,HF2.out,HO.out,Fr.refl _ _⟩
    case round =>
     obtain⟨k,f7,rfl,rfl,hk,hall,hm7,ho7,hf7⟩:=hrel;obtain⟨w7,rfl⟩:∃w7,w7=wr:=⟨_,rfl⟩;have e4:=HU.out w7 hf7;have HAll:=Hh hall;have HM7:=Hh hm7;have HO7:=Hh ho7;have F7:=Hh (F2.out.trans hf7 (fun _ _ q=>q));have F27:=Hh hf7;clear hall hm7 ho7 hf7;by_cases hkl:k<R.length
     ·obtain⟨r,hr⟩:∃r,R[k]?=some r:=⟨_,List.getElem?_eq_getElem hkl⟩
      have hrx:=HU2.out r (List.mem_of_getElem? hr);obtain⟨a',c',ee,_,_,hcc⟩:=e4;cases ee
      obtain⟨b3,o3,ha3,c3⟩:=hcc k r hr;have c3':w7.cell? ⟨b3,o3+k,none⟩=some (.int .i64 (r:Int)):=c3;have ix3:=zaa ua R.length uc k b3 o3 hkl ha3;have HGq:=Hh (HIh.out y r (by omega) hy (by omega) f7 w7 (HPs.out w7 F7.out) HM7.out HO7.out);have HR':=Hh hr;clear hr hcc ha3 c3;go_wp2_with fail;refine HGq.out.mono ?_
      rintro e w8 ⟨rfl,f8,hm8,ho8,hf8⟩;have HM8:=Hh hm8;have HO8:=Hh ho8;have F8:=Hh (F7.out.trans hf8 (fun _ _ q=>q));have F28:=Hh (F27.out.trans hf8 (fun _ _ q=>q));clear hm8 ho8 hf8 c3';obtain⟨gb,hgb⟩:∃gb,gb=geV C y r:=⟨_,rfl⟩;rw[←hgb];have HGb:=Hh hgb;clear hgb;cases gb with
      | true =>
       have hn:res=false:=by
        cases hc:res with
        | false=>rfl
        | true=>have:=(HGe.out.1 hc).1 r (List.mem_of_getElem? HR'.out);rw[←HGb.out]at this;cases this
       have HN:=Hh hn;clear hn;obtain⟨k0,k1⟩:=HK.out w8 F8.out;obtain⟨_,_,_,_,_,_,p4,_⟩:=(HPs.out w8 F8.out).rd;obtain⟨w9,hrun,hm9,hf9⟩:=MapF.store (P:=Tryz.prog) (w:=w8.drew) (HM8.out.fr ((Fr.refl NoM w8).drew) (fun q=>q)) zik Tryz.underlying127 (x,y) false;have hrun:(Instr.mapUpdate 127 (.map (some ob)) (.agg #[.int .i64 (x:Int),.int .i64 (y:Int)]) (.bool false)).run Tryz.prog w8.drew=.ok () w9:=hrun;have HM9:=Hh hm9;have HF9:=Hh hf9;clear hm9 hf9;go_upto_region 21 with fail;go_cut []from 67 (fun wx=>wx=w9)
       case first =>
        go_region_law (fail);all_goals
         go_wp2_with fail;go_meet
         case rel=>rfl
       case rest =>
        subst hcut;clear hrun k0 k1 p4;go_wp2_with fail;go_ret;refine⟨by rw[HN.out];rfl,_,HM9.out,?_,HFW.out.trans ((F8.out.drew).trans HF9.out (fun _ _ q=>q)) (fun _ _ q=>q)⟩;have h:=OrdF.upd HO8.out (x:=x) (y:=y) (by rw[B.len];exact hx) (by rw[B.len];exact hy);rw[←HRes.out,HN.out]at h;exact h
      | false =>
       go_wp2_with fail;go_roundw
       case rel=>exact⟨k+1,f8,rfl,by go_num,by omega,fun r' hr'=>by
        obtain⟨hkl',ee⟩:=List.getElem?_eq_some_iff.1 HR'.out
        rw[List.take_succ_eq_append_getElem hkl',List.mem_append,List.mem_singleton]at hr';rcases hr' with hr'|hr'
        ·exact HAll.out r' hr'
        ·rw[hr',ee];exact HGb.out.symm,HM8.out,HO8.out,F28.out⟩
       case measure=>simp[intOf];omega
     ·have hk':k=R.length:=by omega
      subst hk';have hallR:∀r∈R,geV C y r=false:=by have:=HAll.out;rwa [List.take_length]at this
      have HAllR:=Hh hallR;obtain⟨la,lc,_,_,p0,_,_,_,_,_,hL,_⟩:=(HPs.out w7 F7.out).rd;obtain⟨lb,lo,lv,rfl,r2,s2,i2⟩:=hL y hy;have ix2:=zc5 (some ⟨lb,lo,none⟩) V.length lc y lb lo hy rfl;have hge:=HGe.out;have v1:=HV1.out;obtain⟨L,hLe⟩:∃L,L=(za6 V y).1:=⟨_,rfl⟩;rw[←hLe]at hge v1 s2 i2;have HT:=Hh (fun(W:World) (f:Fr (fun q=>q=ob) w7 W)=>show Nats W lv L from s2.fr f (fun hne q hq e=>hIo (by rw[←e];exact i2 hne q hq)));have hL9:L.length≤9223372036854775807:=by obtain⟨a,c,_,h1,h2,_⟩:=s2;omega
      obtain⟨ta,tc,rfl,z⟩:=id s2;have HGe2:=Hh hge;have HV2:=Hh v1;clear z hallR HAll e4 hge v1 s2 i2 hLe hL;go_wp2_with fail;clear p0 r2 ix2;go_loopw [10,58] (fun b t W=>∃(k:Nat) (f':Nat × Nat→Option Bool),b=.bool true/\t=.int .i64 k/\k≤L.length/\(∀l∈L.take k,geV C l x=false)/\MapF encP encB W ob f'∧OrdF C f'∧Fr (fun q=>q=ob) w7 W) (fun _ t _=>L.length-(intOf t).toNat)
      case atStart=>exact⟨0,f7,rfl,rfl,Nat.zero_le _,by simp,HM7.out,HO7.out,Fr.refl _ _⟩
      case round =>
       obtain⟨k,f6,rfl,rfl,hk,hall,hm6,ho6,hf6⟩:=hrel;obtain⟨w6,rfl⟩:∃w6,w6=wr:=⟨_,rfl⟩;have e4:=HT.out w6 hf6;have HAll:=Hh hall;have HM6:=Hh hm6;have HO6:=Hh ho6;have F6:=Hh (F7.out.trans hf6 (fun _ _ q=>q));have F76:=Hh hf6;clear hall hm6 ho6 hf6;by_cases hkl:k<L.length
       ·obtain⟨r,hr⟩:∃r,L[k]?=some r:=⟨_,List.getElem?_eq_getElem hkl⟩
        have hrx:=HV2.out r (List.mem_of_getElem? hr);obtain⟨a',c',ee,_,_,hcc⟩:=e4;cases ee
        obtain⟨b3,o3,ha3,c3⟩:=hcc k r hr;have c3':w6.cell? ⟨b3,o3+k,none⟩=some (.int .i64 (r:Int)):=c3;have ix3:=zaa ta L.length tc k b3 o3 hkl ha3;have HGq:=Hh (HIh.out r x (by omega) (by omega) hx f6 w6 (HPs.out w6 F6.out) HM6.out HO6.out);have HR':=Hh hr;clear hr hcc ha3 c3;go_wp2_with fail;refine HGq.out.mono ?_
        rintro e w8 ⟨rfl,f8,hm8,ho8,hf8⟩;have HM8:=Hh hm8;have HO8:=Hh ho8;have F8:=Hh (F6.out.trans hf8 (fun _ _ q=>q));have F78:=Hh (F76.out.trans hf8 (fun _ _ q=>q));clear hm8 ho8 hf8 c3';obtain⟨gb,hgb⟩:∃gb,gb=geV C r x:=⟨_,rfl⟩;rw[←hgb];have HGb:=Hh hgb;clear hgb;cases gb with
        | true =>
         have hn:res=false:=by
          cases hc:res with
          | false=>rfl
          | true=>have:=(HGe2.out.1 hc).2 r (List.mem_of_getElem? HR'.out);rw[←HGb.out]at this;cases this
         have HN:=Hh hn;clear hn;obtain⟨k0,k1⟩:=HK.out w8 F8.out;obtain⟨_,_,_,_,_,_,p4,_⟩:=(HPs.out w8 F8.out).rd;obtain⟨w9,hrun,hm9,hf9⟩:=MapF.store (P:=Tryz.prog) (w:=w8.drew) (HM8.out.fr ((Fr.refl NoM w8).drew) (fun q=>q)) zik Tryz.underlying127 (x,y) false;have hrun:(Instr.mapUpdate 127 (.map (some ob)) (.agg #[.int .i64 (x:Int),.int .i64 (y:Int)]) (.bool false)).run Tryz.prog w8.drew=.ok () w9:=hrun;have HM9:=Hh hm9;have HF9:=Hh hf9;clear hm9 hf9;go_upto_region 21 with fail;go_cut []from 67 (fun wx=>wx=w9)
         case first =>
          go_region_law (fail);all_goals
           go_wp2_with fail;go_meet
           case rel=>rfl
         case rest =>
          subst hcut;clear hrun k0 k1 p4;go_wp2_with fail;go_ret;refine⟨by rw[HN.out];rfl,_,HM9.out,?_,HFW.out.trans ((F8.out.drew).trans HF9.out (fun _ _ q=>q)) (fun _ _ q=>q)⟩;have h:=OrdF.upd HO8.out (x:=x) (y:=y) (by rw[B.len];exact hx) (by rw[B.len];exact hy);rw[←HRes.out,HN.out]at h;exact h
        | false =>
         go_wp2_with fail;go_roundw
         case rel=>exact⟨k+1,f8,rfl,by go_num,by omega,fun r' hr'=>by
          obtain⟨hkl',ee⟩:=List.getElem?_eq_some_iff.1 HR'.out
          rw[List.take_succ_eq_append_getElem hkl',List.mem_append,List.mem_singleton]at hr';rcases hr' with hr'|hr'
          ·exact HAll.out r' hr'
          ·rw[hr',ee];exact HGb.out.symm,HM8.out,HO8.out,F78.out⟩
         case measure=>simp[intOf];omega
       ·have hk':k=L.length:=by omega
        subst hk';have hn:res=true:=HGe2.out.2 ⟨HAllR.out,by have:=HAll.out;rwa [List.take_length]at this⟩;have HN:=Hh hn;clear hn e4;obtain⟨k0,k1⟩:=HK.out w6 F6.out;obtain⟨_,_,_,_,_,_,p4,_⟩:=(HPs.out w6 F6.out).rd;obtain⟨w9,hrun,hm9,hf9⟩:=MapF.store (P:=Tryz.prog) (w:=w6.drew) (HM6.out.fr ((Fr.refl NoM w6).drew) (fun q=>q)) zik Tryz.underlying127 (x,y) true;have hrun:(Instr.mapUpdate 127 (.map (some ob)) (.agg #[.int .i64 (x:Int),.int .i64 (y:Int)]) (.bool true)).run Tryz.prog w6.drew=.ok () w9:=hrun;have HM9:=Hh hm9;have HF9:=Hh hf9;clear hm9 hf9;go_upto_region 21 with fail;go_cut []from 67 (fun wx=>wx=w9)
        case first =>
         go_region_law (fail);all_goals
          go_wp2_with fail;go_meet
          case rel=>rfl
        case rest =>
         subst hcut;clear hrun k0 k1 p4;go_wp2_with fail;go_ret;refine⟨by rw[HN.out];rfl,_,HM9.out,?_,HFW.out.trans ((F6.out.drew).trans HF9.out (fun _ _ q=>q)) (fun _ _ q=>q)⟩;have h:=OrdF.upd HO6.out (x:=x) (y:=y) (by rw[B.len];exact hx) (by rw[B.len];exact hy);rw[←HRes.out,HN.out]at h;exact h
theorem ybg (n:Nat)(W:World)(hn:n<1000000000):∃cur:Array Value,cur.size=n/\(Instr.makeSlice 82 (.int .i64 0) (.int .i64 (n:Int))).run Tryz.prog W=.ok (.slice (some ⟨W.heap.size,0,none⟩) 0 n) (W.alloc (.cells cur 3)):=by
 obtain⟨i0,hi,hz0,hz1,hz2⟩:=info_parts za9;have h:=run_make (P:=Tryz.prog) W 82 3 i0 _ Tryz.underlying82 hi hz0 .i64 .i64 0 n (by omega) (by omega) (by rw[hz2];omega) (by omega);rw[hz1,Int.toNat_natCast]at h;exact⟨_,by simp[madeCells],h⟩
theorem NRow.start (W:World)(cur:Array Value)(n:Nat)(hc:cur.size=n)(hn:n<1000000000):NRow W.heap.size (W.alloc (.cells cur 3)) (.slice (some ⟨W.heap.size,0,none⟩) 0 n) [] :=
 ⟨⟨rfl,.inr ⟨W.heap.size,n,cur,rfl,Nat.le_refl _,heap_alloc_new W _,Nat.zero_le _,by unfold maxLen;omega,by rw[hc,Nat.mul_one],by simp⟩⟩,_,_,rfl⟩
theorem zyu {M I:Nat→Prop}(pb:Nat)(V:List PL)(BV L R:List Nat)(mo mc ms mn:Value)(g1 g2 n1 n2:Nat)(h1:n1=L.length)(h2:n2=R.length)(w:World)(hP:PoolS M I w pb V BV mo mc ms mn)(r1:RowIs 3 encN w g1 L)(r2:RowIs 3 encN w g2 R)
  (hLt:∀x∈L,x<V.length) (hRt:∀x∈R,x<V.length) (hl:L.length<1000000000) (hr:R.length<1000000000) (hn:V.length<1000000000) (hb:∀x∈BV,x<1000000000) :
  Calls Tryz.prog 108 #[.pointer (some ⟨pb,0,none⟩),.slice (some ⟨g1,0,none⟩) n1 n1,.slice (some ⟨g2,0,none⟩) n2 n2] w fun e w'=>e=.returned (.int .i64 ((za4 V BV L R).2.2:Nat)) ∧
   ∃M' I',PoolS M' I' w' pb (za4 V BV L R).1 (za4 V BV L R).2.1 mo mc ms mn/\(∀q,M' q→(M q∨w.heap.size≤q)/\q<w'.heap.size)/\(∀q,I' q→(I q∨w.heap.size≤q)/\q<w'.heap.size)/\Fr M w w':=by
 subst h1;subst h2;refine(zkn pb V BV L R mo mc ms mn g1 0 L.length g2 0 R.length w hP (r1.slice (by omega)) (r2.slice (by omega)) hLt hRt hl hr hn hb).mono ?_
 rintro e w' ⟨rfl,M',I',hp,hM,hI,hf⟩;exact⟨rfl,_,_,hp.low,fun q hq=>⟨hM q hq.1,hq.2⟩,fun q hq=>⟨hI q hq.1,hq.2⟩,hf⟩
theorem later {M1 M2:Nat→Prop}{a b c:World}(h:∀q,M2 q→(M1 q∨b.heap.size≤q)/\q<c.heap.size)(f:Fr NoM a b):∀q,M2 q→(M1 q∨a.heap.size≤q)/\q<c.heap.size :=
 fun q hq=>⟨(h q hq).1.imp_right (Nat.le_trans f.size),(h q hq).2⟩
theorem zf5 {V:List PL}{BV:List Nat}(h:PoolOK V BV):BookOK V BV:=by
 have hle:∀j,j<V.length→BV.getD j 0≤j:=by
  intro j;induction j using Nat.strongRecOn with
  | _ j ih =>
   intro hj;have e:=za7 hj;obtain⟨o1,o2⟩:=h.opts j _ e;rw[h.born j _ e,zdp,zdp];exact⟨⟨Nat.zero_le _,fun x hx=>by have:=o1 x hx;have:=ih x this (by omega);omega⟩,fun x hx=>by have:=o2 x hx;have:=ih x this (by omega);omega⟩
 exact⟨h.len,h.opts,fun j x hx=>by
  have hj:=(List.getElem?_eq_some_iff.1 hx).1;have:=hle j (by rw[←h.len];exact hj);rw[List.getD_eq_getElem?_getD,hx]at this
  exact this⟩
set_option maxRecDepth 4000 in
set_option maxHeartbeats 8000000 in
theorem ybp {R M I:Nat→Prop}(pb:Nat)(nv:Value)(V Fs:List PL)(BV:List Nat)(mo mc ms mn:Value)(w:World)(hP:PoolS M I w pb V BV mo mc ms mn)(hMl:∀q,M q→q<w.heap.size)(hIl:∀q,I q→q<w.heap.size)(hOK:PoolOK V BV)(hF:NodeL R encN w nv Fs)(hR:∀k,R k→¬M k)
  (ho:OptsOK Fs) (hn:V.length+Fs.length<100000000) (hlen:∀y∈Fs,y.1.length<100000000/\y.2.length<100000000) :
  Calls Tryz.prog 91 #[.pointer (some ⟨pb,0,none⟩),.agg #[nv]] w fun e w'=>∃(v':Value) (M' I':Nat→Prop),e=.returned v'∧NRow w.heap.size w' v' (addB V BV Fs).2.2/\PoolS M' I' w' pb (addB V BV Fs).1 (addB V BV Fs).2.1 mo mc ms mn ∧
   (∀q,M' q→(M q∨w.heap.size≤q)/\q<w'.heap.size/\v'.ownBlock≠some q)/\(∀q,I' q→(I q∨w.heap.size≤q)/\q<w'.heap.size/\v'.ownBlock≠some q)/\Fr M w w':=by
 obtain⟨na,nc,rfl,_,_,hnn⟩:=hF;obtain⟨w1,hw1⟩:∃w1,w1=w.alloc (.cells #[.slice na Fs.length nc] 26):=⟨_,rfl⟩;have f1:Fr NoM w w1:=by rw[hw1];exact(Fr.refl NoM w).alloc _
 have hs1:w1.heap.size=w.heap.size+1:=by rw[hw1];simp
 have e1:w1.heap[w.heap.size]?=some (.cells #[.slice na Fs.length nc] 26 (0,0)):=by rw[hw1];exact heap_alloc_new w _
 have c1:w1.cell? ⟨w.heap.size,0,none⟩=some (.slice na Fs.length nc):=by rw[cell_of_row _ _ 0 _ _ _ e1];rfl
 obtain⟨cur,hcur,mk⟩:=ybg Fs.length w1 (by omega);rw[hw1]at mk;obtain⟨w2,hw2⟩:∃w2,w2=w1.alloc (.cells cur 3):=⟨_,rfl⟩;have f2:Fr NoM w1 w2:=by rw[hw2];exact(Fr.refl NoM w1).alloc _
 have c2:w2.cell? ⟨w.heap.size,0,none⟩=some (.slice na Fs.length nc):=f2.cell c1 (fun q=>q);have hrow:NRow w1.heap.size w2 (.slice (some ⟨w1.heap.size,0,none⟩) 0 Fs.length) []:=by rw[hw2];exact NRow.start w1 cur _ hcur (by omega)
 rw[hs1]at hrow;have HF2:=Hh (f1.trans f2 (fun _ _ q=>q));have HRow:=Hh hrow;have HS1:=Hh hs1;have HP:=Hh hP;have HMl:=Hh hMl;have HIl:=Hh hIl;have HOK:=Hh hOK;have HR:=Hh hR;have HO:=Hh ho;have HLen:=Hh hlen;have HNn:=Hh hnn;have HW1:=Hh hw1;clear hP hMl hIl hOK hR ho hlen hnn f1 f2 hs1 e1 hcur hrow;go_enter Tryz.func91,Tryz.ntmps91;go_wp2_with fail;rw[←hw1,←hw2];clear mk c1 c2 hw1 hw2;go_loopw [5,15] (fun v5 t W=>∃(n:Nat) (v:Value) (M1 I1:Nat→Prop),v=v5/\t=.int .i64 n/\n≤Fs.length/\NRow w.heap.size W v (addB V BV (Fs.take n)).2.2/\PoolS M1 I1 W pb (addB V BV (Fs.take n)).1 (addB V BV (Fs.take n)).2.1 mo mc ms mn ∧
   (∀q,M1 q→(M q∨w.heap.size≤q)/\q<W.heap.size/\v.ownBlock≠some q)/\(∀q,I1 q→(I q∨w.heap.size≤q)/\q<W.heap.size/\v.ownBlock≠some q)/\Fr M w W) (fun _ t _=>Fs.length-(intOf t).toNat)
 case atStart=>exact⟨0,_,M,I,rfl,rfl,Nat.zero_le _,⟨zb3 HRow.out.own (by omega),HRow.out.shape⟩,HP.out.fr0 HF2.out,fun q hq=>⟨.inl hq,by
   have h1:=HMl.out q hq;have h2:=HF2.out.size;omega,fun e=>by have e:w.heap.size+1=q:=Option.some.inj e;have h1:=HMl.out q hq;omega⟩,fun q hq=>⟨.inl hq,by
   have h1:=HIl.out q hq;have h2:=HF2.out.size;omega,fun e=>by have e:w.heap.size+1=q:=Option.some.inj e;have h1:=HIl.out q hq;omega⟩,HF2.out.any⟩
 case round =>
  clear HRow;obtain⟨n,v,M1,I1,rfl,rfl,hn',hrow,hp,hM,hI,hfr⟩:=hrel;obtain⟨w7,rfl⟩:∃w7,w7=wr:=⟨_,rfl⟩;have hpre:OptsOK (Fs.take n):=fun j y hy=>HO.out j y (by
   rw[List.getElem?_take]at hy;split at hy
   ·exact hy
   ·cases hy)
  obtain⟨ok1,ok2,ok3,ok4,ok5⟩:=zgb (zf5 HOK.out) (Fs.take n) hpre;have hpk:=zrk (Fs.take n) hpre HOK.out (zf5 HOK.out);rw[List.length_take,Nat.min_eq_left hn']at ok2 ok4;obtain⟨lb,lc,rfl⟩:=hrow.shape;obtain⟨⟨Vk,Bk,A⟩,hA⟩:∃s,addB V BV (Fs.take n)=s:=⟨_,rfl⟩;rw[hA]at hrow hp ok1 ok2 ok3 ok4 ok5 hpk ⊢;dsimp only at hrow hp ok1 ok2 ok3 ok4 ok5 hpk ⊢
  by_cases hlt:n<Fs.length
  ·obtain⟨y,hy⟩:∃y,Fs[n]?=some y:=⟨_,List.getElem?_eq_getElem hlt⟩
   obtain⟨b1,o1,lv,rv,ha1,hR1,d1,d2,n1,n2,m1,m2⟩:=HNn.out n y hy;obtain⟨x1,x2⟩:=HO.out n y hy;obtain⟨y1,y2⟩:=HLen.out y (List.mem_of_getElem? hy);have ix:=zbe na Fs.length nc n b1 o1 hlt ha1;have e1:=hfr.cell d1 (HR.out b1 hR1);have e2:=hfr.cell d2 (HR.out b1 hR1);have t1:=n1.fr hfr (fun hne b hb=>HR.out b (m1 hne b hb));have t2:=n2.fr hfr (fun hne b hb=>HR.out b (m2 hne b hb));have hnext:addB V BV (Fs.take (n+1))=((za4 Vk Bk (za1 A y.1) (za1 A y.2)).1,(za4 Vk Bk (za1 A y.1) (za1 A y.2)).2.1,A ++ [(za4 Vk Bk (za1 A y.1) (za1 A y.2)).2.2]):=by
    obtain⟨hi',ee⟩:=List.getElem?_eq_some_iff.1 hy
    rw[List.take_succ_eq_append_getElem hi',ee,zec,hA,←zcd hpk];rfl
   have hz1:=zen (L:=y.1) ok3 (fun x hx=>by rw[ok2];exact x1 x hx);have hz2:=zen (L:=y.2) ok3 (fun x hx=>by rw[ok2];exact x2 x hx);obtain⟨la,lcc,rfl,z⟩:=id n1;clear z;obtain⟨ra,rcc,rfl,z⟩:=id n2;clear z;obtain⟨w8,hw8⟩:∃w8,w8=w7.alloc (.cells #[.slice la y.1.length lcc,.slice ra y.2.length rcc] 85):=⟨_,rfl⟩;have f8:Fr NoM w7 w8:=by rw[hw8];exact(Fr.refl NoM w7).alloc _
   have hs8:w8.heap.size=w7.heap.size+1:=by rw[hw8];simp
   have hx8:w8.heap[w7.heap.size]?=some (.cells #[.slice la y.1.length lcc,.slice ra y.2.length rcc] 85 (0,0)):=by rw[hw8];exact heap_alloc_new w7 _
   have hvb:∀q,(Value.slice (some ⟨lb,0,none⟩) A.length lc).ownBlock=some q→w.heap.size≤q/\q<w7.heap.size:=fun q hq=>hrow.own.lt q hq
   have HC:=Hh (fun(W:World) (f:Fr (fun q=>M1 q∨(Value.slice (some ⟨lb,0,none⟩) A.length lc).ownBlock=some q) w8 W)=>show W.cell? ⟨w7.heap.size,0,none⟩=some (.slice la y.1.length lcc)/\W.cell? ⟨w7.heap.size,1,none⟩=some (.slice ra y.2.length rcc)from by
    have h:=f.heap hx8 (fun e=>by
     rcases e with e|e
     ·have:=(hM _ e).2.1;omega
     ·have:=hvb _ e;omega)
    exact⟨by rw[cell_of_row _ _ 0 _ _ _ h];rfl,by rw[cell_of_row _ _ 1 _ _ _ h];rfl⟩)
   have HT1:=Hh (fun(W:World) (f:Fr NoM w8 W)=>(t1.fr0 f8).fr0 f);have HT2:=Hh (fun(W:World) (f:Fr NoM w8 W)=>(t2.fr0 f8).fr0 f);have HV:=Hh (fun(W:World) (f:Fr NoM w8 W)=>((hrow.nats.fr0 f8).fr0 f:Nats W (.slice (some ⟨lb,0,none⟩) A.length lc) A));have HRw:=Hh (fun(W:World) (f:Fr (fun q=>M1 q) w8 W)=>(hrow.fr f8 (fun _ _ q=>q)).fr f (fun q hq e=>(hM q e).2.2 hq));have HPl:=Hh (fun(W:World) (f:Fr NoM w8 W)=>(hp.fr0 f8).fr0 f);have HW8:=Hh hw8;have HX1:=Hh x1;have HX2:=Hh x2;have HY1:=Hh y1;have HY2:=Hh y2;have HNext:=Hh hnext;have HZ1:=Hh hz1;have HZ2:=Hh hz2;have HM:=Hh hM;have HI:=Hh hI;have HFr:=Hh hfr;have F8:=Hh f8;have HS8:=Hh hs8;have HVb:=Hh hvb;have HAl:=Hh ok2;have HVl:=Hh (show Vk.length<1000000000 from by omega);have HBl:=Hh (show ∀x∈Bk,x<1000000000 from fun x hx=>by have:=ok1.lt Vk.length (Nat.le_refl _) x hx;omega);have HRow:=Hh hrow;have HSz:=Hh (fun(W:World) (f:Fr M1 w8 W)=>(show w.heap.size≤W.heap.size from by have:=f.size;have:=hfr.size;omega));have HE1:=Hh (show y.1.length=(za1 A y.1).length from by simp[za1]);have HE2:=Hh (show y.2.length=(za1 A y.2).length from by simp[za1]);have HE3:=Hh (show(za1 A y.1).length<1000000000 from by simp[za1];omega);have HE4:=Hh (show(za1 A y.2).length<1000000000 from by simp[za1];omega);clear hrow hp ok1 ok2 ok3 ok4 ok5 hpk hA hpre hy ha1 hR1 d1 d2 n1 n2 m1 m2 x1 x2 y1 y2 t1 t2 hnext hz1 hz2 hM hI hfr hx8 f8 hs8 hvb hw8;have F0:Fr NoM w8 w8.drew:=(Fr.refl NoM w8).drew;have G0:Fr (fun q=>M1 q∨(Value.slice (some ⟨lb,0,none⟩) A.length lc).ownBlock=some q) w8 w8.drew:=F0.any;go_upto_region 5 with fail;rw[←HW8.out];have hs:=HC.out w8 (Fr.refl _ _);go_region_held3 (fun(W:World)=>W.cell? ⟨w7.heap.size,0,none⟩=some (.slice la y.1.length lcc)/\W.cell? ⟨w7.heap.size,1,none⟩=some (.slice ra y.2.length rcc))
    (first|exact HC.out _ (by assumption)|exact HC.out _ (Fr.alloc (by assumption) _))
    (first
     | (go_at_call 138;(with_reducible refine(zm8 (.slice la y.1.length lcc) _ y.1 A _ (HT1.out _ (by assumption)) (HV.out _ (by assumption)) (fun x hx=>by rw[HAl.out];exact HX1.out x hx) (by have:=HY1.out;omega)).mono ?_);rintro e wa ⟨rfl,ra1,fa⟩;(try simp only[World.size_drew]at ra1);have ga:Fr NoM w8 wa:=Fr.trans (by assumption) fa (fun _ _ q=>q);have ka:Fr (fun q=>M1 q∨(Value.slice (some ⟨lb,0,none⟩) A.length lc).ownBlock=some q) w8 wa:=ga.any;try (have rb2:=RowIs.fr (L:=za1 A y.2) (by assumption) fa (fun q=>q)))
     | (go_at_call 138;(with_reducible refine(zm8 (.slice ra y.2.length rcc) _ y.2 A _ (HT2.out _ (by assumption)) (HV.out _ (by assumption)) (fun x hx=>by rw[HAl.out];exact HX2.out x hx) (by have:=HY2.out;omega)).mono ?_);rintro e wb ⟨rfl,rb1,fb⟩;(try simp only[World.size_drew]at rb1);have gb:Fr NoM w8 wb:=Fr.trans (by assumption) fb (fun _ _ q=>q);have kb:Fr (fun q=>M1 q∨(Value.slice (some ⟨lb,0,none⟩) A.length lc).ownBlock=some q) w8 wb:=gb.any;try (have ra2:=RowIs.fr (L:=za1 A y.1) (by assumption) fb (fun q=>q)))
     | (go_at_call 108;(with_reducible refine(zyu pb Vk Bk (za1 A y.1) (za1 A y.2) mo mc ms mn _ _ _ _ HE1.out HE2.out _ (HPl.out _ (by assumption)) (by assumption) (by assumption) HZ1.out HZ2.out HE3.out HE4.out HVl.out HBl.out).mono ?_);rintro e w3 ⟨rfl,M2,I2,p3,hM3,hI3,f3⟩;have HM4:=Hh (later hM3 (by assumption));have HI4:=Hh (later hI3 (by assumption));clear hM3 hI3;have f30:Fr M1 w8 w3:=Fr.trans (Fr.any (by assumption)) f3 (fun _ _ q=>q);have k3:Fr (fun q=>M1 q∨(Value.slice (some ⟨lb,0,none⟩) A.length lc).ownBlock=some q) w8 w3:=f30.mono (fun _ _ q=>.inl q))
     | (refine zbk (enc:=encN) rfl (.tmp 19) (.tmp 30) 82 rfl w.heap.size 3 (.int .i64 0) 8 Tryz.underlying82 za9 rfl (.slice (some ⟨lb,0,none⟩) A.length lc) A.length (A.map encN) rfl (HRw.out _ (f30.alloc _)).own (.slice (some ⟨w3.heap.size,0,none⟩) 1 1) rfl [(za4 Vk Bk (za1 A y.1) (za1 A y.2)).2.2] (SliceOf.one encN w3 _ 3) (fun _=>rfl) (by have:=HAl.out;simp;omega) (by decide) (by have:=f3.size;have:=HSz.out _ f30;rw[World.size_alloc];omega) ?_;intro v4 w4 h4 f4 q4;have k4:Fr (fun q=>M1 q∨(Value.slice (some ⟨lb,0,none⟩) A.length lc).ownBlock=some q) w8 w4:=(k3.alloc _).trans f4 (fun _ _ q=>.inr q))
     | fail)
   all_goals
    go_wp2;go_roundw
    case rel =>
     have hz:=HS8.out;have hz0:=HFr.out.size;have hz3:=f30.size;have hz4:=f4.size;rw[World.size_alloc]at hz4;have hd:∀q,M2 q→¬Own1 (.slice (some ⟨lb,0,none⟩) A.length lc) q:=fun q hq ho=>by
      rcases (HM4.out q hq).1 with h|h
      ·exact(HM.out q h).2.2 ho
      ·have:=(HVb.out q ho).2;omega
     have hdi:∀q,I2 q→¬Own1 (.slice (some ⟨lb,0,none⟩) A.length lc) q:=fun q hq ho=>by
      rcases (HI4.out q hq).1 with h|h
      ·exact(HI.out q h).2.2 ho
      ·have:=(HVb.out q ho).2;omega
     refine⟨n+1,v4,M2,I2,rfl,by go_num,by omega,?_,?_,fun q hq=>⟨?_,?_,fun e=>?_⟩,fun q hq=>⟨?_,?_,fun e=>?_⟩,?_⟩
     ·rw[HNext.out];exact NRow.snoc h4
     ·rw[HNext.out];exact(p3.fr0 ((Fr.refl NoM w3).alloc _)).fr f4 hd hdi
     ·rcases (HM4.out q hq).1 with h|h
      ·exact(HM.out q h).1
      ·exact .inr (by omega)
     ·have:=(HM4.out q hq).2;omega
     ·rcases q4 with h|⟨b',h,hle⟩
      ·exact hd q hq (h.symm.trans e)
      ·rw[h]at e;cases e
       rw[World.size_alloc]at hle;have:=(HM4.out q hq).2;omega
     ·rcases (HI4.out q hq).1 with h|h
      ·exact(HI.out q h).1
      ·exact .inr (by omega)
     ·have:=(HI4.out q hq).2;omega
     ·rcases q4 with h|⟨b',h,hle⟩
      ·exact hdi q hq (h.symm.trans e)
      ·rw[h]at e;cases e
       rw[World.size_alloc]at hle;have:=(HI4.out q hq).2;omega
     ·refine HFr.out.trans (F8.out.any.trans k4 (fun k hk q=>q)) (fun q hq h=>?_)
      rcases h with h|h
      ·rcases (HM.out q h).1 with h|h
       ·exact h
       ·omega
      ·have:=(HVb.out q h).1;omega
    case measure=>simp[intOf];omega
  ·have hk':n=Fs.length:=by omega
   subst hk';rw[List.take_length]at hA;have HO:=Hh hrow;have HFr:=Hh hfr;have HM:=Hh hM;have HI:=Hh hI;have HPl:=Hh hp;have HA:=Hh hA;clear hrow hfr hM hI hp hA hpre ok1 ok2 ok3 ok4 ok5 hpk;go_wp2;go_ret;refine⟨_,M1,I1,rfl,?_,?_,HM.out,HI.out,HFr.out⟩
   ·rw[HA.out];exact HO.out
   ·rw[HA.out];exact HPl.out
theorem zyy {w:World}{a:Option Addr}{c x:Nat}{l:List Nat}(h:Nats w (.slice a (l.length+1) c) (x::l)):Nats w (.slice (if c=1 then a else Option.map (fun x=>{ block:=x.block,off:=x.off+1 }) a) l.length (c-1)) l:=by
 obtain⟨a',c',e,h1,h2,hc⟩:=h;cases e
 simp only[List.length_cons]at h1;refine⟨_,_,rfl,by omega,by omega,fun i y hy=>?_⟩;have hi:=(List.getElem?_eq_some_iff.1 hy).1;obtain⟨b,off,ha,hcell⟩:=hc (i+1) y (by simpa using hy);rw[if_neg (by omega),ha];exact⟨b,off+1,rfl,by rw[Nat.add_assoc,Nat.add_comm 1 i];exact hcell⟩
set_option maxRecDepth 4000 in
set_option maxHeartbeats 4000000 in
theorem zkz (lv pv:Value)(L P:List Nat)(w:World)(hL:Nats w lv L)(hP:Nats w pv P)(hup:P.Pairwise (· < ·))(hl:L.length<1000000000) :
  Calls Tryz.prog 160 #[lv,pv] w fun e w'=>∃v',e=.returned v'∧NRow w.heap.size w' v' (zai L P)/\Fr NoM w w':=by
 obtain⟨la,lc,rfl,hlc,hlcm,hL⟩:=hL;have HL:=Hh hL;clear hL;have HP:=Hh hP;have HU:=Hh hup;clear hP hup;have Hl:=Hh hl;clear hl;go_enter Tryz.func160,Tryz.ntmps160;go_wp2_with fail;go_loopw [1,5,11] (fun p v i wr=>∃(k:Nat) (Q:List Nat),k≤L.length/\i=.int .i64 k/\NRow w.heap.size wr v (zai (L.take k) P)/\Nats w p Q/\Q.Pairwise (· < ·)/\(∀x,x∈Q↔x∈P/\k≤x)/\Fr NoM w wr) (fun _ _ i _=>L.length-(intOf i).toNat)
 case atStart=>exact⟨0,P,by omega,rfl,NRow.made w,HP.out,HU.out,fun x=>by simp,(Fr.refl _ _).alloc _⟩
 case round =>
  obtain⟨k,Q,hk,rfl,hrow,hq,hqu,hqm,hfr⟩:=hrel;obtain⟨w7,rfl⟩:∃w7,w7=wr:=⟨_,rfl⟩;obtain⟨lb,lcc,rfl⟩:=hrow.shape;by_cases hlt':k<L.length
  ·obtain⟨b1,o1,ha1,hc1⟩:=HL.out k L[k] (by simp)
   have hc1':=hfr.cell hc1 (fun q=>q);have ix1:=zaa la L.length lc k b1 o1 hlt' ha1;unfold encN at hc1';have hnext:=zha L P k hlt';have hlen:=zci (L.take k) P;rw[List.length_take,Nat.min_eq_left hk]at hlen;obtain⟨y,hy⟩:∃y,L[k]=y:=⟨_,rfl⟩;rw[hy]at hnext hc1';obtain⟨pa,pc,rfl,_,_,hcc⟩:=id (hq.fr0 hfr);have HQ:=Hh hq;have HRow:=Hh hrow;have HFr:=Hh hfr;have HLen:=Hh hlen;clear hc1 ha1 hfr hlen hrow hq;have keep:k ∉ Q→k ∉ P:=fun h hp=>h ((hqm k).2 ⟨hp,Nat.le_refl _⟩)
   have hmem2:k ∉ Q→∀x,x∈Q↔x∈P/\k+1≤x:=fun h x=>by
    rw[hqm x];constructor
    ·rintro⟨h1,h2⟩
     refine⟨h1,?_⟩;by_cases e:x=k
     ·subst e;exact absurd ((hqm x).2 ⟨h1,h2⟩) h
     ·omega
    ·rintro⟨h1,h2⟩;exact⟨h1,by omega⟩
   cases Q with
   | nil =>
    have hmk:=hmem2 (by simp);rw[if_neg (keep (by simp))]at hnext;have HN:=Hh hnext;have HMk:=Hh hmk;clear hnext hcc keep hmem2 hqm hqu hmk;go_wp2_with (at_builtin;refine zbn (enc:=encN) w (HFr.out.alloc _) rfl _ _ 82 rfl 3 (.int .i64 0) 8 Tryz.underlying82 za9 rfl _ (zai (L.take k) P).length _ rfl (HRow.out.own.alloc _) _ rfl [y] (SliceOf.one encN w7 y 3) (fun _=>rfl) ?c1 (by decide) ?_)
    case c1=>have:=HLen.out;have:=Hl.out;simp at *;omega
    intro v' w' h1 h2;have H1:=Hh h1;have H2:=Hh h2;clear h1 h2;go_wp2_with fail;go_roundw
    case rel=>exact⟨k+1,[],by omega,by go_num,by rw[HN.out];exact NRow.snoc H1.out,HQ.out,List.Pairwise.nil,HMk.out,H2.out⟩
    case measure=>simp[intOf];omega
   | cons q Q' =>
    obtain⟨b2,o2,ha2,hc2⟩:=hcc 0 q rfl;have ix2:=zaa pa (Q'.length+1) pc 0 b2 o2 (Nat.succ_pos _) ha2;have hs2:=zyy HQ.out;unfold encN at hc2;rw[Nat.add_zero]at ix2 hc2;rw[show((0:Nat):Int)=0 from rfl]at ix2;simp only[List.length_cons]at HQ ⊢;by_cases hqk:q=k
    ·subst hqk
     rw[if_pos ((hqm q).1 (by simp)).1]at hnext;have hu2:=(List.pairwise_cons.1 hqu).2;have hm2:∀x,x∈Q'↔x∈P/\q+1≤x:=fun x=>by
      have h0:=(List.pairwise_cons.1 hqu).1;constructor
      ·intro h
       exact⟨((hqm x).1 (List.mem_cons_of_mem _ h)).1,h0 x h⟩
      ·rintro⟨h1,h2⟩
       rcases List.mem_cons.1 ((hqm x).2 ⟨h1,by omega⟩)with e|h
       ·omega
       ·exact h
     have hb:((q:Int) == (q:Int))=true:=beq_self_eq_true _;have HN:=Hh hnext;have HU2:=Hh hu2;have HM2:=Hh hm2;have HS2:=Hh hs2;clear hnext hcc keep hmem2 hqm hqu ha2 hu2 hm2 hs2;go_wp2_with fail;go_roundw
     case rel=>exact⟨q+1,Q',by omega,by go_num,by rw[HN.out];exact HRow.out,HS2.out,HU2.out,HM2.out,HFr.out⟩
     case measure=>simp[intOf];omega
    ·have hn0:k ∉ q::Q':=fun h=>by
      rcases List.mem_cons.1 h with e|h
      ·exact hqk e.symm
      ·have:=(List.pairwise_cons.1 hqu).1 k h
       have:=((hqm q).1 (by simp)).2;omega
     have hmk:=hmem2 hn0;rw[if_neg (keep hn0)]at hnext;have hb:((q:Int) == (k:Int))=false:=by rw[beq_eq_false_iff_ne];omega
     have HN:=Hh hnext;have HMk:=Hh hmk;have HQu:=Hh hqu;clear hnext hcc keep hmem2 hqm hqu hmk ha2 hs2 hn0;go_wp2_with (at_builtin;refine zbn (enc:=encN) w (HFr.out.alloc _) rfl _ _ 82 rfl 3 (.int .i64 0) 8 Tryz.underlying82 za9 rfl _ (zai (L.take k) P).length _ rfl (HRow.out.own.alloc _) _ rfl [y] (SliceOf.one encN w7 y 3) (fun _=>rfl) ?c1 (by decide) ?_)
     case c1=>have:=HLen.out;have:=Hl.out;simp at *;omega
     intro v' w' h1 h2;have H1:=Hh h1;have H2:=Hh h2;clear h1 h2;go_wp2_with fail;go_roundw
     case rel=>exact⟨k+1,q::Q',by omega,by go_num,by rw[HN.out];exact NRow.snoc H1.out,HQ.out,HQu.out,HMk.out,H2.out⟩
     case measure=>simp[intOf];omega
  ·have hk':k=L.length:=by omega
   subst hk';rw[List.take_length]at hrow ⊢;have HO:=Hh hrow;have HFr:=Hh hfr;clear hrow hfr hq hqm hqu;go_wp2_with fail;go_ret;exact⟨_,rfl,HO.out,HFr.out⟩
def domI (g:Nat→Nat→Bool)(L:List Nat)(i:Nat):List Nat:=(List.range i).filter fun m=>(List.range L.length).any (domP g L m)
theorem zum (g:Nat→Nat→Bool)(L:List Nat):domI g L L.length=domB g L:=rfl
theorem yc7 {g:Nat→Nat→Bool}{L:List Nat}{i k:Nat}(hk:k<L.length)(h:domP g L i k=true):domI g L (i+1)=domI g L i ++ [i]:=by
 have:(List.range L.length).any (domP g L i)=true:=List.any_eq_true.2 ⟨k,List.mem_range.2 hk,h⟩;unfold domI;rw[List.range_succ,List.filter_append];simp[this]
theorem ye9 {g:Nat→Nat→Bool}{L:List Nat}{i:Nat}(h:(List.range L.length).any (domP g L i)=false):domI g L (i+1)=domI g L i:=by
 unfold domI;rw[List.range_succ,List.filter_append];simp[h]
theorem yc8 (g:Nat→Nat→Bool)(L:List Nat)(i:Nat):(domI g L i).length≤i:=by
 have:=List.length_filter_le (fun m=>(List.range L.length).any (domP g L m)) (List.range i);rw[List.length_range]at this
 exact this
set_option maxRecDepth 4000 in
set_option maxHeartbeats 8000000 in
theorem zi3 {M I:Nat→Prop} {C:List Nat} {V:List PL} {BV:List Nat} (B:BookC V C) (pb ob:Nat) (mc ms mn:Value) (hMo:¬ M ob) (hIo:¬ I ob) (lf:Bool) (g:Nat→Nat→Bool) (hg:g=if lf=true then gL C else gR C) (lv:Value) (L:List Nat) (f:Nat × Nat→Option Bool) (w:World)
    (hP:PoolS M I w pb V BV (.map (some ob)) mc ms mn) (hf:MapF encP encB w ob f) (ho:OrdF C f) (hL:Nats w lv L) (hLb:L≠[]→∀ q,lv.ownBlock=some q→q≠ob) (hLt:∀ x∈L,x < V.length) (hl:L.length < 1000000) :
    Calls Tryz.prog 161 #[.pointer (some ⟨pb,0,none⟩),lv,.bool lf] w fun e w'=>∃ v',e=.returned v'∧NRow w.heap.size w' v' (domB g L)∧∃ f',MapF encP encB w' ob f'∧OrdF C f'∧Fr (fun q=>q=ob) w w':=by
  have hob:ob < w.heap.size:=hf.lt;have HL:=Hh (fun (W:World) (f:Fr (fun q=>q=ob) w W)=>show Nats W lv L from hL.fr f hLb);have HP:=Hh (fun (W:World) (f:Fr (fun q=>q=ob) w W)=>hP.fr f (fun q hq e=>hMo (e ▸ hq)) (fun q hq e=>hIo (e ▸ hq)));have HGe:=Hh (fun x y (hx:x < V.length) (hy:y < V.length)=>(yd4 B pb ob mc ms mn hMo hIo (x + y + 1) x y (Nat.lt_succ_self _) hx hy:GeIs M I C V BV pb ob mc ms mn x y));obtain ⟨la,lc,rfl,hlc,hlcm,z⟩:=hL;have HLt:=Hh hLt;have HF:=Hh hf;have HO:=Hh ho;have Hg:=Hh hg;have Hl:=Hh hl;have HOb:=Hh hob;clear hP hf ho hLt z hLb hMo hIo hg hl hob;go_enter Tryz.func161,Tryz.ntmps161;go_wp2_with fail;go_loopw [7,17] (fun o t W=>∃ (i:Nat) (f1:Nat × Nat→Option Bool),t=.int .i64 i∧i≤L.length∧NRow w.heap.size W o (domI g L i)∧MapF encP encB W ob f1∧OrdF C f1∧Fr (fun q=>q=ob) w W) (fun _ t _=>L.length - (intOf t).toNat)
  case atStart=>exact ⟨0,f,rfl,Nat.zero_le _,NRow.made w,HF.out.fr ((Fr.refl NoM w).alloc _) (fun q=>q),HO.out,(Fr.refl _ w).alloc _⟩
  case round =>
    obtain ⟨i,f1,rfl,hi,hrow,hf1,ho1,hfr⟩:=hrel;obtain ⟨w6,rfl⟩:∃ w6,w6=wr:=⟨_,rfl⟩;obtain ⟨lb,lcc,rfl⟩:=hrow.shape;have HRow:=Hh hrow;have HF1:=Hh hf1;have HO1:=Hh ho1;have HFr:=Hh hfr;have HLi:=Hh (yc8 g L i);clear hrow hf1 ho1 hfr;by_cases hil:i < L.length
    · obtain ⟨x, hx⟩ : ∃ x, L[i]? = some x := ⟨_, List.getElem?_eq_getElem hil⟩
      have hxl:=HLt.out x (List.mem_of_getElem? hx);obtain ⟨_,_,ee,_,_,hcc⟩:=HL.out w6 HFr.out;cases ee
      obtain ⟨b1,o1,ha1,d1⟩:=hcc i x hx;have ix1:=zaa la L.length lc i b1 o1 hil ha1;unfold encN at d1;go_wp2_with fail;clear d1 ix1 hcc;go_loopw [7,24] (fun o t W=>∃ (k:Nat) (f2:Nat × Nat→Option Bool),o=.slice (some ⟨lb,0,none⟩) (domI g L i).length lcc∧t=.int .i64 k∧k≤L.length∧(List.range k).any (domP g L i)=false∧MapF encP encB W ob f2∧OrdF C f2∧Fr (fun q=>q=ob) w6 W) (fun _ t _=>L.length - (intOf t).toNat)
      case atStart=>exact ⟨0,f1,rfl,rfl,Nat.zero_le _,rfl,HF1.out,HO1.out,Fr.refl _ _⟩
      case round =>
        obtain ⟨k,f2,rfl,rfl,hk,hany,hf2,ho2,hfr2⟩:=hrel;obtain ⟨w7,rfl⟩:∃ w7,w7=wr:=⟨_,rfl⟩;have HF2:=Hh hf2;have HO2:=Hh ho2;have HFr2:=Hh hfr2;have HAny:=Hh hany;have HRow7:=Hh (HRow.out.fr hfr2 (fun q hq e=>by have:=(HRow.out.own.lt q hq).1;have:=HOb.out;omega));clear hf2 ho2 hfr2 hany;by_cases hkl:k < L.length
        · obtain ⟨y, hy⟩ : ∃ y, L[k]? = some y := ⟨_, List.getElem?_eq_getElem hkl⟩
          have hyl:=HLt.out y (List.mem_of_getElem? hy);obtain ⟨_,_,ee,_,_,hcc⟩:=HL.out w7 (HFr.out.trans HFr2.out (fun _ _ q=>q));cases ee
          obtain ⟨b2,o2,ha2,d2⟩:=hcc k y hy;have ix2:=zaa la L.length lc k b2 o2 hkl ha2;unfold encN at d2;have hnext:(List.range (k + 1)).any (domP g L i)=domP g L i k:=by
            rw [List.range_succ,List.any_append,HAny.out];simp
          by_cases hki:k=i
          · subst hki
            have hnn:(List.range (k + 1)).any (domP g L k)=false:=by rw [hnext];simp [domP]
            have hb:((k:Int) == (k:Int))=true:=beq_self_eq_true _;have HN:=Hh hnn;clear hcc hnext hnn hx hy ha1 ha2;go_wp2_with fail;go_roundw
            case rel=>exact ⟨k + 1,f2,rfl,by go_num,by omega,HN.out,HF2.out,HO2.out,HFr2.out⟩
            case measure=>simp [intOf];omega
          · have hb : ((k : Int) == (i : Int)) = false := by rw [beq_eq_false_iff_ne]; omega
            obtain ⟨da,hda⟩:∃ da,da=geV C y x:=⟨_,rfl⟩;obtain ⟨db,hdb⟩:∃ db,db=geV C x y:=⟨_,rfl⟩;obtain ⟨dm,hdm⟩:∃ dm,dm=domP g L i k:=⟨_,rfl⟩;have hdom:dm=if lf=true then (da && (!db || decide (k < i))) else (db && (!da || decide (k < i))):=by
              rw [hdm,Hg.out,hda,hdb];unfold domP;rw [List.getD_eq_getElem?_getD,List.getD_eq_getElem?_getD,hx,hy,decide_eq_true hki];cases lf <;> rfl
            have h1:=HGe.out y x hyl hxl;have h2:=HGe.out x y hxl hyl;unfold GeIs at h1 h2;rw [← hda] at h1;rw [← hdb] at h2;rw [← hdm] at hnext;have H1:=Hh h1;have H2:=Hh h2;have HDom:=Hh hdom;have HN:=Hh hnext;have HDm:=Hh hdm;clear hcc hnext hx hy ha1 ha2 h1 h2 hdom hda hdb hdm;go_wp2_with fail;refine (H1.out f2 w7 (HP.out w7 (HFr.out.trans HFr2.out (fun _ _ q=>q))) HF2.out HO2.out).mono ?_
            rintro e w8 ⟨rfl,f3,hf3,ho3,hfr3⟩;have HF3:=Hh hf3;have HO3:=Hh ho3;have HFr3:=Hh (HFr2.out.trans hfr3 (fun _ _ q=>q));have HRow8:=Hh (HRow7.out.fr hfr3 (fun q hq e=>by have:=(HRow7.out.own.lt q hq).1;have:=HOb.out;omega));clear hf3 ho3 hfr3 HF2 HO2 HFr2 HRow7 d2 ix2;go_wp2_with fail;refine (H2.out f3 w8 (HP.out w8 (HFr.out.trans HFr3.out (fun _ _ q=>q))) HF3.out HO3.out).mono ?_
            rintro e w9 ⟨rfl,f4,hf4,ho4,hfr4⟩;have HF4:=Hh hf4;have HO4:=Hh ho4;have HFr4:=Hh (HFr3.out.trans hfr4 (fun _ _ q=>q));have HRow9:=Hh (HRow8.out.fr hfr4 (fun q hq e=>by have:=(HRow8.out.own.lt q hq).1;have:=HOb.out;omega));clear hf4 ho4 hfr4 HF3 HO3 HFr3 HRow8 hb;obtain ⟨p,hp⟩:∃ p,p=if lf=true then da else db:=⟨_,rfl⟩
            obtain ⟨q,hq⟩:∃ q,q=if lf=true then db else da:=⟨_,rfl⟩
            have hpq:dm=(p && (!q || decide (k < i))):=by
              rw [HDom.out,hp,hq];cases lf <;> rfl
            have HPq:=Hh hpq;have HPp:=Hh hp;have HQq:=Hh hq;clear hpq hp hq HDom;go_upto_if 41 with fail
            go_cut [12,13] from 25 to 58 (fun a b W=>a=.bool p∧b=.bool q∧W=w9)
            case first =>
              cases lf <;>
                (go_wp2_with fail
                 go_meet
                 case rel=>exact ⟨by rw [HPp.out] <;> rfl,by rw [HQq.out] <;> rfl,rfl⟩)
            case rest =>
            obtain ⟨rfl,rfl,rfl⟩:=hcut;clear HPp HQq;go_upto_region 12 with fail;go_cut [53] from 25 to 58 (fun c W=>c=.bool dm∧W=wc)
            case first =>
              by_cases hlt:k < i
              · have hd : dm = p := by rw [HPq.out, decide_eq_true hlt]; simp
                have HD:=Hh hd;clear hd;cases p <;> cases q <;>
                  (go_wp2_with fail
                   go_meet
                   case rel=>exact ⟨by rw [HD.out] <;> rfl,rfl⟩)
              · have hd : dm = (p && !q) := by rw [HPq.out, decide_eq_false hlt]; simp
                have HD:=Hh hd;clear hd;cases p <;> cases q <;>
                  (go_wp2_with fail
                   go_meet
                   case rel=>exact ⟨by rw [HD.out] <;> rfl,rfl⟩)
            case rest =>
              obtain ⟨rfl,rfl⟩:=hcut;cases dm with
              | true =>
                have HY:=Hh (yc7 hkl HDm.out.symm);have HFx:=Hh (HFr.out.trans HFr4.out (fun _ _ q=>q));go_wp2_with (at_builtin;refine zag (enc:=encN) _ rfl _ _ 82 rfl w.heap.size 3 (.int .i64 0) 8 Tryz.underlying82 za9 rfl _ (domI g L i).length _ rfl (HRow9.out.own.alloc _) _ rfl [i] (SliceOf.one encN wc i 3) (fun _=>rfl) ?c1 (by decide) ?c2 ?_)
                case c1=>have:=HLi.out;have:=Hl.out;simp at *;omega
                case c2=>have:=HFx.out.size;simp at *;omega
                intro v' w' h1 h2 h3;have hrw:NRow w.heap.size w' v' (domI g L (i + 1)):=by rw [HY.out];exact NRow.snoc h1
                have hno:∀ q,q < w.heap.size→Own1 (.slice (some ⟨lb,0,none⟩) (domI g L i).length lcc) q→False:=fun q hq ho=>by have:=(HRow9.out.own.lt q ho).1;omega
                have HRw:=Hh hrw;have HMf:=Hh ((HF4.out.fr ((Fr.refl NoM _).alloc (.cells #[.int .i64 (i:Int)] 3)) (fun q=>q)).fr h2 (hno _ HOb.out));have HFz:=Hh ((HFx.out.alloc (.cells #[.int .i64 (i:Int)] 3)).trans h2 (fun q hq h=>(hno q hq h).elim));clear h1 h2 h3 hrw hno;go_wp2_with fail;go_roundw
                case rel=>exact ⟨i + 1,f4,by go_num,by omega,HRw.out,HMf.out,HO4.out,HFz.out⟩
                case measure=>simp [intOf];omega
              | false =>
                go_wp2_with fail;go_roundw
                case rel=>exact ⟨k + 1,f4,rfl,by go_num,by omega,HN.out,HF4.out,HO4.out,HFr4.out⟩
                case measure=>simp [intOf];omega
        · have hk' : k = L.length := by omega
          subst hk';have HN:=Hh (ye9 HAny.out);have HFx:=Hh (HFr.out.trans HFr2.out (fun _ _ q=>q));go_wp2_with fail;go_roundw
          case rel=>exact ⟨i + 1,f2,by go_num,by omega,by rw [HN.out];exact HRow7.out,HF2.out,HO2.out,HFx.out⟩
          case measure=>simp [intOf];omega
    · have hi' : i = L.length := by omega
      subst hi';have hrow:=HRow.out;rw [zum] at hrow;rw [zum] at *;have HO:=Hh hrow;clear hrow HRow;go_wp2_with fail;go_ret;exact ⟨_,rfl,HO.out,f1,HF1.out,HO1.out,HFr.out⟩
structure PSt {κ:Type}(ek:κ→Value) (MO:List PL→(κ→Option Nat)→Prop) (U:List Nat) (pb sb:Nat) (mo mc ms mn:Value) (W:World) (V:List PL) (BV:List Nat) (M I:Nat→Prop) (f:κ→Option Nat):Prop where
 pool:PoolS M I W pb V BV mo mc ms mn
 ok:PoolOK V BV
 inU:∀x,x<V.length→(za0 V).getD x 0∈U
 map:MapF ek encN W sb f
 memo:MO V f
 mlt:∀q,M q→q<W.heap.size/\q≠sb
 ilt:∀q,I q→q<W.heap.size/\q≠sb
structure PNx (sb:Nat) (W:World) (V:List PL) (M I:Nat→Prop) (W':World) (V':List PL) (M' I':Nat→Prop):Prop where
 pre:V <+: V'
 mM:∀q,M' q→M q∨W.heap.size≤q
 mI:∀q,I' q→I q∨W.heap.size≤q
 fr:Fr (fun q=>M q∨q=sb) W W'
section
variable {κ:Type}{ek:κ→Value}{MO:List PL→(κ→Option Nat)→Prop}{U:List Nat}{pb sb:Nat}{mo mc ms mn:Value}{W W' W1 W2:World}{V V' V1 V2:List PL}{BV BV':List Nat}{M I M' I' M1 I1 M2 I2 X:Nat→Prop}{f f':κ→Option Nat}
theorem PoolS.sep (h:PoolS M I W pb V BV mo mc ms mn):∀q,M q→¬I q:=by
 obtain⟨lv,rv,bv,fb,LS,RS,_,_,_,_,_,_,_,_,m,_⟩:=h;exact m
theorem PSt.fr (h:PSt ek MO U pb sb mo mc ms mn W V BV M I f)(hf:Fr X W W')(hx:∀q,X q→¬M q/\¬I q/\q≠sb):PSt ek MO U pb sb mo mc ms mn W' V BV M I f :=
 ⟨h.pool.fr hf (fun q hq hX=>(hx q hX).1 hq) (fun q hq hX=>(hx q hX).2.1 hq),h.ok,h.inU,h.map.fr hf (fun hX=>(hx sb hX).2.2 rfl),h.memo,fun q hq=>⟨Nat.lt_of_lt_of_le (h.mlt q hq).1 hf.size,(h.mlt q hq).2⟩,fun q hq=>⟨Nat.lt_of_lt_of_le (h.ilt q hq).1 hf.size,(h.ilt q hq).2⟩⟩
theorem PSt.fr0 (h:PSt ek MO U pb sb mo mc ms mn W V BV M I f)(hf:Fr NoM W W'):PSt ek MO U pb sb mo mc ms mn W' V BV M I f:=h.fr hf (fun _ q=>q.elim)
theorem PSt.len (h:PSt ek MO U pb sb mo mc ms mn W V BV M I f):V.length≤U.length:=zf1 h.ok h.inU
theorem PNx.refl (sb:Nat)(W:World)(V:List PL)(M I:Nat→Prop):PNx sb W V M I W V M I:=⟨List.prefix_refl _,fun _ h=>.inl h,fun _ h=>.inl h,Fr.refl _ _⟩
theorem PNx.of0 (hf:Fr NoM W W'):PNx sb W V M I W' V M I:=⟨List.prefix_refl _,fun _ h=>.inl h,fun _ h=>.inl h,hf.any⟩
theorem PNx.trans (h:PNx sb W V M I W1 V1 M1 I1)(h':PNx sb W1 V1 M1 I1 W2 V2 M2 I2):PNx sb W V M I W2 V2 M2 I2 :=
 ⟨h.pre.trans h'.pre,fun q hq=>(h'.mM q hq).elim (h.mM q) (fun z=>.inr (Nat.le_trans h.fr.size z)),fun q hq=>(h'.mI q hq).elim (h.mI q) (fun z=>.inr (Nat.le_trans h.fr.size z)),
  h.fr.trans h'.fr (fun k hk q=>q.elim (fun q=>(h.mM k q).elim .inl (fun z=>by omega)) .inr)⟩
theorem PNx.own {v:Value}(h:PNx sb W V M I W1 V1 M1 I1)(hf:Fr (Own1 v) W1 W2)(hv:∀q,v.ownBlock=some q→W.heap.size≤q):PNx sb W V M I W2 V1 M1 I1 :=
 ⟨h.pre,h.mM,h.mI,h.fr.trans hf (fun k hk q=>by have:=hv k q;omega)⟩
theorem PSt.node {L R cs ds:List Nat}(hMO:∀ {V V' f},MO V f→V <+: V'→MO V' f)(h:PSt ek MO U pb sb mo mc ms mn W V BV M I f)(hL:RowC V L cs)(hR:RowC V R ds)(hc:mkC cs ds∈U)
  (p:PoolS M' I' W' pb (za4 V BV L R).1 (za4 V BV L R).2.1 mo mc ms mn) (hM:∀q,M' q→M q∨W.heap.size≤q) (hI:∀q,I' q→I q∨W.heap.size≤q) (hf:Fr M W W') :
  PSt ek MO U pb sb mo mc ms mn W' (za4 V BV L R).1 (za4 V BV L R).2.1 (fun q=>M' q/\q<W'.heap.size) (fun q=>I' q/\q<W'.heap.size) f ∧
   PNx sb W V M I W' (za4 V BV L R).1 (fun q=>M' q/\q<W'.heap.size) (fun q=>I' q/\q<W'.heap.size)/\(za4 V BV L R).2.2<(za4 V BV L R).1.length/\(za0 (za4 V BV L R).1).getD (za4 V BV L R).2.2 0=mkC cs ds:=by
 obtain⟨q1,q2,q3,q4⟩:=zer h.ok hL hR;have hsb:=h.map.lt;exact⟨⟨p.low,q1,zgg h.inU (by rw[q4];exact hc),h.map.fr hf (fun e=>(h.mlt sb e).2 rfl),hMO h.memo q2,fun q hq=>⟨hq.2,fun e=>by
   rcases hM q hq.1 with h1|h1
   ·exact(h.mlt q h1).2 e
   ·omega⟩,fun q hq=>⟨hq.2,fun e=>by
   rcases hI q hq.1 with h1|h1
   ·exact(h.ilt q h1).2 e
   ·omega⟩⟩,⟨q2,fun q hq=>hM q hq.1,fun q hq=>hI q hq.1,hf.mono (fun _ _ q=>.inl q)⟩,q3,q4⟩
theorem PSt.store (h:PSt ek MO U pb sb mo mc ms mn W V BV M I f)(hf:Fr (fun q=>q=sb) W W')(hm:MapF ek encN W' sb f')(ho:MO V f'):PSt ek MO U pb sb mo mc ms mn W' V BV M I f'∧PNx sb W V M I W' V M I :=
 ⟨⟨h.pool.fr hf (fun q hq e=>(h.mlt q hq).2 e) (fun q hq e=>(h.ilt q hq).2 e),h.ok,h.inU,hm,ho,fun q hq=>⟨Nat.lt_of_lt_of_le (h.mlt q hq).1 hf.size,(h.mlt q hq).2⟩,fun q hq=>⟨Nat.lt_of_lt_of_le (h.ilt q hq).1 hf.size,(h.ilt q hq).2⟩⟩,
  ⟨List.prefix_refl _,fun _ h=>.inl h,fun _ h=>.inl h,hf.mono (fun _ _ q=>.inr q)⟩⟩
end
structure SumSt {κ:Type}(ek:κ→Value) (MO:List PL→(κ→Option Nat)→Prop) (U:List Nat) (pb sb:Nat) (mo mc ms mn:Value) (w0:World) (V0:List PL) (M0 I0:Nat→Prop) (TL TR:List Nat)
  (W:World) (lv rv va:Value) (i j:Nat) (la:List Nat) (V:List PL) (BV:List Nat) (M I:Nat→Prop) (f:κ→Option Nat) (L R:List Nat):Prop where
 st:PSt ek MO U pb sb mo mc ms mn W V BV M I f
 nx:PNx sb w0 V0 M0 I0 W V M I
 rl:NRow w0.heap.size W lv L
 rr:NRow w0.heap.size W rv R
 cl:RowC V L (TL.take i)
 cr:RowC V R (TR.take j)
 sl:∀q,lv.ownBlock=some q→¬M q/\¬I q/\q≠sb/\rv.ownBlock≠some q
 sr:∀q,rv.ownBlock=some q→¬M q/\¬I q/\q≠sb
 src:Nats W va la
 ss:la≠[]→∀q,va.ownBlock=some q→¬M q/\q≠sb/\lv.ownBlock≠some q/\rv.ownBlock≠some q
section
variable {κ:Type}{ek:κ→Value}{MO:List PL→(κ→Option Nat)→Prop}{U:List Nat}{pb sb:Nat}{mo mc ms mn:Value}{w0 W W' Wa:World}{V0 V V':List PL}{BV BV' TL TR la L R:List Nat}{M0 I0 M I M' I':Nat→Prop}{f f':κ→Option Nat}{lv rv va v':Value}{i j x c:Nat}
theorem SumSt.call (h:SumSt ek MO U pb sb mo mc ms mn w0 V0 M0 I0 TL TR W lv rv va i j la V BV M I f L R)(st:PSt ek MO U pb sb mo mc ms mn W' V' BV' M' I' f')(nx:PNx sb W V M I W' V' M' I') :
  SumSt ek MO U pb sb mo mc ms mn w0 V0 M0 I0 TL TR W' lv rv va i j la V' BV' M' I' f' L R:=by
 have kM:∀q,q<W.heap.size→¬M q→¬M' q:=fun q hq hm e=>(nx.mM q e).elim hm (fun z=>by omega)
 have kI:∀q,q<W.heap.size→¬I q→¬I' q:=fun q hq hm e=>(nx.mI q e).elim hm (fun z=>by omega)
 refine⟨st,h.nx.trans nx,h.rl.fr nx.fr (fun q hq e=>e.elim (h.sl q hq).1 (h.sl q hq).2.2.1),h.rr.fr nx.fr (fun q hq e=>e.elim (h.sr q hq).1 (h.sr q hq).2.2),h.cl.mono nx.pre,h.cr.mono nx.pre,fun q hq=>?_,fun q hq=>?_,h.src.fr nx.fr (fun hne q hq e=>e.elim (h.ss hne q hq).1 (h.ss hne q hq).2.1),fun hne q hq=>?_⟩
 ·have hl:=(h.rl.own.lt q hq).2
  obtain⟨a,b,c,d⟩:=h.sl q hq;exact⟨kM q hl a,kI q hl b,c,d⟩
 ·have hl:=(h.rr.own.lt q hq).2
  obtain⟨a,b,c⟩:=h.sr q hq;exact⟨kM q hl a,kI q hl b,c⟩
 ·obtain⟨b,hb,hl⟩:=h.src.block hne
  rw[hq]at hb;cases hb
  obtain⟨a,b,c,d⟩:=h.ss hne q hq;exact⟨kM q hl a,b,c,d⟩
theorem SumSt.fr0 (h:SumSt ek MO U pb sb mo mc ms mn w0 V0 M0 I0 TL TR W lv rv va i j la V BV M I f L R)(hf:Fr NoM W W'):SumSt ek MO U pb sb mo mc ms mn w0 V0 M0 I0 TL TR W' lv rv va i j la V BV M I f L R :=
 h.call (h.st.fr0 hf) (PNx.of0 hf)
theorem SumSt.pushL (h:SumSt ek MO U pb sb mo mc ms mn w0 V0 M0 I0 TL TR W lv rv va i j la V BV M I f L R)(ha:Fr NoM W Wa)(ho:W'.ownsRow w0.heap.size 3 1 v' (L.length+1) (L.map encN ++ [encN x]))(hf:Fr (Own1 lv) Wa W')
  (hq:v'.ownBlock=lv.ownBlock∨∃b,v'.ownBlock=some b/\Wa.heap.size≤b) (hi:TL[i]?=some c) (hx:x<V.length) (hc:(za0 V).getD x 0=c) :
  SumSt ek MO U pb sb mo mc ms mn w0 V0 M0 I0 TL TR W' v' rv va (i+1) j la V BV M I f (L ++ [x]) R:=by
 have h:=h.fr0 ha;have nw:∀q,v'.ownBlock=some q→lv.ownBlock=some q∨Wa.heap.size≤q:=fun q e=>by
  rcases hq with h1|⟨b,h1,h2⟩
  ·exact .inl (h1 ▸ e)
  ·rw[h1]at e;cases e;exact .inr h2
 refine⟨h.st.fr hf (fun q hq'=>⟨(h.sl q hq').1,(h.sl q hq').2.1,(h.sl q hq').2.2.1⟩),h.nx.own hf (fun q hq'=>(h.rl.own.lt q hq').1),NRow.snoc ho,h.rr.fr hf (fun q hq' e=>(h.sl q e).2.2.2 hq'),h.cl.next hi hx hc,h.cr,fun q e=>?_,h.sr,h.src.fr hf (fun hne q hq' e=>(h.ss hne q hq').2.2.1 e),fun hne q hq'=>?_⟩
 ·rcases nw q e with e'|e'
  ·exact h.sl q e'
  ·refine⟨fun z=>?_,fun z=>?_,fun z=>?_,fun z=>?_⟩
   ·have:=(h.st.mlt q z).1;omega
   ·have:=(h.st.ilt q z).1;omega
   ·have:=h.st.map.lt;omega
   ·have:=(h.rr.own.lt q z).2;omega
 ·obtain⟨a,b,c,d⟩:=h.ss hne q hq'
  refine⟨a,b,fun e=>?_,d⟩;rcases nw q e with e'|e'
  ·exact c e'
  ·obtain⟨b',hb,hl⟩:=h.src.block hne
   rw[hq']at hb;cases hb;omega
theorem SumSt.pushR (h:SumSt ek MO U pb sb mo mc ms mn w0 V0 M0 I0 TL TR W lv rv va i j la V BV M I f L R)(ha:Fr NoM W Wa)(ho:W'.ownsRow w0.heap.size 3 1 v' (R.length+1) (R.map encN ++ [encN x]))(hf:Fr (Own1 rv) Wa W')
  (hq:v'.ownBlock=rv.ownBlock∨∃b,v'.ownBlock=some b/\Wa.heap.size≤b) (hi:TR[j]?=some c) (hx:x<V.length) (hc:(za0 V).getD x 0=c) :
  SumSt ek MO U pb sb mo mc ms mn w0 V0 M0 I0 TL TR W' lv v' va i (j+1) la V BV M I f L (R ++ [x]):=by
 have h:=h.fr0 ha;have nw:∀q,v'.ownBlock=some q→rv.ownBlock=some q∨Wa.heap.size≤q:=fun q e=>by
  rcases hq with h1|⟨b,h1,h2⟩
  ·exact .inl (h1 ▸ e)
  ·rw[h1]at e;cases e;exact .inr h2
 refine⟨h.st.fr hf (fun q hq'=>⟨(h.sr q hq').1,(h.sr q hq').2.1,(h.sr q hq').2.2⟩),h.nx.own hf (fun q hq'=>(h.rr.own.lt q hq').1),h.rl.fr hf (fun q hq' e=>(h.sl q hq').2.2.2 e),NRow.snoc ho,h.cl,h.cr.next hi hx hc,fun q e=>?_,fun q e=>?_,h.src.fr hf (fun hne q hq' e=>(h.ss hne q hq').2.2.2 e),fun hne q hq'=>?_⟩
 ·obtain⟨a,b,c,d⟩:=h.sl q e
  refine⟨a,b,c,fun z=>?_⟩;rcases nw q z with z|z
  ·exact d z
  ·have:=(h.rl.own.lt q e).2;omega
 ·rcases nw q e with e'|e'
  ·exact h.sr q e'
  ·refine⟨fun z=>?_,fun z=>?_,fun z=>?_⟩
   ·have:=(h.st.mlt q z).1;omega
   ·have:=(h.st.ilt q z).1;omega
   ·have:=h.st.map.lt;omega
 ·obtain⟨a,b,c,d⟩:=h.ss hne q hq'
  refine⟨a,b,c,fun e=>?_⟩;rcases nw q e with e'|e'
  ·exact d e'
  ·obtain⟨b',hb,hl⟩:=h.src.block hne
   rw[hq']at hb;cases hb;omega
theorem SumSt.look {va':Value}{la':List Nat}(h:SumSt ek MO U pb sb mo mc ms mn w0 V0 M0 I0 TL TR W lv rv va i j la V BV M I f L R)(hn:Nats W va' la')(hI:la'≠[]→∀q,va'.ownBlock=some q→I q) :
  SumSt ek MO U pb sb mo mc ms mn w0 V0 M0 I0 TL TR W lv rv va' i j la' V BV M I f L R :=
 ⟨h.st,h.nx,h.rl,h.rr,h.cl,h.cr,h.sl,h.sr,hn,fun hne q hq=>⟨fun e=>h.st.pool.sep q e (hI hne q hq),(h.st.ilt q (hI hne q hq)).2,fun e=>(h.sl q e).2.1 (hI hne q hq),fun e=>(h.sr q e).2.1 (hI hne q hq)⟩⟩
theorem SumSt.start {g1 g2:Nat}(h:PSt ek MO U pb sb mo mc ms mn w0 V0 BV M0 I0 f)(hf:Fr NoM w0 W)(r1:NRow w0.heap.size W (.slice (some ⟨g1,0,none⟩) 0 0) [])(r2:NRow w0.heap.size W (.slice (some ⟨g2,0,none⟩) 0 0) [])(h1:w0.heap.size≤g1)(h2:w0.heap.size≤g2)(h12:g1≠g2)(va:Value)(la:List Nat)
  (hn:Nats W va la) (hI:la≠[]→∀q,va.ownBlock=some q→I0 q) :
  SumSt ek MO U pb sb mo mc ms mn w0 V0 M0 I0 TL TR W (.slice (some ⟨g1,0,none⟩) 0 0) (.slice (some ⟨g2,0,none⟩) 0 0) va 0 0 la V0 BV M0 I0 f [] []:=by
 have hs:=h.map.lt;have base:SumSt ek MO U pb sb mo mc ms mn w0 V0 M0 I0 TL TR W (.slice (some ⟨g1,0,none⟩) 0 0) (.slice (some ⟨g2,0,none⟩) 0 0) (.slice none 0 0) 0 0 [] V0 BV M0 I0 f [] []:=by
  refine⟨h.fr0 hf,PNx.of0 hf,r1,r2,RowC.nil _,RowC.nil _,fun q hq=>?_,fun q hq=>?_,SliceOf.nil _ _,fun hne=>absurd rfl hne⟩
  ·have e:g1=q:=Option.some.inj hq
   subst e;refine⟨fun z=>?_,fun z=>?_,fun z=>?_,fun z=>h12 (Option.some.inj z).symm⟩
   ·have:=(h.mlt _ z).1;omega
   ·have:=(h.ilt _ z).1;omega
   ·omega
  ·have e:g2=q:=Option.some.inj hq
   subst e;refine⟨fun z=>?_,fun z=>?_,fun z=>?_⟩
   ·have:=(h.mlt _ z).1;omega
   ·have:=(h.ilt _ z).1;omega
   ·omega
 exact base.look hn hI
end
def NegMO (V:List PL)(f:Nat→Option Nat):Prop:=∀k i,f k=some i→k<V.length/\i<V.length/\(za0 V).getD i 0=negC ((za0 V).getD k 0)
theorem NegMO.mono {V V':List PL}{f:Nat→Option Nat}(h:NegMO V f)(hp:V <+: V'):NegMO V' f:=fun k i e=>by
 obtain⟨a,b,c⟩:=h k i e;have:=hp.length_le;exact⟨by omega,by omega,by rw[zak hp b,zak hp a];exact c⟩
theorem NegMO.upd {V:List PL}{f:Nat→Option Nat}{x i:Nat}(h:NegMO V f)(hx:x<V.length)(hi:i<V.length)(hc:(za0 V).getD i 0=negC ((za0 V).getD x 0)):NegMO V (upd f x i):=fun k j e=>by
 unfold Go.Proofs.YtghekfmfonoocaaGreatDoor.upd at e;split at e
 ·rename_i ek;subst ek;cases e;exact⟨hx,hi,hc⟩
 ·exact h k j e
theorem NegMO.none (V:List PL):NegMO V (fun _=>none):=fun _ _ h=>by cases h
def nTL (C:List Nat)(X:PL):List Nat:=(za1 C X.2).map negC
def nTR (C:List Nat)(X:PL):List Nat:=(za1 C X.1).map negC
theorem zsa (C:List Nat)(X:PL):(nTL C X).length=X.2.length:=by simp[nTL,za1]
theorem zs9 (C:List Nat)(X:PL):(nTR C X).length=X.1.length:=by simp[nTR,za1]
def NegPost (U:List Nat)(pb sb:Nat)(mo mc ms:Value)(w:World)(V:List PL)(M I:Nat→Prop)(c:Nat)(e:Ending)(w':World):Prop :=
 ∃(i:Nat) (V':List PL) (BV':List Nat) (M' I':Nat→Prop) (f':Nat→Option Nat),e=.returned (.int .i64 (i:Int)) ∧
   PSt encN NegMO U pb sb mo mc ms (.map (some sb)) w' V' BV' M' I' f'∧PNx sb w V M I w' V' M' I'∧i<V'.length/\(za0 V').getD i 0=c
def yfb (U:List Nat)(pb sb:Nat)(mo mc ms:Value)(x:Nat):Prop:=∀(V:List PL) (BV:List Nat) (M I:Nat→Prop) (f:Nat→Option Nat) (w:World),PSt encN NegMO U pb sb mo mc ms (.map (some sb)) w V BV M I f→x<V.length →
  (∀a,SubC ((za0 V).getD x 0) a→negC a∈U) →
  Calls Tryz.prog 109 #[.pointer (some ⟨pb,0,none⟩),.int .i64 (x:Int)] w fun e w'=>NegPost U pb sb mo mc ms w V M I (negC ((za0 V).getD x 0)) e w'
set_option maxRecDepth 8000 in
set_option maxHeartbeats 16000000 in
theorem ydx {U:List Nat}(hUl:U.length<1000000)(pb sb:Nat)(mo mc ms:Value):∀n x,x<n→yfb U pb sb mo mc ms x:=by
 intro n;induction n with
 | zero=>intro x h;omega
 | succ n ih =>
  intro x hn V BV M I f w1 hst hx hU;have hVl:=hst.len;have HIh:=Hh ih;have HSt:=Hh hst;obtain⟨X,hX⟩:∃X,X=za6 V x:=⟨_,rfl⟩;obtain⟨C,hC⟩:∃C,C=za0 V:=⟨_,rfl⟩;obtain⟨cx,hcx⟩:∃cx,cx=C.getD x 0:=⟨_,rfl⟩;have kX:=hst.ok.book.code x _ (za7 hx);obtain⟨u1,u2⟩:=hst.ok.opts x _ (za7 hx);obtain⟨z1,z2⟩:=hst.ok.lens (n:=V.length+1) (Nat.lt_succ_self _) _ (List.mem_of_getElem? (za7 hx));rw[←hX,←hC]at kX;rw[←hcx]at kX;rw[←hX]at u1 u2 z1 z2;rw[←hC,←hcx]at hU ⊢;have HU:=Hh hU;have HKX:=Hh kX;have HU1:=Hh u1;have HU2:=Hh u2;have HZ:=Hh (show V.length<1000000/\X.1.length≤V.length/\X.2.length≤V.length from⟨by omega,by omega,by omega⟩);have HX:=Hh hx;have Hn:=Hh hn;have HXe:=Hh hX;have HCe:=Hh hC;have HCx:=Hh hcx;have HUl:=Hh hUl;have HTo:=Hh (fun(V1:List PL) (hp:V <+: V1)=>(⟨hp.length_le,fun j hj=>by rw[hC];exact zak hp hj⟩:V.length≤V1.length/\∀j,j<V.length→(za0 V1).getD j 0=C.getD j 0));have HNo:=Hh (fun(V1:List PL) (hp:V <+: V1)=>(by rw[hX];exact zcu hp hx:za6 V1 x=X));have HSx:=Hh (fun l (hl:l∈X.1∨l∈X.2) a (ha:SubC (C.getD l 0) a)=>show negC a∈U from hU a ((SubC.root.step (show optC cx (C.getD l 0)from by
   rw[kX];exact hl.imp (fun h=>(zab _ _ _).2 (za8.2 ⟨l,h,rfl⟩)) (fun h=>(zad _ _ _).2 (za8.2 ⟨l,h,rfl⟩)))).trans ha))
  clear hst hU kX u1 u2 z1 z2 hx hn hX hC hcx hUl hVl ih;have hlook:(Instr.lookup 128 (.map (some sb)) (.int .i64 (x:Int)) true).run Tryz.prog w1=.ok (.tuple #[((f x).map encN).getD (.int .i64 0),.bool (f x).isSome]) w1 :=
   MapF.look (w:=w1) HSt.out.map (KeyAt.nat Tryz.underlying3) Tryz.underlying128 (Tryz.zeroValue3 _) x true
  obtain⟨_,_,_,_,_,_,_,_,_,p7,_⟩:=HSt.out.pool.rd;cases hfx:f x with
  | some a =>
   rw[hfx]at hlook;have hlook:(Instr.lookup 128 (.map (some sb)) (.int .i64 (x:Int)) true).run Tryz.prog w1=.ok (.tuple #[.int .i64 (a:Int),.bool true]) w1:=hlook;have ha:=HSt.out.memo _ _ hfx;have HA:=Hh ha;clear hfx ha;go_enter Tryz.func109,Tryz.ntmps109;go_wp2_with fail;go_ret;exact⟨a,V,BV,M,I,f,rfl,HSt.out,PNx.refl _ _ _ _ _,HA.out.2.1,by rw[HA.out.2.2,HCx.out,HCe.out]⟩
  | none =>
   rw[hfx]at hlook;have hlook:(Instr.lookup 128 (.map (some sb)) (.int .i64 (x:Int)) true).run Tryz.prog w1=.ok (.tuple #[.int .i64 0,.bool false]) w1:=hlook;clear hfx;go_enter Tryz.func109,Tryz.ntmps109;go_upto_region 5 with fail;obtain⟨w3,hw3⟩:∃w3,w3=(w1.alloc (.cells #[] 3)).alloc (.cells #[] 3):=⟨_,rfl⟩;have hf3:Fr NoM w1 w3:=by rw[hw3];exact((Fr.refl NoM w1).alloc _).alloc _
   have r1:NRow w1.heap.size w3 (.slice (some ⟨w1.heap.size,0,none⟩) 0 0) []:=by
    rw[hw3];exact(NRow.made w1).fr ((Fr.refl NoM _).alloc (.cells #[] 3)) (fun _ _ q=>q)
   have r2:NRow w1.heap.size w3 (.slice (some ⟨w1.heap.size+1,0,none⟩) 0 0) []:=by
    rw[hw3];have h:=NRow.made (w1.alloc (.cells #[] 3));rw[World.size_alloc]at h;exact⟨zb3 h.own (by omega),h.shape⟩
   rw[←hw3];have HA0:=Hh (SumSt.start (TL:=nTL C X) (TR:=nTR C X) HSt.out hf3 r1 r2 (Nat.le_refl _) (by omega) (by omega) (.slice none 0 0) [] (SliceOf.nil _ _) (fun h=>absurd rfl h));clear hw3 hf3 r1 r2 HSt hlook p7;obtain⟨q1,hq1⟩:∃q1,q1=Value.slice (some ⟨w1.heap.size,0,none⟩) 0 0:=⟨_,rfl⟩;obtain⟨q2,hq2⟩:∃q2,q2=Value.slice (some ⟨w1.heap.size+1,0,none⟩) 0 0:=⟨_,rfl⟩;rw[←hq1,←hq2]at HA0 ⊢;clear hq1 hq2;obtain⟨pl1,plc1,pr1,prc1,p0,p1,_,_,_,_,hls,hrs⟩:=HA0.out.st.pool.rd;have hle:=(HTo.out V HA0.out.nx.pre).1;have hpV:x<V.length:=by have:=HX.out;omega
   obtain⟨gb1,go1,gv1,rfl,c4,n4,i4⟩:=hrs x hpV;rw[HNo.out V HA0.out.nx.pre]at n4 i4;have ix4:=zc5 (some ⟨gb1,go1,none⟩) V.length prc1 x gb1 go1 hpV rfl;obtain⟨ua1,uc1,rfl,zz⟩:=id n4;clear zz;have HB1:=Hh (HA0.out.look n4 i4);have hz9:X.2.length≤9223372036854775807:=by have:=HZ.out;omega
   clear hls hrs n4 i4 hle hpV;go_wp2_with fail;clear p0 p1 c4 ix4;go_loopw [7,35] (fun v5 t W=>∃(k:Nat) (v:Value) (V1:List PL) (B1:List Nat) (M1 I1:Nat→Prop) (f1:Nat→Option Nat) (L1:List Nat),v=v5/\t=.int .i64 k/\k≤X.2.length/\SumSt encN NegMO U pb sb mo mc ms (.map (some sb)) w1 V M I (nTL C X) (nTR C X) W v q2 (.slice ua1 X.2.length uc1) (k) 0 X.2 V1 B1 M1 I1 f1 L1 []) (fun _ t _=>X.2.length-(intOf t).toNat)
   case atStart=>exact⟨0,_,V,BV,M,I,f,[],rfl,rfl,Nat.zero_le _,HB1.out⟩
   case round =>
    obtain⟨k,va1,Va1,Ba1,Ma1,Ia1,fa1,La1,rfl,rfl,hk,hs⟩:=hrel;obtain⟨wa1,rfl⟩:∃w7,w7=wr:=⟨_,rfl⟩;have HS:=Hh hs;by_cases hkl:k<X.2.length
    ·obtain⟨l,hl⟩:∃l,X.2[k]?=some l:=⟨_,List.getElem?_eq_getElem hkl⟩
     have hlx:=HU2.out l (List.mem_of_getElem? hl);obtain⟨hle,hco⟩:=HTo.out Va1 hs.nx.pre;obtain⟨_,_,ee,_,_,hcc⟩:=id hs.src;cases ee
     obtain⟨b3,o3,ha3,c3⟩:=hcc k l hl;unfold encN at c3;have ix3:=zaa ua1 X.2.length uc1 k b3 o3 hkl ha3;have hX0:=HX.out;have hn0:=Hn.out;have e1:(za0 Va1).getD l 0=C.getD l 0:=hco l (by omega);have hcall:=HIh.out l (by omega) Va1 Ba1 Ma1 Ia1 fa1 wa1 hs.st (by omega) (by rw[e1];exact HSx.out l (.inr (List.mem_of_getElem? hl)));rw[e1]at hcall;have HC:=Hh hcall;have HL:=Hh hl;clear hl hcc ha3 hs hcall e1 hco hle hX0 hn0;go_wp2_with fail;refine HC.out.mono ?_
     rintro e w8 ⟨i,V2,B2,M2,I2,f2,rfl,st2,nx2,hi2,hc2⟩;have HS8:=Hh (HS.out.call st2 nx2);have HI2:=Hh hi2;have HC2:=Hh hc2;clear st2 nx2 hi2 hc2 c3 ix3;go_wp2_with (at_builtin;refine zag (enc:=encN) _ rfl (.tmp 39) (.tmp 43) 82 rfl w1.heap.size 3 (.int .i64 0) 8 Tryz.underlying82 za9 rfl va1 La1.length (La1.map encN) rfl (HS8.out.fr0 ((Fr.refl NoM w8).alloc _)).rl.own (.slice (some ⟨w8.heap.size,0,none⟩) 1 1) rfl [i] (SliceOf.one encN w8 i 3) (fun _=>rfl) (by have h1:=HS8.out.cl.len;have h2:=HZ.out;rw[List.length_take,zsa]at h1;simp only[List.length_singleton];omega) (by decide) (by have:=HS8.out.nx.fr.size;rw[World.size_alloc];omega) ?_);intro v9 w9 h9 f9 q9;have HS9:=Hh (HS8.out.pushL ((Fr.refl NoM w8).alloc _) h9 f9 (by rw[World.size_alloc];exact q9) (ycv HL.out) HI2.out HC2.out);clear h9 f9 q9;go_wp2;go_roundw
     case rel=>exact⟨k+1,v9,V2,B2,M2,I2,f2,La1 ++ [i],rfl,by go_num,by omega,HS9.out⟩
     case measure=>simp[intOf];omega
    ·obtain rfl:k=X.2.length:=by omega
     have HA1:=HS;clear hs HS hk hkl HB1;obtain⟨pl2,plc2,pr2,prc2,p0,p1,_,_,_,_,hls,hrs⟩:=HA1.out.st.pool.rd;have hle:=(HTo.out Va1 HA1.out.nx.pre).1;have hpV:x<Va1.length:=by have:=HX.out;omega
     obtain⟨gb2,go2,gv2,rfl,c4,n4,i4⟩:=hls x hpV;rw[HNo.out Va1 HA1.out.nx.pre]at n4 i4;have ix4:=zc5 (some ⟨gb2,go2,none⟩) Va1.length plc2 x gb2 go2 hpV rfl;obtain⟨ua2,uc2,rfl,zz⟩:=id n4;clear zz;have HB2:=Hh (HA1.out.look n4 i4);have hz9:X.1.length≤9223372036854775807:=by have:=HZ.out;omega
     clear hls hrs n4 i4 hle hpV;go_wp2_with fail;clear p0 p1 c4 ix4;go_loopw [8,54] (fun v5 t W=>∃(k:Nat) (v:Value) (V1:List PL) (B1:List Nat) (M1 I1:Nat→Prop) (f1:Nat→Option Nat) (L1:List Nat),v=v5/\t=.int .i64 k/\k≤X.1.length/\SumSt encN NegMO U pb sb mo mc ms (.map (some sb)) w1 V M I (nTL C X) (nTR C X) W va1 v (.slice ua2 X.1.length uc2) X.2.length (k) X.1 V1 B1 M1 I1 f1 La1 L1) (fun _ t _=>X.1.length-(intOf t).toNat)
     case atStart=>exact⟨0,_,Va1,Ba1,Ma1,Ia1,fa1,[],rfl,rfl,Nat.zero_le _,HB2.out⟩
     case round =>
      obtain⟨k,va2,Va2,Ba2,Ma2,Ia2,fa2,Ra2,rfl,rfl,hk,hs⟩:=hrel;obtain⟨wa2,rfl⟩:∃w7,w7=wr:=⟨_,rfl⟩;have HS:=Hh hs;by_cases hkl:k<X.1.length
      ·obtain⟨l,hl⟩:∃l,X.1[k]?=some l:=⟨_,List.getElem?_eq_getElem hkl⟩
       have hlx:=HU1.out l (List.mem_of_getElem? hl);obtain⟨hle,hco⟩:=HTo.out Va2 hs.nx.pre;obtain⟨_,_,ee,_,_,hcc⟩:=id hs.src;cases ee
       obtain⟨b3,o3,ha3,c3⟩:=hcc k l hl;unfold encN at c3;have ix3:=zaa ua2 X.1.length uc2 k b3 o3 hkl ha3;have hX0:=HX.out;have hn0:=Hn.out;have e1:(za0 Va2).getD l 0=C.getD l 0:=hco l (by omega);have hcall:=HIh.out l (by omega) Va2 Ba2 Ma2 Ia2 fa2 wa2 hs.st (by omega) (by rw[e1];exact HSx.out l (.inl (List.mem_of_getElem? hl)));rw[e1]at hcall;have HC:=Hh hcall;have HL:=Hh hl;clear hl hcc ha3 hs hcall e1 hco hle hX0 hn0;go_wp2_with fail;refine HC.out.mono ?_
       rintro e w8 ⟨i,V2,B2,M2,I2,f2,rfl,st2,nx2,hi2,hc2⟩;have HS8:=Hh (HS.out.call st2 nx2);have HI2:=Hh hi2;have HC2:=Hh hc2;clear st2 nx2 hi2 hc2 c3 ix3;go_wp2_with (at_builtin;refine zag (enc:=encN) _ rfl (.tmp 58) (.tmp 62) 82 rfl w1.heap.size 3 (.int .i64 0) 8 Tryz.underlying82 za9 rfl va2 Ra2.length (Ra2.map encN) rfl (HS8.out.fr0 ((Fr.refl NoM w8).alloc _)).rr.own (.slice (some ⟨w8.heap.size,0,none⟩) 1 1) rfl [i] (SliceOf.one encN w8 i 3) (fun _=>rfl) (by have h1:=HS8.out.cr.len;have h2:=HZ.out;rw[List.length_take,zs9]at h1;simp only[List.length_singleton];omega) (by decide) (by have:=HS8.out.nx.fr.size;rw[World.size_alloc];omega) ?_);intro v9 w9 h9 f9 q9;have HS9:=Hh (HS8.out.pushR ((Fr.refl NoM w8).alloc _) h9 f9 (by rw[World.size_alloc];exact q9) (ycv HL.out) HI2.out HC2.out);clear h9 f9 q9;go_wp2;go_roundw
       case rel=>exact⟨k+1,v9,V2,B2,M2,I2,f2,Ra2 ++ [i],rfl,by go_num,by omega,HS9.out⟩
       case measure=>simp[intOf];omega
      ·obtain rfl:k=X.1.length:=by omega
       have HA2:=HS;clear hs HS hk hkl HB2;obtain⟨lb,lc,hlb⟩:=HA2.out.rl.shape;obtain⟨rb,rc,hrb⟩:=HA2.out.rr.shape;subst hlb;subst hrb;have hcl:=HA2.out.cl;rw[List.take_of_length_le (by rw[zsa];exact Nat.le_refl _)]at hcl;have hcr:=HA2.out.cr;rw[List.take_of_length_le (by rw[zs9];exact Nat.le_refl _)]at hcr;have hmk:mkC (nTL C X) (nTR C X)=negC cx:=yd1 HKX.out;have hlen:=HA2.out.st.len;have hul:=HUl.out;have hz:=HZ.out;have l1:=hcl.len;have l2:=hcr.len;rw[zsa]at l1;rw[zs9]at l2;have hnd:=zkn pb Va2 Ba2 La1 Ra2 mo mc ms (.map (some sb)) lb 0 lc rb 0 rc wa2 HA2.out.st.pool HA2.out.rl.nats HA2.out.rr.nats hcl.1 hcr.1 (by omega) (by omega) (by omega) (fun q hq=>by have:=(zf5 HA2.out.st.ok).lt Va2.length (Nat.le_refl _) q hq;omega);have hin:mkC (nTL C X) (nTR C X)∈U:=by rw[hmk];exact HU.out cx .root
       have HND:=Hh hnd;have HCL:=Hh hcl;have HCR:=Hh hcr;have HMk:=Hh hmk;have HIn:=Hh hin;clear hcl hcr hmk hlen hul hz l1 l2 hnd hin;go_wp2_with fail;refine HND.out.mono ?_
       rintro e w5 ⟨rfl,M5,I5,p5,hM5,hI5,f5⟩;obtain⟨st5,nx5,hr5,hc5⟩:=HA2.out.st.node (fun h hp=>h.mono hp) HCL.out HCR.out HIn.out p5 hM5 hI5 f5;rw[HMk.out]at hc5;have nx15:=HA2.out.nx.trans nx5;obtain⟨V5,hV5⟩:∃V5,V5=(za4 Va2 Ba2 La1 Ra2).1:=⟨_,rfl⟩;obtain⟨B5,hB5⟩:∃B5,B5=(za4 Va2 Ba2 La1 Ra2).2.1:=⟨_,rfl⟩;obtain⟨r5,hr5e⟩:∃r5,r5=(za4 Va2 Ba2 La1 Ra2).2.2:=⟨_,rfl⟩;rw[←hV5,←hB5]at st5;rw[←hV5]at nx15 hr5 hc5;rw[←hr5e]at hr5 hc5 ⊢;obtain⟨_,_,_,_,_,_,_,_,_,p7,_⟩:=st5.pool.rd;obtain⟨hle5,hco5⟩:=HTo.out V5 nx15.pre;have hX0:=HX.out;obtain⟨w9,hrun,hm9,hf9⟩:=MapF.store (P:=Tryz.prog) (w:=w5) st5.map (KeyAt.nat Tryz.underlying3) Tryz.underlying128 x r5;have hrun:(Instr.mapUpdate 128 (.map (some sb)) (.int .i64 (x:Int)) (.int .i64 (r5:Int))).run Tryz.prog w5=.ok () w9:=hrun;obtain⟨st9,nx9⟩:=st5.store hf9 hm9 (st5.memo.upd (show x<V5.length from by omega) hr5 (by rw[hc5,hco5 x hX0,HCx.out]));have HEnd:=Hh (And.intro st9 (And.intro (nx15.trans nx9) (And.intro hr5 hc5)));clear st9 nx9 hr5 hc5 hm9 hf9 hle5 hco5 hX0 nx15 st5 nx5 p5 hM5 hI5 f5 hV5 hB5 hr5e;go_wp2_with fail;go_ret;exact⟨r5,V5,B5,_,_,_,rfl,HEnd.out.1,HEnd.out.2.1,HEnd.out.2.2.1,HEnd.out.2.2.2⟩
def SumMO (V:List PL)(f:Nat × Nat→Option Nat):Prop:=∀k i,f k=some i→k.1<V.length/\k.2<V.length/\i<V.length/\(za0 V).getD i 0=sumC ((za0 V).getD k.1 0) ((za0 V).getD k.2 0)
theorem SumMO.mono {V V':List PL}{f:Nat × Nat→Option Nat}(h:SumMO V f)(hp:V <+: V'):SumMO V' f:=fun k i e=>by
 obtain⟨a,b,c,d⟩:=h k i e;have:=hp.length_le;exact⟨by omega,by omega,by omega,by rw[zak hp c,zak hp a,zak hp b];exact d⟩
theorem SumMO.upd {V:List PL}{f:Nat × Nat→Option Nat}{x y i:Nat}(h:SumMO V f)(hx:x<V.length)(hy:y<V.length)(hi:i<V.length)(hc:(za0 V).getD i 0=sumC ((za0 V).getD x 0) ((za0 V).getD y 0)):SumMO V (upd f (x,y) i):=fun k j e=>by
 unfold Go.Proofs.YtghekfmfonoocaaGreatDoor.upd at e;split at e
 ·rename_i ek;subst ek;cases e;exact⟨hx,hy,hi,hc⟩
 ·exact h k j e
theorem SumMO.none (V:List PL):SumMO V (fun _=>none):=fun _ _ h=>by cases h
def sTL (C:List Nat)(X Y:PL)(cx cy:Nat):List Nat:=(za1 C X.1).map (fun l=>sumC l cy)++(za1 C Y.1).map fun l=>sumC cx l
def sTR (C:List Nat)(X Y:PL)(cx cy:Nat):List Nat:=(za1 C X.2).map (fun l=>sumC l cy)++(za1 C Y.2).map fun l=>sumC cx l
theorem zoe (C:List Nat)(X Y:PL)(cx cy:Nat):(sTL C X Y cx cy).length=X.1.length+Y.1.length:=by simp[sTL,za1]
theorem zod (C:List Nat)(X Y:PL)(cx cy:Nat):(sTR C X Y cx cy).length=X.2.length+Y.2.length:=by simp[sTR,za1]
def yae (U:List Nat)(pb sb:Nat)(mo mc mn:Value)(w:World)(V:List PL)(M I:Nat→Prop)(c:Nat)(e:Ending)(w':World):Prop :=
 ∃(i:Nat) (V':List PL) (BV':List Nat) (M' I':Nat→Prop) (f':Nat × Nat→Option Nat),e=.returned (.int .i64 (i:Int)) ∧
   PSt encP SumMO U pb sb mo mc (.map (some sb)) mn w' V' BV' M' I' f'∧PNx sb w V M I w' V' M' I'∧i<V'.length/\(za0 V').getD i 0=c
def yf8 (U:List Nat)(pb sb:Nat)(mo mc mn:Value)(x y:Nat):Prop:=∀(V:List PL) (BV:List Nat) (M I:Nat→Prop) (f:Nat × Nat→Option Nat) (w:World),PSt encP SumMO U pb sb mo mc (.map (some sb)) mn w V BV M I f→x<V.length→y<V.length →
  (∀a b,SubC ((za0 V).getD x 0) a→SubC ((za0 V).getD y 0) b→sumC a b∈U) →
  Calls Tryz.prog 112 #[.pointer (some ⟨pb,0,none⟩),.int .i64 (x:Int),.int .i64 (y:Int)] w fun e w'=>yae U pb sb mo mc mn w V M I (sumC ((za0 V).getD x 0) ((za0 V).getD y 0)) e w'
set_option maxRecDepth 8000 in
set_option maxHeartbeats 16000000 in
theorem ydd {U:List Nat}(hUl:U.length<1000000)(pb sb:Nat)(mo mc mn:Value):∀n x y,x+y<n→yf8 U pb sb mo mc mn x y:=by
 intro n;induction n with
 | zero=>intro x y h;omega
 | succ n ih =>
  intro x y hn V BV M I f w hst hx hy hU;have hVl:=hst.len;have HIh:=Hh ih;have hbd:=zo3 (x:Int) (y:Int);obtain⟨w1,hw1⟩:∃w1,w1=w.alloc (.cells #[.int .i64 (x:Int),.int .i64 (y:Int)] 174):=⟨_,rfl⟩;have hf1:Fr NoM w w1:=by rw[hw1];exact(Fr.refl NoM w).alloc _
  have hs1:w1.heap.size=w.heap.size+1:=by rw[hw1];simp
  have hb1:w1.heap[w.heap.size]?=some (.cells #[.int .i64 (x:Int),.int .i64 (y:Int)] 174 (0,0)):=by rw[hw1];exact heap_alloc_new w _
  have hst1:=hst.fr0 hf1;have hkb:¬(M w.heap.size∨w.heap.size=sb):=fun e=>by
   rcases e with e|e
   ·have:=(hst.mlt _ e).1;omega
   ·have:=hst.map.lt;omega
  have HK:=Hh (fun(W:World) (f:Fr (fun q=>M q∨q=sb) w1 W)=>show W.cell? ⟨w.heap.size,0,none⟩=some (.int .i64 (x:Int))/\W.cell? ⟨w.heap.size,1,none⟩=some (.int .i64 (y:Int))from by
   have h:=f.heap hb1 hkb;exact⟨by rw[cell_of_row W _ 0 _ _ _ h];rfl,by rw[cell_of_row W _ 1 _ _ _ h];rfl⟩)
  have HW01:=Hh (PNx.of0 (sb:=sb) (V:=V) (M:=M) (I:=I) hf1);have HSt:=Hh hst1;obtain⟨X,hX⟩:∃X,X=za6 V x:=⟨_,rfl⟩;obtain⟨Y,hY⟩:∃Y,Y=za6 V y:=⟨_,rfl⟩;obtain⟨C,hC⟩:∃C,C=za0 V:=⟨_,rfl⟩;obtain⟨cx,hcx⟩:∃cx,cx=C.getD x 0:=⟨_,rfl⟩;obtain⟨cy,hcy⟩:∃cy,cy=C.getD y 0:=⟨_,rfl⟩;have kX:=hst.ok.book.code x _ (za7 hx);have kY:=hst.ok.book.code y _ (za7 hy);obtain⟨u1,u2⟩:=hst.ok.opts x _ (za7 hx);obtain⟨v1,v2⟩:=hst.ok.opts y _ (za7 hy);obtain⟨z1,z2⟩:=hst.ok.lens (n:=V.length+1) (Nat.lt_succ_self _) _ (List.mem_of_getElem? (za7 hx));obtain⟨z3,z4⟩:=hst.ok.lens (n:=V.length+1) (Nat.lt_succ_self _) _ (List.mem_of_getElem? (za7 hy));rw[←hX,←hC]at kX;rw[←hcx]at kX;rw[←hY,←hC]at kY;rw[←hcy]at kY;rw[←hX]at u1 u2 z1 z2;rw[←hY]at v1 v2 z3 z4;rw[←hC,←hcx,←hcy]at hU ⊢;have HU:=Hh hU;have HKX:=Hh kX;have HKY:=Hh kY;have HU1:=Hh u1;have HU2:=Hh u2;have HV1:=Hh v1;have HV2:=Hh v2;have HZ:=Hh (show V.length<1000000/\X.1.length≤V.length/\X.2.length≤V.length/\Y.1.length≤V.length/\Y.2.length≤V.length from⟨by omega,by omega,by omega,by omega,by omega⟩);have HX:=Hh hx;have HY:=Hh hy;have Hn:=Hh hn;have HXe:=Hh hX;have HYe:=Hh hY;have HCe:=Hh hC;have HCx:=Hh hcx;have HCy:=Hh hcy;have HUl:=Hh hUl;have HS1:=Hh hs1;have HF1:=Hh hf1
  -- games that stand in a longer pool
  have HTo:=Hh (fun(V1:List PL) (hp:V <+: V1)=>(⟨hp.length_le,fun j hj=>by rw[hC];exact zak hp hj⟩:V.length≤V1.length/\∀j,j<V.length→(za0 V1).getD j 0=C.getD j 0));have HNo:=Hh (fun(V1:List PL) (hp:V <+: V1)=>(⟨by rw[hX];exact zcu hp hx,by rw[hY];exact zcu hp hy⟩:za6 V1 x=X/\za6 V1 y=Y));have HSx:=Hh (fun l (hl:l∈X.1∨l∈X.2) a b (ha:SubC (C.getD l 0) a) (hb:SubC cy b)=>show sumC a b∈U from hU a b ((SubC.root.step (show optC cx (C.getD l 0)from by
   rw[kX];exact hl.imp (fun h=>(zab _ _ _).2 (za8.2 ⟨l,h,rfl⟩)) (fun h=>(zad _ _ _).2 (za8.2 ⟨l,h,rfl⟩)))).trans ha) hb)
  have HSy:=Hh (fun l (hl:l∈Y.1∨l∈Y.2) a b (ha:SubC cx a) (hb:SubC (C.getD l 0) b)=>show sumC a b∈U from hU a b ha ((SubC.root.step (show optC cy (C.getD l 0)from by
   rw[kY];exact hl.imp (fun h=>(zab _ _ _).2 (za8.2 ⟨l,h,rfl⟩)) (fun h=>(zad _ _ _).2 (za8.2 ⟨l,h,rfl⟩)))).trans hb))
  clear hst hst1 hU kX kY u1 u2 v1 v2 z1 z2 z3 z4 hx hy hn hX hY hC hcx hcy hUl hs1 hf1 hb1 hkb hVl ih;go_enter Tryz.func112,Tryz.ntmps112;go_wp2_with fail;rw[←hw1];clear hbd hw1;have hd:∀n,Fr NoM w1 (w1.drewN n):=fun n=>⟨rfl,rfl,rfl,Nat.le_refl _,fun _ _ _=>rfl⟩
  have hlook:∀n,(Instr.lookup 129 (.map (some sb)) (.agg #[.int .i64 (x:Int),.int .i64 (y:Int)]) true).run Tryz.prog (w1.drewN n)=.ok (.tuple #[((f (x,y)).map encN).getD (.int .i64 0),.bool (f (x,y)).isSome]) (w1.drewN n):=fun n =>
   MapF.look (w:=w1.drewN n) (HSt.out.map.fr (hd n) (fun q=>q)) zik Tryz.underlying129 (Tryz.zeroValue3 _) (x,y) true
  obtain⟨k0,k1⟩:=HK.out w1 (Fr.refl _ _);obtain⟨_,_,_,_,_,_,_,_,p6,_⟩:=HSt.out.pool.rd;have HD:=Hh hd;clear hd;cases hfx:f (x,y)with
  | some a =>
   rw[hfx]at hlook;have hlook:∀n,(Instr.lookup 129 (.map (some sb)) (.agg #[.int .i64 (x:Int),.int .i64 (y:Int)]) true).run Tryz.prog (w1.drewN n)=.ok (.tuple #[.int .i64 (a:Int),.bool true]) (w1.drewN n):=hlook;have ha:=HSt.out.memo _ _ hfx;have HA:=Hh ha;clear hfx ha;go_quiet (fail);go_wp2_with fail;go_ret;exact⟨a,V,BV,M,I,f,rfl,HSt.out.fr0 (HD.out _),HW01.out.trans (PNx.of0 (HD.out _)),HA.out.2.2.1,by rw[HA.out.2.2.2,HCx.out,HCy.out,HCe.out]⟩
  | none =>
   rw[hfx]at hlook;have hlook:∀n,(Instr.lookup 129 (.map (some sb)) (.agg #[.int .i64 (x:Int),.int .i64 (y:Int)]) true).run Tryz.prog (w1.drewN n)=.ok (.tuple #[.int .i64 0,.bool false]) (w1.drewN n):=hlook;clear hfx;go_quiet (fail);obtain⟨w2,hw2⟩:∃w2,w2=w1.drewN nq:=⟨_,rfl⟩;have hf2:Fr NoM w1 w2:=by rw[hw2];exact HD.out nq
   rw[←hw2];clear hlook k0 k1 p6 hw2 HD;go_upto_region 6 with fail;obtain⟨w3,hw3⟩:∃w3,w3=(w2.alloc (.cells #[] 3)).alloc (.cells #[] 3):=⟨_,rfl⟩;have hf3:Fr NoM w2 w3:=by rw[hw3];exact((Fr.refl NoM w2).alloc _).alloc _
   have r1:NRow w1.heap.size w3 (.slice (some ⟨w2.heap.size,0,none⟩) 0 0) []:=by
    rw[hw3];have h:=(NRow.made w2).fr ((Fr.refl NoM _).alloc (.cells #[] 3)) (fun _ _ q=>q);exact⟨zb3 h.own hf2.size,h.shape⟩
   have r2:NRow w1.heap.size w3 (.slice (some ⟨w2.heap.size+1,0,none⟩) 0 0) []:=by
    rw[hw3];have h:=NRow.made (w2.alloc (.cells #[] 3));rw[World.size_alloc]at h;exact⟨zb3 h.own (by have:=hf2.size;omega),h.shape⟩
   rw[←hw3];have HA0:=Hh (SumSt.start (TL:=sTL C X Y cx cy) (TR:=sTR C X Y cx cy) HSt.out (hf2.trans hf3 (fun _ _ q=>q)) r1 r2 hf2.size (by have:=hf2.size;omega) (by omega) (.slice none 0 0) [] (SliceOf.nil _ _) (fun h=>absurd rfl h));clear hw3 hf2 hf3 r1 r2 HSt;obtain⟨q1,hq1⟩:∃q1,q1=Value.slice (some ⟨w2.heap.size,0,none⟩) 0 0:=⟨_,rfl⟩;obtain⟨q2,hq2⟩:∃q2,q2=Value.slice (some ⟨w2.heap.size+1,0,none⟩) 0 0:=⟨_,rfl⟩;rw[←hq1,←hq2]at HA0 ⊢;clear hq1 hq2;obtain⟨pl1,plc1,pr1,prc1,p0,p1,_,_,_,_,hls,hrs⟩:=HA0.out.st.pool.rd;have hle:=(HTo.out V HA0.out.nx.pre).1;have hpV:x<V.length:=by have:=HX.out;omega
   obtain⟨gb1,go1,gv1,rfl,c4,n4,i4⟩:=hls x hpV;rw[(HNo.out V HA0.out.nx.pre).1]at n4 i4;have ix4:=zc5 (some ⟨gb1,go1,none⟩) V.length plc1 x gb1 go1 hpV rfl;obtain⟨ua1,uc1,rfl,zz⟩:=id n4;clear zz;have HB1:=Hh (HA0.out.look n4 i4);have hz9:X.1.length≤9223372036854775807:=by have:=HZ.out;omega
   clear hls hrs n4 i4 hle hpV;go_wp2_with fail;clear p0 p1 c4 ix4;go_loopw [10,45] (fun v5 t W=>∃(k:Nat) (v:Value) (V1:List PL) (B1:List Nat) (M1 I1:Nat→Prop) (f1:Nat × Nat→Option Nat) (L1:List Nat),v=v5/\t=.int .i64 k/\k≤X.1.length/\SumSt encP SumMO U pb sb mo mc (.map (some sb)) mn w1 V M I (sTL C X Y cx cy) (sTR C X Y cx cy) W v q2 (.slice ua1 X.1.length uc1) (k) 0 X.1 V1 B1 M1 I1 f1 L1 []) (fun _ t _=>X.1.length-(intOf t).toNat)
   case atStart=>exact⟨0,_,V,BV,M,I,f,[],rfl,rfl,Nat.zero_le _,HB1.out⟩
   case round =>
    obtain⟨k,va1,Va1,Ba1,Ma1,Ia1,fa1,La1,rfl,rfl,hk,hs⟩:=hrel;obtain⟨wa1,rfl⟩:∃w7,w7=wr:=⟨_,rfl⟩;have HS:=Hh hs;by_cases hkl:k<X.1.length
    ·obtain⟨l,hl⟩:∃l,X.1[k]?=some l:=⟨_,List.getElem?_eq_getElem hkl⟩
     have hlx:=HU1.out l (List.mem_of_getElem? hl);obtain⟨hle,hco⟩:=HTo.out Va1 hs.nx.pre;obtain⟨_,_,ee,_,_,hcc⟩:=id hs.src;cases ee
     obtain⟨b3,o3,ha3,c3⟩:=hcc k l hl;unfold encN at c3;have ix3:=zaa ua1 X.1.length uc1 k b3 o3 hkl ha3;have hX0:=HX.out;have hY0:=HY.out;have hn0:=Hn.out;have e1:(za0 Va1).getD l 0=C.getD l 0:=hco l (by omega);have e2:(za0 Va1).getD y 0=cy:=by rw[hco y hY0,HCy.out]
     have hcall:=HIh.out l y (by omega) Va1 Ba1 Ma1 Ia1 fa1 wa1 hs.st (by omega) (by omega) (by rw[e1,e2];exact HSx.out l (.inl (List.mem_of_getElem? hl)));rw[e1,e2]at hcall;have HC:=Hh hcall;have HL:=Hh hl;clear hl hcc ha3 hs hcall e1 e2 hco hle hX0 hY0 hn0;go_wp2_with fail;refine HC.out.mono ?_
     rintro e w8 ⟨i,V2,B2,M2,I2,f2,rfl,st2,nx2,hi2,hc2⟩;have HS8:=Hh (HS.out.call st2 nx2);have HI2:=Hh hi2;have HC2:=Hh hc2;clear st2 nx2 hi2 hc2 c3 ix3;go_wp2_with (at_builtin;refine zag (enc:=encN) _ rfl (.tmp 49) (.tmp 54) 82 rfl w1.heap.size 3 (.int .i64 0) 8 Tryz.underlying82 za9 rfl va1 La1.length (La1.map encN) rfl (HS8.out.fr0 ((Fr.refl NoM w8).alloc _)).rl.own (.slice (some ⟨w8.heap.size,0,none⟩) 1 1) rfl [i] (SliceOf.one encN w8 i 3) (fun _=>rfl) (by have h1:=HS8.out.cl.len;have h2:=HZ.out;rw[List.length_take,zoe]at h1;simp only[List.length_singleton];omega) (by decide) (by have:=HS8.out.nx.fr.size;rw[World.size_alloc];omega) ?_);intro v9 w9 h9 f9 q9;have HS9:=Hh (HS8.out.pushL ((Fr.refl NoM w8).alloc _) h9 f9 (by rw[World.size_alloc];exact q9) (zo8 HL.out) HI2.out HC2.out);clear h9 f9 q9;go_wp2;go_roundw
     case rel=>exact⟨k+1,v9,V2,B2,M2,I2,f2,La1 ++ [i],rfl,by go_num,by omega,HS9.out⟩
     case measure=>simp[intOf];omega
    ·obtain rfl:k=X.1.length:=by omega
     have HA1:=HS;clear hs HS hk hkl HB1;obtain⟨pl2,plc2,pr2,prc2,p0,p1,_,_,_,_,hls,hrs⟩:=HA1.out.st.pool.rd;have hle:=(HTo.out Va1 HA1.out.nx.pre).1;have hpV:y<Va1.length:=by have:=HY.out;omega
     obtain⟨gb2,go2,gv2,rfl,c4,n4,i4⟩:=hls y hpV;rw[(HNo.out Va1 HA1.out.nx.pre).2]at n4 i4;have ix4:=zc5 (some ⟨gb2,go2,none⟩) Va1.length plc2 y gb2 go2 hpV rfl;obtain⟨ua2,uc2,rfl,zz⟩:=id n4;clear zz;have HB2:=Hh (HA1.out.look n4 i4);have hz9:Y.1.length≤9223372036854775807:=by have:=HZ.out;omega
     clear hls hrs n4 i4 hle hpV;go_wp2_with fail;clear p0 p1 c4 ix4;go_loopw [10,65] (fun v5 t W=>∃(k:Nat) (v:Value) (V1:List PL) (B1:List Nat) (M1 I1:Nat→Prop) (f1:Nat × Nat→Option Nat) (L1:List Nat),v=v5/\t=.int .i64 k/\k≤Y.1.length/\SumSt encP SumMO U pb sb mo mc (.map (some sb)) mn w1 V M I (sTL C X Y cx cy) (sTR C X Y cx cy) W v q2 (.slice ua2 Y.1.length uc2) (X.1.length+k) 0 Y.1 V1 B1 M1 I1 f1 L1 []) (fun _ t _=>Y.1.length-(intOf t).toNat)
     case atStart=>exact⟨0,_,Va1,Ba1,Ma1,Ia1,fa1,La1,rfl,rfl,Nat.zero_le _,HB2.out⟩
     case round =>
      obtain⟨k,va2,Va2,Ba2,Ma2,Ia2,fa2,La2,rfl,rfl,hk,hs⟩:=hrel;obtain⟨wa2,rfl⟩:∃w7,w7=wr:=⟨_,rfl⟩;have HS:=Hh hs;by_cases hkl:k<Y.1.length
      ·obtain⟨l,hl⟩:∃l,Y.1[k]?=some l:=⟨_,List.getElem?_eq_getElem hkl⟩
       have hlx:=HV1.out l (List.mem_of_getElem? hl);obtain⟨hle,hco⟩:=HTo.out Va2 hs.nx.pre;obtain⟨_,_,ee,_,_,hcc⟩:=id hs.src;cases ee
       obtain⟨b3,o3,ha3,c3⟩:=hcc k l hl;unfold encN at c3;have ix3:=zaa ua2 Y.1.length uc2 k b3 o3 hkl ha3;have hX0:=HX.out;have hY0:=HY.out;have hn0:=Hn.out;have e1:(za0 Va2).getD x 0=cx:=by rw[hco x hX0,HCx.out]
       have e2:(za0 Va2).getD l 0=C.getD l 0:=hco l (by omega);have hcall:=HIh.out x l (by omega) Va2 Ba2 Ma2 Ia2 fa2 wa2 hs.st (by omega) (by omega) (by rw[e1,e2];exact HSy.out l (.inl (List.mem_of_getElem? hl)));rw[e1,e2]at hcall;have HC:=Hh hcall;have HL:=Hh hl;clear hl hcc ha3 hs hcall e1 e2 hco hle hX0 hY0 hn0;go_wp2_with fail;refine HC.out.mono ?_
       rintro e w8 ⟨i,V2,B2,M2,I2,f2,rfl,st2,nx2,hi2,hc2⟩;have HS8:=Hh (HS.out.call st2 nx2);have HI2:=Hh hi2;have HC2:=Hh hc2;clear st2 nx2 hi2 hc2 c3 ix3;go_wp2_with (at_builtin;refine zag (enc:=encN) _ rfl (.tmp 69) (.tmp 74) 82 rfl w1.heap.size 3 (.int .i64 0) 8 Tryz.underlying82 za9 rfl va2 La2.length (La2.map encN) rfl (HS8.out.fr0 ((Fr.refl NoM w8).alloc _)).rl.own (.slice (some ⟨w8.heap.size,0,none⟩) 1 1) rfl [i] (SliceOf.one encN w8 i 3) (fun _=>rfl) (by have h1:=HS8.out.cl.len;have h2:=HZ.out;rw[List.length_take,zoe]at h1;simp only[List.length_singleton];omega) (by decide) (by have:=HS8.out.nx.fr.size;rw[World.size_alloc];omega) ?_);intro v9 w9 h9 f9 q9;have HS9:=Hh (HS8.out.pushL ((Fr.refl NoM w8).alloc _) h9 f9 (by rw[World.size_alloc];exact q9) (zkf HL.out) HI2.out HC2.out);clear h9 f9 q9;go_wp2;go_roundw
       case rel=>exact⟨k+1,v9,V2,B2,M2,I2,f2,La2 ++ [i],rfl,by go_num,by omega,HS9.out⟩
       case measure=>simp[intOf];omega
      ·obtain rfl:k=Y.1.length:=by omega
       have HA2:=HS;clear hs HS hk hkl HB2;obtain⟨pl3,plc3,pr3,prc3,p0,p1,_,_,_,_,hls,hrs⟩:=HA2.out.st.pool.rd;have hle:=(HTo.out Va2 HA2.out.nx.pre).1;have hpV:x<Va2.length:=by have:=HX.out;omega
       obtain⟨gb3,go3,gv3,rfl,c4,n4,i4⟩:=hrs x hpV;rw[(HNo.out Va2 HA2.out.nx.pre).1]at n4 i4;have ix4:=zc5 (some ⟨gb3,go3,none⟩) Va2.length prc3 x gb3 go3 hpV rfl;obtain⟨ua3,uc3,rfl,zz⟩:=id n4;clear zz;have HB3:=Hh (HA2.out.look n4 i4);have hz9:X.2.length≤9223372036854775807:=by have:=HZ.out;omega
       clear hls hrs n4 i4 hle hpV;go_wp2_with fail;clear p0 p1 c4 ix4;go_loopw [11,85] (fun v5 t W=>∃(k:Nat) (v:Value) (V1:List PL) (B1:List Nat) (M1 I1:Nat→Prop) (f1:Nat × Nat→Option Nat) (L1:List Nat),v=v5/\t=.int .i64 k/\k≤X.2.length/\SumSt encP SumMO U pb sb mo mc (.map (some sb)) mn w1 V M I (sTL C X Y cx cy) (sTR C X Y cx cy) W va2 v (.slice ua3 X.2.length uc3) (X.1.length+Y.1.length) (k) X.2 V1 B1 M1 I1 f1 La2 L1) (fun _ t _=>X.2.length-(intOf t).toNat)
       case atStart=>exact⟨0,_,Va2,Ba2,Ma2,Ia2,fa2,[],rfl,rfl,Nat.zero_le _,HB3.out⟩
       case round =>
        obtain⟨k,va3,Va3,Ba3,Ma3,Ia3,fa3,Ra3,rfl,rfl,hk,hs⟩:=hrel;obtain⟨wa3,rfl⟩:∃w7,w7=wr:=⟨_,rfl⟩;have HS:=Hh hs;by_cases hkl:k<X.2.length
        ·obtain⟨l,hl⟩:∃l,X.2[k]?=some l:=⟨_,List.getElem?_eq_getElem hkl⟩
         have hlx:=HU2.out l (List.mem_of_getElem? hl);obtain⟨hle,hco⟩:=HTo.out Va3 hs.nx.pre;obtain⟨_,_,ee,_,_,hcc⟩:=id hs.src;cases ee
         obtain⟨b3,o3,ha3,c3⟩:=hcc k l hl;unfold encN at c3;have ix3:=zaa ua3 X.2.length uc3 k b3 o3 hkl ha3;have hX0:=HX.out;have hY0:=HY.out;have hn0:=Hn.out;have e1:(za0 Va3).getD l 0=C.getD l 0:=hco l (by omega);have e2:(za0 Va3).getD y 0=cy:=by rw[hco y hY0,HCy.out]
         have hcall:=HIh.out l y (by omega) Va3 Ba3 Ma3 Ia3 fa3 wa3 hs.st (by omega) (by omega) (by rw[e1,e2];exact HSx.out l (.inr (List.mem_of_getElem? hl)));rw[e1,e2]at hcall;have HC:=Hh hcall;have HL:=Hh hl;clear hl hcc ha3 hs hcall e1 e2 hco hle hX0 hY0 hn0;go_wp2_with fail;refine HC.out.mono ?_
         rintro e w8 ⟨i,V2,B2,M2,I2,f2,rfl,st2,nx2,hi2,hc2⟩;have HS8:=Hh (HS.out.call st2 nx2);have HI2:=Hh hi2;have HC2:=Hh hc2;clear st2 nx2 hi2 hc2 c3 ix3;go_wp2_with (at_builtin;refine zag (enc:=encN) _ rfl (.tmp 89) (.tmp 94) 82 rfl w1.heap.size 3 (.int .i64 0) 8 Tryz.underlying82 za9 rfl va3 Ra3.length (Ra3.map encN) rfl (HS8.out.fr0 ((Fr.refl NoM w8).alloc _)).rr.own (.slice (some ⟨w8.heap.size,0,none⟩) 1 1) rfl [i] (SliceOf.one encN w8 i 3) (fun _=>rfl) (by have h1:=HS8.out.cr.len;have h2:=HZ.out;rw[List.length_take,zod]at h1;simp only[List.length_singleton];omega) (by decide) (by have:=HS8.out.nx.fr.size;rw[World.size_alloc];omega) ?_);intro v9 w9 h9 f9 q9;have HS9:=Hh (HS8.out.pushR ((Fr.refl NoM w8).alloc _) h9 f9 (by rw[World.size_alloc];exact q9) (zo8 HL.out) HI2.out HC2.out);clear h9 f9 q9;go_wp2;go_roundw
         case rel=>exact⟨k+1,v9,V2,B2,M2,I2,f2,Ra3 ++ [i],rfl,by go_num,by omega,HS9.out⟩
         case measure=>simp[intOf];omega
        ·obtain rfl:k=X.2.length:=by omega
         have HA3:=HS;clear hs HS hk hkl HB3;obtain⟨pl4,plc4,pr4,prc4,p0,p1,_,_,_,_,hls,hrs⟩:=HA3.out.st.pool.rd;have hle:=(HTo.out Va3 HA3.out.nx.pre).1;have hpV:y<Va3.length:=by have:=HY.out;omega
         obtain⟨gb4,go4,gv4,rfl,c4,n4,i4⟩:=hrs y hpV;rw[(HNo.out Va3 HA3.out.nx.pre).2]at n4 i4;have ix4:=zc5 (some ⟨gb4,go4,none⟩) Va3.length prc4 y gb4 go4 hpV rfl;obtain⟨ua4,uc4,rfl,zz⟩:=id n4;clear zz;have HB4:=Hh (HA3.out.look n4 i4);have hz9:Y.2.length≤9223372036854775807:=by have:=HZ.out;omega
         clear hls hrs n4 i4 hle hpV;go_wp2_with fail;clear p0 p1 c4 ix4;go_loopw [11,105] (fun v5 t W=>∃(k:Nat) (v:Value) (V1:List PL) (B1:List Nat) (M1 I1:Nat→Prop) (f1:Nat × Nat→Option Nat) (L1:List Nat),v=v5/\t=.int .i64 k/\k≤Y.2.length/\SumSt encP SumMO U pb sb mo mc (.map (some sb)) mn w1 V M I (sTL C X Y cx cy) (sTR C X Y cx cy) W va2 v (.slice ua4 Y.2.length uc4) (X.1.length+Y.1.length) (X.2.length+k) Y.2 V1 B1 M1 I1 f1 La2 L1) (fun _ t _=>Y.2.length-(intOf t).toNat)
         case atStart=>exact⟨0,_,Va3,Ba3,Ma3,Ia3,fa3,Ra3,rfl,rfl,Nat.zero_le _,HB4.out⟩
         case round =>
          obtain⟨k,va4,Va4,Ba4,Ma4,Ia4,fa4,Ra4,rfl,rfl,hk,hs⟩:=hrel;obtain⟨wa4,rfl⟩:∃w7,w7=wr:=⟨_,rfl⟩;have HS:=Hh hs;by_cases hkl:k<Y.2.length
          ·obtain⟨l,hl⟩:∃l,Y.2[k]?=some l:=⟨_,List.getElem?_eq_getElem hkl⟩
           have hlx:=HV2.out l (List.mem_of_getElem? hl);obtain⟨hle,hco⟩:=HTo.out Va4 hs.nx.pre;obtain⟨_,_,ee,_,_,hcc⟩:=id hs.src;cases ee
           obtain⟨b3,o3,ha3,c3⟩:=hcc k l hl;unfold encN at c3;have ix3:=zaa ua4 Y.2.length uc4 k b3 o3 hkl ha3;have hX0:=HX.out;have hY0:=HY.out;have hn0:=Hn.out;have e1:(za0 Va4).getD x 0=cx:=by rw[hco x hX0,HCx.out]
           have e2:(za0 Va4).getD l 0=C.getD l 0:=hco l (by omega);have hcall:=HIh.out x l (by omega) Va4 Ba4 Ma4 Ia4 fa4 wa4 hs.st (by omega) (by omega) (by rw[e1,e2];exact HSy.out l (.inr (List.mem_of_getElem? hl)));rw[e1,e2]at hcall;have HC:=Hh hcall;have HL:=Hh hl;clear hl hcc ha3 hs hcall e1 e2 hco hle hX0 hY0 hn0;go_wp2_with fail;refine HC.out.mono ?_
           rintro e w8 ⟨i,V2,B2,M2,I2,f2,rfl,st2,nx2,hi2,hc2⟩;have HS8:=Hh (HS.out.call st2 nx2);have HI2:=Hh hi2;have HC2:=Hh hc2;clear st2 nx2 hi2 hc2 c3 ix3;go_wp2_with (at_builtin;refine zag (enc:=encN) _ rfl (.tmp 109) (.tmp 114) 82 rfl w1.heap.size 3 (.int .i64 0) 8 Tryz.underlying82 za9 rfl va4 Ra4.length (Ra4.map encN) rfl (HS8.out.fr0 ((Fr.refl NoM w8).alloc _)).rr.own (.slice (some ⟨w8.heap.size,0,none⟩) 1 1) rfl [i] (SliceOf.one encN w8 i 3) (fun _=>rfl) (by have h1:=HS8.out.cr.len;have h2:=HZ.out;rw[List.length_take,zod]at h1;simp only[List.length_singleton];omega) (by decide) (by have:=HS8.out.nx.fr.size;rw[World.size_alloc];omega) ?_);intro v9 w9 h9 f9 q9;have HS9:=Hh (HS8.out.pushR ((Fr.refl NoM w8).alloc _) h9 f9 (by rw[World.size_alloc];exact q9) (zkf HL.out) HI2.out HC2.out);clear h9 f9 q9;go_wp2;go_roundw
           case rel=>exact⟨k+1,v9,V2,B2,M2,I2,f2,Ra4 ++ [i],rfl,by go_num,by omega,HS9.out⟩
           case measure=>simp[intOf];omega
          ·obtain rfl:k=Y.2.length:=by omega
           have HA4:=HS;clear hs HS hk hkl HB4;obtain⟨lb,lc,hlb⟩:=HA4.out.rl.shape;obtain⟨rb,rc,hrb⟩:=HA4.out.rr.shape;subst hlb;subst hrb;have hcl:=HA4.out.cl;rw[List.take_of_length_le (by rw[zoe];exact Nat.le_refl _)]at hcl;have hcr:=HA4.out.cr;rw[List.take_of_length_le (by rw[zod];exact Nat.le_refl _)]at hcr;have hmk:mkC (sTL C X Y cx cy) (sTR C X Y cx cy)=sumC cx cy:=ycx HKX.out HKY.out;have hlen:=HA4.out.st.len;have hul:=HUl.out;have hz:=HZ.out;have l1:=hcl.len;have l2:=hcr.len;rw[zoe]at l1;rw[zod]at l2;have hnd:=zkn pb Va4 Ba4 La2 Ra4 mo mc (.map (some sb)) mn lb 0 lc rb 0 rc wa4 HA4.out.st.pool HA4.out.rl.nats HA4.out.rr.nats hcl.1 hcr.1 (by omega) (by omega) (by omega) (fun q hq=>by have:=(zf5 HA4.out.st.ok).lt Va4.length (Nat.le_refl _) q hq;omega);have hin:mkC (sTL C X Y cx cy) (sTR C X Y cx cy)∈U:=by rw[hmk];exact HU.out cx cy .root .root
           have HND:=Hh hnd;have HCL:=Hh hcl;have HCR:=Hh hcr;have HMk:=Hh hmk;have HIn:=Hh hin;clear hcl hcr hmk hlen hul hz l1 l2 hnd hin;go_wp2_with fail;refine HND.out.mono ?_
           rintro e w5 ⟨rfl,M5,I5,p5,hM5,hI5,f5⟩;obtain⟨st5,nx5,hr5,hc5⟩:=HA4.out.st.node (fun h hp=>h.mono hp) HCL.out HCR.out HIn.out p5 hM5 hI5 f5;rw[HMk.out]at hc5;have nx15:=HA4.out.nx.trans nx5;obtain⟨V5,hV5⟩:∃V5,V5=(za4 Va4 Ba4 La2 Ra4).1:=⟨_,rfl⟩;obtain⟨B5,hB5⟩:∃B5,B5=(za4 Va4 Ba4 La2 Ra4).2.1:=⟨_,rfl⟩;obtain⟨r5,hr5e⟩:∃r5,r5=(za4 Va4 Ba4 La2 Ra4).2.2:=⟨_,rfl⟩;rw[←hV5,←hB5]at st5;rw[←hV5]at nx15 hr5 hc5;rw[←hr5e]at hr5 hc5 ⊢;obtain⟨k0,k1⟩:=HK.out w5 nx15.fr;obtain⟨_,_,_,_,_,_,_,_,p6,_⟩:=st5.pool.rd;obtain⟨hle5,hco5⟩:=HTo.out V5 nx15.pre;have hX0:=HX.out;have hY0:=HY.out;obtain⟨w9,hrun,hm9,hf9⟩:=MapF.store (P:=Tryz.prog) (w:=w5.drew) (st5.map.fr ((Fr.refl NoM w5).drew) (fun q=>q)) zik Tryz.underlying129 (x,y) r5;have hrun:(Instr.mapUpdate 129 (.map (some sb)) (.agg #[.int .i64 (x:Int),.int .i64 (y:Int)]) (.int .i64 (r5:Int))).run Tryz.prog w5.drew=.ok () w9:=hrun;obtain⟨st9,nx9⟩:=st5.store (((Fr.refl NoM w5).drew.any).trans hf9 (fun _ _ q=>q)) hm9 (st5.memo.upd (show x<V5.length from by omega) (show y<V5.length from by omega) hr5 (by rw[hc5,hco5 x hX0,hco5 y hY0,HCx.out,HCy.out]));have HEnd:=Hh (And.intro st9 (And.intro (HW01.out.trans (nx15.trans nx9)) (And.intro hr5 hc5)));clear st9 nx9 hr5 hc5 hm9 hf9 hle5 hco5 hX0 hY0 nx15 st5 nx5 p5 hM5 hI5 f5 hV5 hB5 hr5e;go_upto_region 27 with fail;go_cut []from 121 (fun wx=>wx=w9)
           case first =>
            go_region_law (fail);all_goals
             go_wp2_with fail;go_meet
             case rel=>rfl
           case rest =>
            subst hcut;clear hrun k0 k1 p6;go_wp2_with fail;go_ret;exact⟨r5,V5,B5,_,_,_,rfl,HEnd.out.1,HEnd.out.2.1,HEnd.out.2.2.1,HEnd.out.2.2.2⟩
end Go.Proofs.YtghekfmfonoocaaGreatDoor
