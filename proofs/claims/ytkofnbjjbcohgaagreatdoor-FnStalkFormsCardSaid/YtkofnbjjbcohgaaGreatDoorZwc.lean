import Derived.Test.YtkofnbjjbcohgaaGreatDoorZw2
import Derived.Test.YtkofnbjjbcohgaaGreatDoorZw7
/- Lemmas. -/
namespace Go.Proofs.YtkofnbjjbcohgaaGreatDoor
set_option linter.unusedVariables false
set_option linter.unusedSimpArgs false
open Go.RowKit
theorem zvm (a:Nat):geC a a=true:=by
 induction a using Nat.strongRecOn with
 | _ a ih =>
  rw[zcy];constructor
  ·intro r hr
   cases h:geC a r with
   | false=>rfl
   | true =>
    have h1:=((zcy a r).1 h).1 r hr;rw[ih r (zai (.inr hr))]at h1;cases h1
  ·intro l hl
   cases h:geC l a with
   | false=>rfl
   | true =>
    have h1:=((zcy l a).1 h).2 l hl;rw[ih l (zai (.inl hl))]at h1;cases h1
theorem zvk (C:List Nat)(x:Nat):geV C x x=true:=zvm _
theorem zb0 (a:Option Addr)(n c k b off:Nat)(hk:k<n)(ha:a=some ⟨b,off,none⟩)(w:World) :
  (Instr.indexAt 68 (.slice a n c) (.int .i64 (k:Int))).run Tryz.prog w=.ok (.pointer (some ⟨b,off+k,none⟩)) w:=by
 subst ha;go_simp
theorem PoolS.rd {M I:Nat→Prop} {w:World} {pb:Nat} {V:List PL} {BV:List Nat} {mo mc ms mn:Value} (h:PoolS M I w pb V BV mo mc ms mn) :
    ∃ la lc ra rc, w.cell? ⟨pb, 0, none⟩ = some (.slice la V.length lc) ∧ w.cell? ⟨pb, 1, none⟩ = some (.slice ra V.length rc) ∧ w.cell? ⟨pb, 4, none⟩ = some mo ∧ w.cell? ⟨pb, 5, none⟩ = some mc ∧ w.cell? ⟨pb, 6, none⟩ = some ms ∧ w.cell? ⟨pb, 7, none⟩ = some mn ∧
      (∀ x,x < V.length→∃ b off v,la=some ⟨b,off,none⟩∧w.cell? ⟨b,off + x,none⟩=some v∧Nats w v (za4 V x).1∧((za4 V x).1≠[]→∀ q,v.ownBlock=some q→I q)) ∧
      (∀ x,x < V.length→∃ b off v,ra=some ⟨b,off,none⟩∧w.cell? ⟨b,off + x,none⟩=some v∧Nats w v (za4 V x).2∧((za4 V x).2≠[]→∀ q,v.ownBlock=some q→I q)):=by
  obtain ⟨lv,rv,bv,fb,LS,RS,hp,h1,h2,_⟩:=h;obtain ⟨la,lc,rfl,_,_,hl⟩:=SliceOf.of_owns (enc:=encV) (L:=LS) hp.left (by rw [show (encV:Value→Value)=id from rfl,List.map_id]);obtain ⟨ra,rc,rfl,_,_,hr⟩:=SliceOf.of_owns (enc:=encV) (L:=RS) hp.right (by rw [show (encV:Value→Value)=id from rfl,List.map_id]);have hb:=hp.blk;have e1:=hp.lenL;have e2:=hp.lenR;refine ⟨la,lc,ra,rc,by rw [cell_of_row w pb 0 _ _ _ hb,← e1];rfl,by rw [cell_of_row w pb 1 _ _ _ hb,← e2];rfl,by rw [cell_of_row w pb 4 _ _ _ hb];rfl,by rw [cell_of_row w pb 5 _ _ _ hb];rfl,by rw [cell_of_row w pb 6 _ _ _ hb];rfl,by rw [cell_of_row w pb 7 _ _ _ hb];rfl,fun x hx=>?_,fun x hx=>?_⟩
  · have hv := List.getElem?_eq_getElem (l := LS) (i := x) (by omega)
    obtain ⟨b,off,ha,hc⟩:=hl x _ hv;obtain ⟨s1,s2⟩:=h1 x _ _ hv (zaf hx);exact ⟨b,off,_,ha,hc,s1,s2⟩
  · have hv := List.getElem?_eq_getElem (l := RS) (i := x) (by omega)
    obtain ⟨b,off,ha,hc⟩:=hr x _ hv;obtain ⟨s1,s2⟩:=h2 x _ _ hv (zaf hx);exact ⟨b,off,_,ha,hc,s1,s2⟩
def OrdF (C:List Nat)(f:Nat × Nat→Option Bool):Prop:=∀k a,f k=some a→k.1<C.length/\k.2<C.length/\a=geV C k.1 k.2
theorem OrdF.none (C:List Nat):OrdF C (fun _=>none):=fun _ _ h=>by cases h
theorem OrdF.upd {C:List Nat}{f:Nat × Nat→Option Bool}{x y:Nat}(h:OrdF C f)(hx:x<C.length)(hy:y<C.length):OrdF C (upd f (x,y) (geV C x y)):=fun k a hk=>by
 unfold Go.Proofs.YtkofnbjjbcohgaaGreatDoor.upd at hk;split at hk
 ·rename_i e;subst e;exact⟨hx,hy,(Option.some.inj hk).symm⟩
 ·exact h k a hk
theorem OrdF.mono {C C':List Nat}{f:Nat × Nat→Option Bool}(h:OrdF C f)(hp:C <+: C'):OrdF C' f:=fun k a hk=>by
 obtain⟨h1,h2,h3⟩:=h k a hk;have hl:=hp.length_le;obtain⟨t,rfl⟩:=hp;refine⟨by omega,by omega,?_⟩;unfold geV at h3 ⊢;rw[zcx h1,zcx h2];exact h3
def GeIs (M I:Nat→Prop)(C:List Nat)(V:List PL)(BV:List Nat)(pb ob:Nat)(mc ms mn:Value)(x y:Nat):Prop:=∀(f:Nat × Nat→Option Bool) (w:World),PoolS M I w pb V BV (.map (some ob)) mc ms mn→MapF encP encB w ob f→OrdF C f →
  Calls Tryz.prog 77 #[.pointer (some ⟨pb,0,none⟩),.int .i64 (x:Int),.int .i64 (y:Int)] w fun e w'=>e=.returned (.bool (geV C x y))/\∃f',MapF encP encB w' ob f'∧OrdF C f'∧Fr (fun q=>q=ob) w w'
set_option maxRecDepth 4000 in
set_option maxHeartbeats 8000000 in
theorem ztb {M I:Nat→Prop}{C:List Nat}{V:List PL}{BV:List Nat}(B:BookC V C)(pb ob:Nat)(mc ms mn:Value)(hMo:¬M ob)(hIo:¬I ob):∀n x y,x+y<n→x<V.length→y<V.length→GeIs M I C V BV pb ob mc ms mn x y:=by
 intro n;induction n with
 | zero=>intro x y h;omega
 | succ n ih =>
  intro x y hn hx hy f w hP hF hO;by_cases hxy:x=y
  ·subst hxy
   have HG:=Hh (show geV C x x=true from zvk C x);have hb:((x:Int) == (x:Int))=true:=beq_self_eq_true _;have HF:=Hh hF;have HO:=Hh hO;clear hF hO hP ih;go_enter Tryz.func77,Tryz.ntmps77;go_wp2_with fail;go_ret;exact⟨by rw[HG.out];rfl,f,HF.out,HO.out,Fr.refl _ _⟩
  ·have hb:((x:Int) == (y:Int))=false:=by rw[beq_eq_false_iff_ne];omega
   have HIh:=Hh ih;have HP:=Hh hP;have HF:=Hh hF;have HO:=Hh hO;have hbd:=zrh (x:Int) (y:Int);clear ih hP hF hO hxy;obtain⟨res,hres⟩:∃res,res=geV C x y:=⟨_,rfl⟩;rw[←hres];have HRes:=Hh hres;clear hres;go_enter Tryz.func77,Tryz.ntmps77;go_wp2_with fail;obtain⟨w1,hw1⟩:∃w1,w1=w.alloc (.cells #[.int .i64 (x:Int),.int .i64 (y:Int)] 125):=⟨_,rfl⟩;have hf1:Fr NoM w w1:=by rw[hw1];exact(Fr.refl NoM w).alloc _
   have hb1:w1.heap[w.heap.size]?=some (.cells #[.int .i64 (x:Int),.int .i64 (y:Int)] 125 (0,0)):=by rw[hw1];exact heap_alloc_new w _
   rw[←hw1];have hne:¬w.heap.size=ob:=by have:=HF.out.lt;omega
   have HK:=Hh (fun(W:World) (f:Fr (fun q=>q=ob) w1 W)=>show W.cell? ⟨w.heap.size,0,none⟩=some (.int .i64 (x:Int))/\W.cell? ⟨w.heap.size,1,none⟩=some (.int .i64 (y:Int))from by
    have h:=f.heap hb1 hne;exact⟨by rw[cell_of_row W _ 0 _ _ _ h];rfl,by rw[cell_of_row W _ 1 _ _ _ h];rfl⟩)
   have HPs:=Hh (fun(W:World) (f:Fr (fun q=>q=ob) w1 W)=>show PoolS M I W pb V BV (.map (some ob)) mc ms mn from
    (HP.out.fr0 hf1).fr f (fun q hq e=>hMo (by rw[←e];exact hq)) (fun q hq e=>hIo (by rw[←e];exact hq)))
   have HFW:=Hh (hf1.any (M:=fun q=>q=ob));have HF1:=Hh (HF.out.fr hf1 (fun q=>q));clear hf1 hb1 hne hw1 HF HP hbd;have hd:∀n,Fr NoM w1 (w1.drewN n):=fun n=>⟨rfl,rfl,rfl,Nat.le_refl _,fun _ _ _=>rfl⟩
   have hlook:∀n,(Instr.lookup 65 (.map (some ob)) (.agg #[.int .i64 (x:Int),.int .i64 (y:Int)]) true).run Tryz.prog (w1.drewN n)=.ok (.tuple #[((f (x,y)).map encB).getD (.bool false),.bool (f (x,y)).isSome]) (w1.drewN n):=fun n =>
    MapF.look (w:=w1.drewN n) (HF1.out.fr (hd n) (fun q=>q)) zka Tryz.underlying65 (Tryz.zeroValue4 _) (x,y) true
   obtain⟨k0,k1⟩:=HK.out w1 (Fr.refl _ _);obtain⟨_,_,_,_,_,_,p4,_⟩:=(HPs.out w1 (Fr.refl _ _)).rd;have HD:=Hh hd;clear hd;cases hfx:f (x,y)with
   | some a =>
    rw[hfx]at hlook;have hlook:∀n,(Instr.lookup 65 (.map (some ob)) (.agg #[.int .i64 (x:Int),.int .i64 (y:Int)]) true).run Tryz.prog (w1.drewN n)=.ok (.tuple #[.bool a,.bool true]) (w1.drewN n):=hlook;have ha:a=res:=by rw[HRes.out];exact(HO.out _ _ hfx).2.2
    have HA:=Hh ha;clear hfx ha;go_quiet (fail);go_wp2_with fail;go_ret;exact⟨by rw[HA.out];rfl,f,HF1.out.fr (HD.out _) (fun q=>q),HO.out,HFW.out.trans (HD.out _) (fun _ _ q=>q.elim)⟩
   | none =>
    rw[hfx]at hlook;have hlook:∀n,(Instr.lookup 65 (.map (some ob)) (.agg #[.int .i64 (x:Int),.int .i64 (y:Int)]) true).run Tryz.prog (w1.drewN n)=.ok (.tuple #[.bool false,.bool false]) (w1.drewN n):=hlook;clear hfx;go_quiet (fail);obtain⟨w2,hw2⟩:∃w2,w2=w1.drewN nq:=⟨_,rfl⟩;have hf2:Fr NoM w1 w2:=by rw[hw2];exact HD.out nq
    rw[←hw2];have HF2:=Hh (HF1.out.fr hf2 (fun q=>q));have F2:=Hh (hf2.any (M:=fun q=>q=ob));clear hlook k0 k1 p4 hf2 hw2 HF1;have hge:=zy5 B hx hy;rw[←HRes.out]at hge;obtain⟨u1,u2⟩:=B.opts x _ (zaf hx);obtain⟨v1,v2⟩:=B.opts y _ (zaf hy);obtain⟨_,_,ra,rc,_,p1,_,_,_,_,_,hR⟩:=(HPs.out w2 F2.out).rd;obtain⟨rb,ro,rv,rfl,r1,s1,i1⟩:=hR x hx;have ix1:=zb0 (some ⟨rb,ro,none⟩) V.length rc x rb ro hx rfl;obtain⟨R,hRe⟩:∃R,R=(za4 V x).2:=⟨_,rfl⟩;rw[←hRe]at hge u2 s1 i1;have HU:=Hh (fun(W:World) (f:Fr (fun q=>q=ob) w2 W)=>show Nats W rv R from s1.fr f (fun hne q hq e=>hIo (by rw[←e];exact i1 hne q hq)));have hR9:R.length≤9223372036854775807:=by obtain⟨a,c,_,h1,h2,_⟩:=s1;omega
    obtain⟨ua,uc,rfl,z⟩:=id s1;have HGe:=Hh hge;have HU2:=Hh u2;have HV1:=Hh v1;clear z hge u1 u2 v1 v2 s1 i1 hRe hR;go_wp2_with fail;clear p1 r1 ix1;go_loopw [10,40] (fun b t W=>∃(k:Nat) (f':Nat × Nat→Option Bool),b=.bool true/\t=.int .i64 k/\k≤R.length/\(∀r∈R.take k,geV C y r=false)/\MapF encP encB W ob f'∧OrdF C f'∧Fr (fun q=>q=ob) w2 W) (fun _ t _=>R.length-(intOf t).toNat)
    case atStart=>exact⟨0,f,rfl,rfl,Nat.zero_le _,by simp,HF2.out,HO.out,Fr.refl _ _⟩
    case round =>
     obtain⟨k,f7,rfl,rfl,hk,hall,hm7,ho7,hf7⟩:=hrel;obtain⟨w7,rfl⟩:∃w7,w7=wr:=⟨_,rfl⟩;have e4:=HU.out w7 hf7;have HAll:=Hh hall;have HM7:=Hh hm7;have HO7:=Hh ho7;have F7:=Hh (F2.out.trans hf7 (fun _ _ q=>q));have F27:=Hh hf7;clear hall hm7 ho7 hf7;by_cases hkl:k<R.length
     ·obtain⟨r,hr⟩:∃r,R[k]?=some r:=⟨_,List.getElem?_eq_getElem hkl⟩
      have hrx:=HU2.out r (List.mem_of_getElem? hr);obtain⟨a',c',ee,_,_,hcc⟩:=e4;cases ee
      obtain⟨b3,o3,ha3,c3⟩:=hcc k r hr;have c3':w7.cell? ⟨b3,o3+k,none⟩=some (.int .i64 (r:Int)):=c3;have ix3:=zaa ua R.length uc k b3 o3 hkl ha3;have HGq:=Hh (HIh.out y r (by omega) hy (by omega) f7 w7 (HPs.out w7 F7.out) HM7.out HO7.out);have HR':=Hh hr;clear hr hcc ha3 c3;go_wp2_with fail;refine HGq.out.mono ?_
      rintro e w8 ⟨rfl,f8,hm8,ho8,hf8⟩;have HM8:=Hh hm8;have HO8:=Hh ho8;have F8:=Hh (F7.out.trans hf8 (fun _ _ q=>q));have F28:=Hh (F27.out.trans hf8 (fun _ _ q=>q));clear hm8 ho8 hf8 c3';obtain⟨gb,hgb⟩:∃gb,gb=geV C y r:=⟨_,rfl⟩;rw[←hgb];have HGb:=Hh hgb;clear hgb;cases gb with
      | true =>
       have hn:res=false:=by
        cases hc:res with
        | false=>rfl
        | true=>have:=(HGe.out.1 hc).1 r (List.mem_of_getElem? HR'.out);rw[←HGb.out]at this;cases this
       have HN:=Hh hn;clear hn;obtain⟨k0,k1⟩:=HK.out w8 F8.out;obtain⟨_,_,_,_,_,_,p4,_⟩:=(HPs.out w8 F8.out).rd;obtain⟨w9,hrun,hm9,hf9⟩:=MapF.store (P:=Tryz.prog) (w:=w8.drew) (HM8.out.fr ((Fr.refl NoM w8).drew) (fun q=>q)) zka Tryz.underlying65 (x,y) false;have hrun:(Instr.mapUpdate 65 (.map (some ob)) (.agg #[.int .i64 (x:Int),.int .i64 (y:Int)]) (.bool false)).run Tryz.prog w8.drew=.ok () w9:=hrun;have HM9:=Hh hm9;have HF9:=Hh hf9;clear hm9 hf9;go_upto_region 21 with fail;go_cut []from 67 (fun wx=>wx=w9)
       case first =>
        go_region_law (fail);all_goals
         go_wp2_with fail;go_meet
         case rel=>rfl
       case rest =>
        subst hcut;clear hrun k0 k1 p4;go_wp2_with fail;go_ret;refine⟨by rw[HN.out];rfl,_,HM9.out,?_,HFW.out.trans ((F8.out.drew).trans HF9.out (fun _ _ q=>q)) (fun _ _ q=>q)⟩;have h:=OrdF.upd HO8.out (x:=x) (y:=y) (by rw[B.len];exact hx) (by rw[B.len];exact hy);rw[←HRes.out,HN.out]at h;exact h
      | false =>
       go_wp2_with fail;go_roundw
       case rel=>exact⟨k+1,f8,rfl,by go_num,by omega,fun r' hr'=>by
        obtain⟨hkl',ee⟩:=List.getElem?_eq_some_iff.1 HR'.out
        rw[List.take_succ_eq_append_getElem hkl',List.mem_append,List.mem_singleton]at hr';rcases hr' with hr'|hr'
        ·exact HAll.out r' hr'
        ·rw[hr',ee];exact HGb.out.symm,HM8.out,HO8.out,F28.out⟩
       case measure=>simp[intOf];omega
     ·have hk':k=R.length:=by omega
      subst hk';have hallR:∀r∈R,geV C y r=false:=by have:=HAll.out;rwa [List.take_length]at this
      have HAllR:=Hh hallR;obtain⟨la,lc,_,_,p0,_,_,_,_,_,hL,_⟩:=(HPs.out w7 F7.out).rd;obtain⟨lb,lo,lv,rfl,r2,s2,i2⟩:=hL y hy;have ix2:=zb0 (some ⟨lb,lo,none⟩) V.length lc y lb lo hy rfl;have hge:=HGe.out;have v1:=HV1.out;obtain⟨L,hLe⟩:∃L,L=(za4 V y).1:=⟨_,rfl⟩;rw[←hLe]at hge v1 s2 i2;have HT:=Hh (fun(W:World) (f:Fr (fun q=>q=ob) w7 W)=>show Nats W lv L from s2.fr f (fun hne q hq e=>hIo (by rw[←e];exact i2 hne q hq)));have hL9:L.length≤9223372036854775807:=by obtain⟨a,c,_,h1,h2,_⟩:=s2;omega
      obtain⟨ta,tc,rfl,z⟩:=id s2;have HGe2:=Hh hge;have HV2:=Hh v1;clear z hallR HAll e4 hge v1 s2 i2 hLe hL;go_wp2_with fail;clear p0 r2 ix2;go_loopw [10,58] (fun b t W=>∃(k:Nat) (f':Nat × Nat→Option Bool),b=.bool true/\t=.int .i64 k/\k≤L.length/\(∀l∈L.take k,geV C l x=false)/\MapF encP encB W ob f'∧OrdF C f'∧Fr (fun q=>q=ob) w7 W) (fun _ t _=>L.length-(intOf t).toNat)
      case atStart=>exact⟨0,f7,rfl,rfl,Nat.zero_le _,by simp,HM7.out,HO7.out,Fr.refl _ _⟩
      case round =>
       obtain⟨k,f6,rfl,rfl,hk,hall,hm6,ho6,hf6⟩:=hrel;obtain⟨w6,rfl⟩:∃w6,w6=wr:=⟨_,rfl⟩;have e4:=HT.out w6 hf6;have HAll:=Hh hall;have HM6:=Hh hm6;have HO6:=Hh ho6;have F6:=Hh (F7.out.trans hf6 (fun _ _ q=>q));have F76:=Hh hf6;clear hall hm6 ho6 hf6;by_cases hkl:k<L.length
       ·obtain⟨r,hr⟩:∃r,L[k]?=some r:=⟨_,List.getElem?_eq_getElem hkl⟩
        have hrx:=HV2.out r (List.mem_of_getElem? hr);obtain⟨a',c',ee,_,_,hcc⟩:=e4;cases ee
        obtain⟨b3,o3,ha3,c3⟩:=hcc k r hr;have c3':w6.cell? ⟨b3,o3+k,none⟩=some (.int .i64 (r:Int)):=c3;have ix3:=zaa ta L.length tc k b3 o3 hkl ha3;have HGq:=Hh (HIh.out r x (by omega) (by omega) hx f6 w6 (HPs.out w6 F6.out) HM6.out HO6.out);have HR':=Hh hr;clear hr hcc ha3 c3;go_wp2_with fail;refine HGq.out.mono ?_
        rintro e w8 ⟨rfl,f8,hm8,ho8,hf8⟩;have HM8:=Hh hm8;have HO8:=Hh ho8;have F8:=Hh (F6.out.trans hf8 (fun _ _ q=>q));have F78:=Hh (F76.out.trans hf8 (fun _ _ q=>q));clear hm8 ho8 hf8 c3';obtain⟨gb,hgb⟩:∃gb,gb=geV C r x:=⟨_,rfl⟩;rw[←hgb];have HGb:=Hh hgb;clear hgb;cases gb with
        | true =>
         have hn:res=false:=by
          cases hc:res with
          | false=>rfl
          | true=>have:=(HGe2.out.1 hc).2 r (List.mem_of_getElem? HR'.out);rw[←HGb.out]at this;cases this
         have HN:=Hh hn;clear hn;obtain⟨k0,k1⟩:=HK.out w8 F8.out;obtain⟨_,_,_,_,_,_,p4,_⟩:=(HPs.out w8 F8.out).rd;obtain⟨w9,hrun,hm9,hf9⟩:=MapF.store (P:=Tryz.prog) (w:=w8.drew) (HM8.out.fr ((Fr.refl NoM w8).drew) (fun q=>q)) zka Tryz.underlying65 (x,y) false;have hrun:(Instr.mapUpdate 65 (.map (some ob)) (.agg #[.int .i64 (x:Int),.int .i64 (y:Int)]) (.bool false)).run Tryz.prog w8.drew=.ok () w9:=hrun;have HM9:=Hh hm9;have HF9:=Hh hf9;clear hm9 hf9;go_upto_region 21 with fail;go_cut []from 67 (fun wx=>wx=w9)
         case first =>
          go_region_law (fail);all_goals
           go_wp2_with fail;go_meet
           case rel=>rfl
         case rest =>
          subst hcut;clear hrun k0 k1 p4;go_wp2_with fail;go_ret;refine⟨by rw[HN.out];rfl,_,HM9.out,?_,HFW.out.trans ((F8.out.drew).trans HF9.out (fun _ _ q=>q)) (fun _ _ q=>q)⟩;have h:=OrdF.upd HO8.out (x:=x) (y:=y) (by rw[B.len];exact hx) (by rw[B.len];exact hy);rw[←HRes.out,HN.out]at h;exact h
        | false =>
         go_wp2_with fail;go_roundw
         case rel=>exact⟨k+1,f8,rfl,by go_num,by omega,fun r' hr'=>by
          obtain⟨hkl',ee⟩:=List.getElem?_eq_some_iff.1 HR'.out
          rw[List.take_succ_eq_append_getElem hkl',List.mem_append,List.mem_singleton]at hr';rcases hr' with hr'|hr'
          ·exact HAll.out r' hr'
          ·rw[hr',ee];exact HGb.out.symm,HM8.out,HO8.out,F78.out⟩
         case measure=>simp[intOf];omega
       ·have hk':k=L.length:=by omega
        subst hk';have hn:res=true:=HGe2.out.2 ⟨HAllR.out,by have:=HAll.out;rwa [List.take_length]at this⟩;have HN:=Hh hn;clear hn e4;obtain⟨k0,k1⟩:=HK.out w6 F6.out;obtain⟨_,_,_,_,_,_,p4,_⟩:=(HPs.out w6 F6.out).rd;obtain⟨w9,hrun,hm9,hf9⟩:=MapF.store (P:=Tryz.prog) (w:=w6.drew) (HM6.out.fr ((Fr.refl NoM w6).drew) (fun q=>q)) zka Tryz.underlying65 (x,y) true;have hrun:(Instr.mapUpdate 65 (.map (some ob)) (.agg #[.int .i64 (x:Int),.int .i64 (y:Int)]) (.bool true)).run Tryz.prog w6.drew=.ok () w9:=hrun;have HM9:=Hh hm9;have HF9:=Hh hf9;clear hm9 hf9;go_upto_region 21 with fail;go_cut []from 67 (fun wx=>wx=w9)
        case first =>
         go_region_law (fail);all_goals
          go_wp2_with fail;go_meet
          case rel=>rfl
        case rest =>
         subst hcut;clear hrun k0 k1 p4;go_wp2_with fail;go_ret;refine⟨by rw[HN.out];rfl,_,HM9.out,?_,HFW.out.trans ((F6.out.drew).trans HF9.out (fun _ _ q=>q)) (fun _ _ q=>q)⟩;have h:=OrdF.upd HO6.out (x:=x) (y:=y) (by rw[B.len];exact hx) (by rw[B.len];exact hy);rw[←HRes.out,HN.out]at h;exact h
end Go.Proofs.YtkofnbjjbcohgaaGreatDoor
