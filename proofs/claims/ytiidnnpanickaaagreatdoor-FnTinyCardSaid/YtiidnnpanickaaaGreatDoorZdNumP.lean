import Derived.Test.YtiidnnpanickaaaGreatDoorZdNodes
import Derived.Deep.CutRange
import Derived.Deep.RegionHeld3
/- What the claim of FnTinyCard needs of: NumP. -/
namespace Go.Proofs.YtiidnnpanickaaaGreatDoor
set_option linter.unusedVariables false
set_option linter.unusedSimpArgs false
open Go.RowKit
theorem tmod2 (T:Int):T.tmod 2=0↔T % 2=0:=by
  rw [← Int.dvd_iff_tmod_eq_zero,← Int.dvd_iff_emod_eq_zero]
theorem tdiv2 {T:Int} (h:T % 2=0):T.tdiv 2=T / 2:=by
  have h1:T=2 * (T / 2):=by omega
  rw [h1,Int.mul_tdiv_cancel_left _ (by decide)]
  omega
theorem goodD_iff (T P:Int):GoodD T P↔-1000000≤T∧T≤1000000∧0≤P∧P≤16∧(P=0∨T.tmod 2≠0):=by
  unfold GoodD
  rw [Ne,Ne,tmod2]
  constructor
  · rintro ⟨⟨a,b⟩,⟨c,d⟩,e⟩;exact ⟨a,b,c,d,e⟩
  · rintro ⟨a,b,c,d,e⟩;exact ⟨⟨a,b⟩,⟨c,d⟩,e⟩
set_option maxHeartbeats 2000000 in
theorem goodDyadicP_any (T P:Int) (w:World) (g:Bool) (hg:g=true↔GoodD T P):Calls Tryz.prog 100 #[.agg #[.int .i64 T,.int .i64 P]] w fun e w'=>e=.returned (.bool g)∧Fr NoM w w':=by
  rw [goodD_iff] at hg
  have HG:=Lib.hid hg
  clear hg
  go_enter Tryz.func100,Tryz.ntmps100
  go_wp2
  all_goals
    go_ret
    refine ⟨congrArg (fun b=>Ending.returned (Value.bool b)) (Bool.eq_iff_iff.2 (Iff.trans ?_ HG.out.symm)),(Fr.refl _ _).alloc _⟩
    simp
    omega
def lowT (t:Int) (p:Nat) (g:Bool):Value:=if g=true then .agg #[.int .i64 (redT t p).1,.int .i64 ((redT t p).2:Int)] else .agg #[.int .i64 0,.int .i64 0]
set_option maxRecDepth 4000 in
set_option maxHeartbeats 4000000 in
theorem lowest_any (t:Int) (p:Nat) (w:World) (ht:-1000000000000≤t∧t≤1000000000000) (hp:p < 1000) (g:Bool) (hg:g=true↔GoodD (redT t p).1 (redT t p).2) :
    Calls Tryz.prog 101 #[.int .i64 t,.int .i64 (p:Int)] w fun e w'=>e=.returned (.tuple #[lowT t p g,.bool g])∧Fr NoM w w':=by
  obtain ⟨w1,hw1⟩:∃ w1,w1=w.alloc (.cells #[.int .i64 0,.int .i64 0] 45):=⟨_,rfl⟩
  have f1:Fr NoM w w1:=by rw [hw1];exact (Fr.refl NoM w).alloc _
  have hs1:w1.heap.size=w.heap.size + 1:=by rw [hw1];simp
  have e1:w1.heap[w.heap.size]?=some (.cells #[.int .i64 0,.int .i64 0] 45 (0,0)):=by rw [hw1];exact heap_alloc_new w _
  have F1:=Lib.hid f1;have HS1:=Lib.hid hs1;have HG:=Lib.hid hg;have E1:=Lib.hid e1
  obtain ⟨x,hx⟩:∃ x,x=redT t p:=⟨_,rfl⟩
  have HX:=Lib.hid hx
  clear f1 hs1 e1 hg hx
  go_enter Tryz.func101,Tryz.ntmps101
  go_upto_region 1 with fail
  rw [← hw1]
  clear hw1
  go_loopw [0,1] (fun v0 v1 W=>∃ (a:Int) (q:Nat),v0=.int .i64 a∧v1=.int .i64 (q:Int)∧q≤p∧(-1000000000000≤a∧a≤1000000000000)∧redT a q=x∧W=w1) (fun _ v1 _=>(intOf v1).toNat)
  case atStart=>exact ⟨t,p,rfl,rfl,Nat.le_refl _,ht,HX.out.symm,rfl⟩
  case round =>
    obtain ⟨a,q,rfl,rfl,hq,ha,hr,hw⟩:=hrel
    have hwr:=hw.symm
    subst hwr
    clear hw
    have HR:=Lib.hid hr
    clear hr
    by_cases hq0:0 < q
    · by_cases he : a % 2 = 0
      · have e1 : a.tmod 2 = 0 := (tmod2 a).2 he
        have e2:a.tdiv 2=a / 2:=tdiv2 he
        have HE:=Lib.hid he
        have hb:-1000000000000≤a / 2∧a / 2≤1000000000000:=by omega
        obtain ⟨r,rfl⟩:∃ r,q=r + 1:=⟨q - 1,by omega⟩
        clear he
        go_wp2
        go_roundw
        case rel=>exact ⟨a / 2,r,rfl,by go_num,by omega,hb,by rw [← HR.out,redT_even HE.out];exact ⟨rfl,trivial⟩⟩
        case measure=>simp [intOf]
      · have e1 : ¬ a.tmod 2 = 0 := fun e => he ((tmod2 a).1 e)
        have e3:redT a q=(a,q):=redT_of (.inr he)
        have HE:=Lib.hid e3
        clear e3 he
        go_wp2_with fail
        have HX':=Lib.hid (show x=(a,q) from by rw [← HR.out];exact HE.out)
        obtain ⟨w2,hw2⟩:∃ w2,w2=w1.alloc (.cells #[.int .i64 a,.int .i64 (q:Int)] 45):=⟨_,rfl⟩
        have f2:Fr NoM w1 w2:=by rw [hw2];exact (Fr.refl NoM w1).alloc _
        have b2:w2.heap[w1.heap.size]?=some (.cells #[.int .i64 a,.int .i64 (q:Int)] 45 (0,0)):=by rw [hw2];exact heap_alloc_new w1 _
        have hg:=HG.out
        rw [← HX.out,HX'.out] at hg
        rw [← hw2]
        have HGd:=Lib.hid (goodDyadicP_any a q w2 g hg)
        have F2:=Lib.hid f2;have B2:=Lib.hid b2
        clear hw2 f2 b2 hg
        (with_reducible refine HGd.out.mono ?_)
        rintro e w3 ⟨rfl,f3⟩
        have F3:=Lib.hid (F2.out.trans f3 (fun _ _ q=>q))
        have b3:=f3.heap B2.out (fun q=>q)
        have b1:=F3.out.heap E1.out (fun q=>q)
        have hne:w1.heap.size≠w.heap.size:=by have:=HS1.out;omega
        have k30:w3.cell? ⟨w1.heap.size,0,none⟩=some (.int .i64 a):=by rw [cell_of_row w3 _ 0 _ _ _ b3];rfl
        have k31:w3.cell? ⟨w1.heap.size,1,none⟩=some (.int .i64 (q:Int)):=by rw [cell_of_row w3 _ 1 _ _ _ b3];rfl
        have k10:w3.cell? ⟨w.heap.size,0,none⟩=some (.int .i64 0):=by rw [cell_of_row w3 _ 0 _ _ _ b1];rfl
        have k11:w3.cell? ⟨w.heap.size,1,none⟩=some (.int .i64 0):=by rw [cell_of_row w3 _ 1 _ _ _ b1];rfl
        have z1:w3.frozen? ⟨w.heap.size,0,none⟩=false:=by simp [World.frozen?,b1]
        have z2:w3.frozen? ⟨w.heap.size,1,none⟩=false:=by simp [World.frozen?,b1]
        clear f3 b3 b1 HGd
        have HFin:=Lib.hid (fun (v:Value) (u1 u2:Value)=>(((F1.out.trans F3.out (fun _ _ q=>q)).setCell ⟨w.heap.size,0,none⟩ u1 (fun h=>absurd h (Nat.lt_irrefl _))).setCell ⟨w.heap.size,1,none⟩ u2 (fun h=>absurd h (Nat.lt_irrefl _)):Fr NoM w ((w3.setCell ⟨w.heap.size,0,none⟩ u1).setCell ⟨w.heap.size,1,none⟩ u2)))
        cases g with
        | false =>
          go_wp2_with fail
          refine bodyPost_ret (v:=.tuple #[.agg #[.int .i64 0,.int .i64 0],.bool false]) (by simp [results,Tryz.results101,go_sem,k10,k11,z1,z2]) rfl ?_
          exact ⟨rfl,HFin.out (.int .i64 0) _ _⟩
        | true =>
          go_wp2_with fail
          refine bodyPost_ret (v:=.tuple #[.agg #[.int .i64 a,.int .i64 (q:Int)],.bool true]) (by simp [results,Tryz.results101,go_sem,k10,k11,z1,z2]) rfl ?_
          refine ⟨?_,HFin.out (.int .i64 0) _ _⟩
          unfold lowT
          rw [← HX.out,HX'.out]
          rfl
    · have HE := Lib.hid (show redT a q = (a, q) from redT_of (.inl (by omega)))
      go_wp2_with fail
      have HX':=Lib.hid (show x=(a,q) from by rw [← HR.out];exact HE.out)
      obtain ⟨w2,hw2⟩:∃ w2,w2=w1.alloc (.cells #[.int .i64 a,.int .i64 (q:Int)] 45):=⟨_,rfl⟩
      have f2:Fr NoM w1 w2:=by rw [hw2];exact (Fr.refl NoM w1).alloc _
      have b2:w2.heap[w1.heap.size]?=some (.cells #[.int .i64 a,.int .i64 (q:Int)] 45 (0,0)):=by rw [hw2];exact heap_alloc_new w1 _
      have hg:=HG.out
      rw [← HX.out,HX'.out] at hg
      rw [← hw2]
      have HGd:=Lib.hid (goodDyadicP_any a q w2 g hg)
      have F2:=Lib.hid f2;have B2:=Lib.hid b2
      clear hw2 f2 b2 hg
      (with_reducible refine HGd.out.mono ?_)
      rintro e w3 ⟨rfl,f3⟩
      have F3:=Lib.hid (F2.out.trans f3 (fun _ _ q=>q))
      have b3:=f3.heap B2.out (fun q=>q)
      have b1:=F3.out.heap E1.out (fun q=>q)
      have hne:w1.heap.size≠w.heap.size:=by have:=HS1.out;omega
      have k30:w3.cell? ⟨w1.heap.size,0,none⟩=some (.int .i64 a):=by rw [cell_of_row w3 _ 0 _ _ _ b3];rfl
      have k31:w3.cell? ⟨w1.heap.size,1,none⟩=some (.int .i64 (q:Int)):=by rw [cell_of_row w3 _ 1 _ _ _ b3];rfl
      have k10:w3.cell? ⟨w.heap.size,0,none⟩=some (.int .i64 0):=by rw [cell_of_row w3 _ 0 _ _ _ b1];rfl
      have k11:w3.cell? ⟨w.heap.size,1,none⟩=some (.int .i64 0):=by rw [cell_of_row w3 _ 1 _ _ _ b1];rfl
      have z1:w3.frozen? ⟨w.heap.size,0,none⟩=false:=by simp [World.frozen?,b1]
      have z2:w3.frozen? ⟨w.heap.size,1,none⟩=false:=by simp [World.frozen?,b1]
      clear f3 b3 b1 HGd
      have HFin:=Lib.hid (fun (v:Value) (u1 u2:Value)=>(((F1.out.trans F3.out (fun _ _ q=>q)).setCell ⟨w.heap.size,0,none⟩ u1 (fun h=>absurd h (Nat.lt_irrefl _))).setCell ⟨w.heap.size,1,none⟩ u2 (fun h=>absurd h (Nat.lt_irrefl _)):Fr NoM w ((w3.setCell ⟨w.heap.size,0,none⟩ u1).setCell ⟨w.heap.size,1,none⟩ u2)))
      cases g with
      | false =>
        go_wp2_with fail
        refine bodyPost_ret (v:=.tuple #[.agg #[.int .i64 0,.int .i64 0],.bool false]) (by simp [results,Tryz.results101,go_sem,k10,k11,z1,z2]) rfl ?_
        exact ⟨rfl,HFin.out (.int .i64 0) _ _⟩
      | true =>
        go_wp2_with fail
        refine bodyPost_ret (v:=.tuple #[.agg #[.int .i64 a,.int .i64 (q:Int)],.bool true]) (by simp [results,Tryz.results101,go_sem,k10,k11,z1,z2]) rfl ?_
        refine ⟨?_,HFin.out (.int .i64 0) _ _⟩
        unfold lowT
        rw [← HX.out,HX'.out]
        rfl
end Go.Proofs.YtiidnnpanickaaaGreatDoor
