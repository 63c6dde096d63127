import Derived.Test.YtlapkmhemepcaaaGreatDoorZib
/- Lemmas. -/
set_option linter.all false
set_option maxHeartbeats 2000000
set_option maxRecDepth 4000
namespace Go.Proofs.YtlapkmhemepcaaaGreatDoor
open Go.RowKit
theorem zrq {R:Nat->Prop}(b:Nat)(v:Value)(NL:List PL)(w:World)(m:w.cell? ⟨b,0,none⟩=some v)(j:NodeL R encN w v NL)(D:NL.length<1000) : Calls Tryz.prog 172 #[.pointer (some ⟨b,0,none⟩)] w λg o=>∃e n:Nat,g=.returned (.pointer (some ⟨e,0,none⟩))/\w.heap.size<=e/\w.heap.size<=n/\OrdR o e b n NL (List.replicate (NL.length*NL.length) 0)/\Fr NoM w o:=by have l:=j.low;obtain⟨x,y,rfl,_,_,_⟩:=j;have t:NL.length*NL.length<1000000:=by{have z:=Nat.mul_le_mul (show NL.length<=999 by omega) (show NL.length<=999 by omega);omega};(obtain⟨a,d⟩:=eX (NL.length*NL.length);have C:(NL.length:Int)*(NL.length:Int)=(a:Int):=by rw[d];exact(Int.natCast_mul _ _).symm);(have A:a<1000000:=by omega);have mk:=λr=>zrk a r (by omega);have p:=Hh l;have q:=Hh m;have f:=Hh d;have B:b<w.heap.size:=World.block_lt_of_cell? w _ m;clear l t d;go_enter Tryz.func172,Tryz.ntmps172;go_wp2_with fail;go_region;all_goals(go_wp2_with fail;go_ret;have c:Fr NoM w ((w.alloc (.cells (zd1 encN 0 a) 3)).alloc (.cells #[.pointer (some ⟨b,0,none⟩),.slice (some ⟨w.heap.size,0,none⟩) a a] 200)).drew:=(((nW w).alloc _).alloc _).drew;have h:=xJ (w.alloc (.cells (zd1 encN 0 a) 3)) (.cells #[.pointer (some ⟨b,0,none⟩),.slice (some ⟨w.heap.size,0,none⟩) a a] 200);rw[xZ]at h;have i:=((nW _).drew).heap h id;have s:RowIs 3 encN (w.alloc (.cells (zd1 encN 0 a) 3)) w.heap.size (List.replicate a 0):=RowIs.made 3 encN w 0 a;refine⟨w.heap.size+1,w.heap.size,rfl,by omega,xW _,⟨?_,?_,⟨_,c.cell q.out id,(p.out.fr0 c).mono (λu k g=>?_)⟩,by omega,by omega,?_,by rw[List.length_replicate]⟩,c⟩;{rw[xX _ _ 0 _ _ _ i];rfl};{rw[xX _ _ 1 _ _ _ i,<-f.out];rfl};{have k:u<w.heap.size:=k;omega};{rw[<-f.out];exact s.fr (((nW _).alloc _).drew) id})
theorem KOK.start (C:List Nat)(N n m:Nat):KOK C N n (List.replicate m 0):=λa b _ _ _=>.inl (by
 rw[xY,List.getElem?_replicate];split <;> rfl)
def natF (b:List (List Int × List Int)):List PL:=b.map λa=>(a.1.map Int.toNat,a.2.map Int.toNat)
theorem zxn (L:List Nat):(ints L).map Int.toNat=L:=by unfold ints;rw[List.map_map];exact(kV λa _=>Int.toNat_natCast a).trans (List.map_id _)
theorem zbc (Fs:List PL):natF (i2 Fs)=Fs:=by unfold natF i2;rw[List.map_map];refine(kV λa _=>?_).trans (List.map_id _);exact Prod.ext (zxn _) (zxn _)
