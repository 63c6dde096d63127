import Derived.Test.YtlapkmhemepcaaaGreatDoorZnw
import Derived.Test.YtlapkmhemepcaaaGreatDoorZnx
/- Lemmas. -/
namespace Go.Proofs.YtlapkmhemepcaaaGreatDoor
set_option linter.unusedVariables false
set_option linter.unusedSimpArgs false
open Go.RowKit
def zcf (a:Nat)(A:List Nat):Prop:=valB a=true/\∀c,c∈A↔∃k,k<A.length/\nusC a 0 k=c
structure Sofar (A:List Nat) (k:Nat) (d:Int × Nat) (S:List Nat):Prop where
 len:S.length=k
 nodup:S.Nodup
 lt:∀s∈S,s<A.length
 code:∃a,(0<k→valB a=true/\valD a=d)/\A.take k=S.map (nusC a 0)
theorem Sofar.start (A:List Nat):Sofar A 0 (0,0) []:=⟨rfl,List.nodup_nil,fun s h=>by simp at h,0,fun h=>by omega,by simp⟩
theorem Sofar.next {A S:List Nat}{k:Nat}{d:Int × Nat}{a s:Nat}(h:Sofar A k d S)(hk:k<A.length)(hn:IsNus A[k] a 0 s)(hs:s<A.length)(hS:s ∉ S)(hd:0<k→valD a=d):Sofar A (k+1) (valD a) (S ++ [s]):=by
 obtain⟨h1,h2,h3,b,h4,h5⟩:=h;refine⟨by rw[List.length_append,h1];rfl,List.nodup_append.2 ⟨h2,by simp,fun x hx y hy e=>hS (by rw[←List.mem_singleton.1 hy,←e];exact hx)⟩,fun x hx=>?_,a,fun _=>⟨hn.1,rfl⟩,?_⟩
 ·rcases List.mem_append.1 hx with q|q
  ·exact h3 x q
  ·rw[List.mem_singleton.1 q];exact hs
 ·rw[List.take_succ_eq_append_getElem hk,h5,List.map_append,hn.2]
  by_cases hk0:0<k
  ·obtain⟨q1,q2⟩:=h4 hk0
   rw[zg7 q1 hn.1 (q2.trans (hd hk0).symm)];rfl
  ·have e0:S=[]:=List.eq_nil_of_length_eq_zero (by omega)
   rw[e0];rfl
theorem Sofar.done {A S:List Nat}{d:Int × Nat}(h:Sofar A A.length d S)(hp:0<A.length):∃a,valD a=d/\zcf a A:=by
 obtain⟨h1,h2,h3,a,h4,h5⟩:=h;obtain⟨q1,q2⟩:=h4 hp;rw[List.take_length]at h5;have hall:∀k,k<A.length→k∈S:=fun k hk=>by
  refine Classical.byContradiction fun q=>?_
  have:=(List.nodup_cons.2 ⟨q,h2⟩).length_le_of_subset (l₂:=List.range A.length) fun x hx=>by
   rcases List.mem_cons.1 hx with rfl|hx
   ·exact List.mem_range.2 hk
   ·exact List.mem_range.2 (h3 x hx)
  rw[List.length_cons,List.length_range,h1]at this
  omega
 refine⟨a,q2,q1,fun c=>⟨fun hc=>?_,fun⟨k,hk,e⟩=>?_⟩⟩
 ·rw[h5]at hc
  obtain⟨s,hs,e⟩:=List.mem_map.1 hc;exact⟨s,h3 s hs,e⟩
 ·rw[h5]
  exact List.mem_map.2 ⟨k,hall k hk,e⟩
theorem Sofar.fits {A S:List Nat}{k:Nat}{d:Int × Nat}{b:Nat}(h:Sofar A k d S)(hk:k<A.length)(hA:A.Nodup)(hb:zcf b A):∃j,j<A.length/\IsNus A[k] b 0 j/\j ∉ S/\(0<k→valD b=d):=by
 obtain⟨h1,h2,h3,a,h4,h5⟩:=h;obtain⟨j,hj,e⟩:=(hb.2 A[k]).1 (List.getElem_mem hk);have one:∀i s,S[i]?=some s→A[i]?=some (nusC a 0 s):=fun i s hs=>by
  have hi:i<k:=by have:=(List.getElem?_eq_some_iff.1 hs).1;omega
  have h6:=congrArg (fun l=>l[i]?) h5;simp only[List.getElem?_take_of_lt hi,List.getElem?_map,hs]at h6;exact h6
 have same:0<k→a=b/\valD b=d:=fun hk0=>by
  obtain⟨q1,q2⟩:=h4 hk0;have hs0:=List.getElem?_eq_getElem (l:=S) (i:=0) (by omega)
  have hA0:=one 0 _ hs0;obtain⟨j0,_,e0⟩:=(hb.2 _).1 (List.mem_of_getElem? hA0);have:=(zo1 _ b a 0 0 j0 _ (zh5 hb.1) (zh5 q1) rfl e0).1;exact⟨this.symm,by rw[this];exact q2⟩
 refine⟨j,hj,⟨hb.1,e.symm⟩,fun hjS=>?_,fun hk0=>(same hk0).2⟩;obtain⟨i,hi,ei⟩:=List.getElem_of_mem hjS;have hik:i<k:=by omega
 have h6:=one i j (by rw[List.getElem?_eq_getElem hi,ei]);rw[(same (by omega)).1,e,List.getElem?_eq_getElem (by omega)]at h6;have:=(List.getElem_inj hA).1 (Option.some.inj h6);omega
theorem ybi {w:World}{b i:Nat}{u:Value}(h:w.cell? ⟨b,i,none⟩=some u):b<w.heap.size:=by
 refine Classical.byContradiction fun q=>?_
 have e:w.heap[b]?=none:=Array.getElem?_eq_none (by omega)
 simp[World.cell?,e]at h
def setU (W:World)(b:Nat)(x:(Int × Nat) × Int × Nat):World:=(((W.setCell ⟨b,0,none⟩ (.int .i64 x.1.1)).setCell ⟨b,1,none⟩ (.int .i64 (x.1.2:Int))).setCell ⟨b,2,none⟩ (.int .i64 x.2.1)).setCell ⟨b,3,none⟩ (.int .i64 (x.2.2:Int))
theorem zr9 (W:World)(b:Nat)(x:(Int × Nat) × Int × Nat):Fr (fun q=>q=b) W (setU W b x) :=
 (((Fr.setCell (M:=fun q=>q=b) (Fr.refl _ W) ⟨b,0,none⟩ (.int .i64 x.1.1) (fun _=>rfl)).setCell ⟨b,1,none⟩ (.int .i64 (x.1.2:Int)) (fun _=>rfl)).setCell ⟨b,2,none⟩ (.int .i64 x.2.1) (fun _=>rfl)).setCell ⟨b,3,none⟩ (.int .i64 (x.2.2:Int)) (fun _=>rfl)
def zpu (pb ob kb:Nat) (mc ms mn:Value) (M I:Nat→Prop) (V:List PL) (BV:List Nat) (A:List Nat) (w:World) (e:Ending) (w':World):Prop :=
  ∃ (x : (Int × Nat) × Int × Nat) (ok : Bool) (f' : Nat × Nat → Option Bool) (g' : Nat → Option ((Int × Nat) × Int × Nat)), e = .returned (.tuple #[zd1 x, .bool ok]) ∧
    (ok=true→∃ a,zcf a A∧x=(valD a,0,A.length))∧(ok=false→∀ a,¬ zcf a A)∧USt pb ob kb mc ms mn M I V BV w' f' g'∧Fr (fun q=>q=ob∨q=kb) w w'
theorem yf3 (w:World)(a b c:Obj):(((w.alloc a).alloc b).alloc c).heap[w.heap.size]?=some a/\(((w.alloc a).alloc b).alloc c).heap[w.heap.size+1]?=some b/\(((w.alloc a).alloc b).alloc c).heap[w.heap.size+1+1]?=some c:=by
 have n1:=heap_alloc_new w a;have n2:=heap_alloc_new (w.alloc a) b;have n3:=heap_alloc_new ((w.alloc a).alloc b) c;simp only[World.size_alloc]at n2 n3;exact⟨(((Fr.refl NoM _).alloc b).alloc c).heap n1 (fun q=>q),((Fr.refl NoM _).alloc c).heap n2 (fun q=>q),n3⟩
structure StarB (w:World) (n:Nat) (W:World) (m:List Bool) (d:Int × Nat):Prop where
 res:W.heap[w.heap.size]?=some (.cells #[.int .i64 0,.int .i64 0,.int .i64 0,.int .i64 0] 92 (0,0))
 seen:RowIs 4 encB W (w.heap.size+1) m
 len:m.length=n
 num:W.heap[w.heap.size+1+1]?=some (.cells #[.int .i64 d.1,.int .i64 (d.2:Int)] 29 (0,0))
theorem StarB.fr {w W W':World}{n:Nat}{m:List Bool}{d:Int × Nat}{X:Nat→Prop}(h:StarB w n W m d)(hf:Fr X W W')(hX:∀q,X q→q<w.heap.size∨w.heap.size+3≤q):StarB w n W' m d :=
 ⟨hf.heap h.res (fun e=>by have:=hX _ e;omega),h.seen.fr hf (fun e=>by have:=hX _ e;omega),h.len,hf.heap h.num (fun e=>by have:=hX _ e;omega)⟩
theorem StarB.num0 {w W:World}{n:Nat}{m:List Bool}{d:Int × Nat}(h:StarB w n W m d):W.cell? ⟨w.heap.size+1+1,0,none⟩=some (.int .i64 d.1)/\W.cell? ⟨w.heap.size+1+1,1,none⟩=some (.int .i64 (d.2:Int))/\W.frozen? ⟨w.heap.size+1+1,0,none⟩=false/\W.frozen? ⟨w.heap.size+1+1,1,none⟩=false :=
 ⟨by rw[cell_of_row W _ 0 _ _ _ h.num];rfl,by rw[cell_of_row W _ 1 _ _ _ h.num];rfl,by simp[World.frozen?,h.num],by simp[World.frozen?,h.num]⟩
theorem StarB.res0 {w W:World}{n:Nat}{m:List Bool}{d:Int × Nat}(h:StarB w n W m d):(W.cell? ⟨w.heap.size,0,none⟩=some (.int .i64 0)/\W.cell? ⟨w.heap.size,1,none⟩=some (.int .i64 0)/\W.cell? ⟨w.heap.size,2,none⟩=some (.int .i64 0)/\W.cell? ⟨w.heap.size,3,none⟩=some (.int .i64 0)) ∧
  W.frozen? ⟨w.heap.size,0,none⟩=false/\W.frozen? ⟨w.heap.size,1,none⟩=false/\W.frozen? ⟨w.heap.size,2,none⟩=false/\W.frozen? ⟨w.heap.size,3,none⟩=false :=
 ⟨⟨by rw[cell_of_row W _ 0 _ _ _ h.res];rfl,by rw[cell_of_row W _ 1 _ _ _ h.res];rfl,by rw[cell_of_row W _ 2 _ _ _ h.res];rfl,by rw[cell_of_row W _ 3 _ _ _ h.res];rfl⟩,by simp[World.frozen?,h.res],by simp[World.frozen?,h.res],by simp[World.frozen?,h.res],by simp[World.frozen?,h.res]⟩
theorem StarB.set {w W:World}{n s:Nat}{m:List Bool}{d e:Int × Nat}(h:StarB w n W m d):StarB w n (((W.setCell ⟨w.heap.size+1+1,0,none⟩ (.int .i64 e.1)).setCell ⟨w.heap.size+1+1,1,none⟩ (.int .i64 (e.2:Int))).setCell ⟨w.heap.size+1,s,none⟩ (.bool true)) (m.set s true) e:=by
 have s1:=Fr.set W ⟨w.heap.size+1+1,0,none⟩ (.int .i64 e.1);have s2:=Fr.set (W.setCell ⟨w.heap.size+1+1,0,none⟩ (.int .i64 e.1)) ⟨w.heap.size+1+1,1,none⟩ (.int .i64 (e.2:Int));have s3:=Fr.set ((W.setCell ⟨w.heap.size+1+1,0,none⟩ (.int .i64 e.1)).setCell ⟨w.heap.size+1+1,1,none⟩ (.int .i64 (e.2:Int))) ⟨w.heap.size+1,s,none⟩ (.bool true);refine⟨s3.heap (s2.heap (s1.heap h.res (fun e=>by have e:w.heap.size=w.heap.size+1+1:=e;omega)) (fun e=>by have e:w.heap.size=w.heap.size+1+1:=e;omega)) (fun e=>by have e:w.heap.size=w.heap.size+1:=e;omega),?_,by rw[List.length_set];exact h.len,?_⟩
 ·have h1:RowIs 4 encB ((W.setCell ⟨w.heap.size+1+1,0,none⟩ (.int .i64 e.1)).setCell ⟨w.heap.size+1+1,1,none⟩ (.int .i64 (e.2:Int))) (w.heap.size+1) m:=(h.seen.fr s1 (fun e=>by have e:w.heap.size+1=w.heap.size+1+1:=e;omega)).fr s2 (fun e=>by have e:w.heap.size+1=w.heap.size+1+1:=e;omega)
  exact h1.set s true
 ·refine s3.heap ?_ (fun e=>by have e:w.heap.size+1+1=w.heap.size+1:=e;omega)
  rw[heap_set (heap_set h.num _) _];rfl
set_option maxRecDepth 4000 in
set_option maxHeartbeats 8000000 in
theorem zov {M I:Nat→Prop} (pb ob kb:Nat) (mc ms mn:Value) (V:List PL) (BV:List Nat) (o:UOut ob kb M I) (hV:V.length≤1000000) (L:List Nat) (ov:Value) (w:World) (f:Nat × Nat→Option Bool) (g:Nat→Option ((Int × Nat) × Int × Nat))
    (hs:USt pb ob kb mc ms mn M I V BV w f g) (hL:Nats w ov L) (hq:∀ q,ov.ownBlock=some q→q≠ob∧q≠kb) (hr:∀ y∈L,zne pb ob kb mc ms mn M I V BV y) (hl:∀ y∈L,y < V.length) (hc:∀ y∈L,CanC ((za0 V).getD y 0)) (hnd:(za2 (za0 V) L).Nodup) (hp:0 < L.length) (hn9:L.length≤1000000) :
    Calls Tryz.prog 178 #[.pointer (some ⟨pb,0,none⟩),ov,.map (some kb)] w fun e w'=>zpu pb ob kb mc ms mn M I V BV (za2 (za0 V) L) w e w':=by
  obtain ⟨A,hA⟩:∃ A,A=za2 (za0 V) L:=⟨_,rfl⟩;have hAl:A.length=L.length:=by rw [hA];unfold za2;rw [List.length_map]
  have hAt:∀ (k y:Nat),L[k]?=some y→∃ h:k < A.length,A[k]=(za0 V).getD y 0:=fun k y hy=>by
    have e:A[k]?=some ((za0 V).getD y 0):=by rw [hA];unfold za2;rw [List.getElem?_map,hy];rfl
    exact ⟨(List.getElem?_eq_some_iff.1 e).1,(List.getElem?_eq_some_iff.1 e).2⟩
  rw [← hA] at hnd ⊢;obtain ⟨w1,hw1⟩:∃ w1,w1=((w.alloc (.cells #[.int .i64 0,.int .i64 0,.int .i64 0,.int .i64 0] 92)).alloc (.cells (zbz encB false L.length) 4)).alloc (.cells #[.int .i64 0,.int .i64 0] 29):=⟨_,rfl⟩;have f1:Fr NoM w w1:=by rw [hw1];exact (((Fr.refl NoM w).alloc _).alloc _).alloc _
  obtain ⟨q0,q1,q2⟩:=yf3 w (.cells #[.int .i64 0,.int .i64 0,.int .i64 0,.int .i64 0] 92) (.cells (zbz encB false L.length) 4) (.cells #[.int .i64 0,.int .i64 0] 29);rw [← hw1] at q0 q1 q2;have hs1:w1.heap.size=w.heap.size + 3:=by rw [hw1];simp
  have hB1:StarB w L.length w1 (List.replicate L.length false) (0,0):=⟨q0,by unfold RowIs;rw [q1];rfl,by simp,q2⟩;have hol:=hs.ord.lt;have hkl:=hs.kn.lt;have hlt:=hs.lt;have HEnd:=Hh (fun (W:World) (x:(Int × Nat) × Int × Nat) (ok:Bool) (f':Nat × Nat→Option Bool) (g':Nat→Option ((Int × Nat) × Int × Nat)) (st:USt pb ob kb mc ms mn M I V BV W f' g') (fr:Fr (fun q=>q=ob∨q=kb∨w.heap.size≤q) w1 W)
      (h1:ok=true→∃ a,zcf a A∧x=(valD a,0,A.length)) (h2:ok=false→∀ a,¬ zcf a A)=>(by
    have s1:=zr9 W w.heap.size x;refine ⟨x,ok,f',g',rfl,h1,h2,st.set s1 (fun q e=>?_),(f1.any.trans fr (fun q hq e=>by rcases e with e | e | e;exact .inl e;exact .inr e;omega)).trans s1 (fun q hq e=>by have e:q=w.heap.size:=e;omega)⟩;have e:q=w.heap.size:=e;subst e;exact ⟨fun e=>by have:=hlt w.heap.size (.inl e);omega,fun e=>by have:=hlt w.heap.size (.inr e);omega,by omega,by omega⟩ :
    zpu pb ob kb mc ms mn M I V BV A w (.returned (.tuple #[zd1 x,.bool ok])) (setU W w.heap.size x)))
  have hst1:=hs.fr0 f1;obtain ⟨oa,oc,rfl,hoc,hocm,hcell⟩:=id hL;have HCell:=Hh (fun (k y:Nat) (hy:L[k]?=some y)=>show ∃ b off,oa=some ⟨b,off,none⟩∧∀ W,Fr (fun q=>q=ob∨q=kb∨w.heap.size≤q) w1 W→W.cell? ⟨b,off + k,none⟩=some (.int .i64 (y:Int)) from by
    obtain ⟨b,off,ha,hc⟩:=hcell k y hy;have hb:=ybi hc;have hbq:=hq b (by rw [ha];rfl);exact ⟨b,off,ha,fun W f=>f.cell (f1.cell hc (fun q=>q)) (fun e=>by
      rcases e with e | e | e
      · exact hbq.1 e
      · exact hbq.2 e
      · exact absurd hb (Nat.not_lt.2 e))⟩)
  have hmk:=yas L.length (by omega);have HMk:=Hh hmk;have H0:=Hh hst1;have HB1:=Hh hB1;have HS1:=Hh hs1;have HLt:=Hh (And.intro hol hkl);have HMI:=Hh hlt;have HR:=Hh hr;have HLl:=Hh hl;have HCc:=Hh hc;have HNd:=Hh hnd;have HP:=Hh hp;have HV:=Hh hV;have HAl:=Hh hAl;have HAt:=Hh hAt;have HN9:=Hh hn9;clear hs hL hq hr hl hc hnd hp f1 q0 q1 q2 hs1 hB1 hol hkl hlt hst1 hcell hAl hAt hA;go_enter Tryz.func178,Tryz.ntmps178;go_upto_region 3 with fail;rw [← hw1];clear hw1 hmk;go_wp2_with fail;go_loopw [20] (fun t W=>∃ (k:Nat) (m:List Bool) (d:Int × Nat) (S:List Nat) (f':Nat × Nat→Option Bool) (g':Nat→Option ((Int × Nat) × Int × Nat)),t=.int .i64 k∧k≤L.length∧StarB w L.length W m d∧Sofar A k d S∧(∀ j,j < L.length→m[j]?=some (decide (j∈S)))∧USt pb ob kb mc ms mn M I V BV W f' g'∧Fr (fun q=>q=ob∨q=kb∨w.heap.size≤q) w1 W) (fun t _=>L.length - (intOf t).toNat)
  case atStart=>exact ⟨0,_,(0,0),[],f,g,rfl,Nat.zero_le _,HB1.out,Sofar.start A,fun j hj=>by rw [List.getElem?_replicate,if_pos hj];simp,H0.out,Fr.refl _ _⟩
  case round =>
    obtain ⟨k,m,d,S,f2,g2,rfl,hk,hB,hS,hm,hst,hfr⟩:=hrel;obtain ⟨w2,rfl⟩:∃ w2,w2=wr:=⟨_,rfl⟩;have HB:=Hh hB;have HSo:=Hh hS;have HM:=Hh hm;have HSt:=Hh hst;have HFr:=Hh hfr;clear hB hS hm hst hfr;by_cases hkl:k < L.length
    · obtain ⟨y, hy⟩ : ∃ y, L[k]? = some y := ⟨_, List.getElem?_eq_getElem hkl⟩
      have hyL:y∈L:=List.mem_of_getElem? hy;obtain ⟨b,off,ha,hcy⟩:=HCell.out k y hy;have k0:=hcy w2 HFr.out;have ix0:=za8 oa L.length oc k b off hkl ha w2;obtain ⟨hkA,hAk⟩:=HAt.out k y hy;have HRd:=Hh (HR.out y hyL f2 g2 w2 HSt.out (HLl.out y hyL) (HCc.out y hyL));obtain ⟨cy,hcy'⟩:∃ cy,cy=(za0 V).getD y 0:=⟨_,rfl⟩;rw [← hcy'] at hAk;have HNext:=Hh (fun (a s:Nat) (q1:IsNus cy a 0 s) (q2:s < L.length) (q3:s ∉ S) (q4:0 < k→valD a=d)=>HSo.out.next hkA (by rw [hAk];exact q1) (by rw [HAl.out];exact q2) q3 q4);have HFit:=Hh (fun (a:Nat) (q:zcf a A)=>show ∃ j,j < L.length∧IsNus cy a 0 j∧j ∉ S∧(0 < k→valD a=d) from by
        obtain ⟨j,q1,q2,q3,q4⟩:=HSo.out.fits hkA HNd.out q;exact ⟨j,by rw [← HAl.out];exact q1,by rw [← hAk];exact q2,q3,q4⟩)
      have hrd:=HRd.out;rw [← hcy'] at hrd;have HRd:=Hh hrd;have HYv:=Hh (HLl.out y hyL);have aL:(k:Int) < (L.length:Int):=by omega
      clear hy hyL ha hcy hAk hkA hcy' hrd;go_wp2_with fail;(with_reducible refine HRd.out.mono ?_);rintro e w3 ⟨x,o1,f3,g3,rfl,hx,st3,r3⟩;unfold zd1;obtain ⟨b3,hb3⟩:∃ b3,b3=w3.heap.size:=⟨_,rfl⟩;obtain ⟨W3,hW3⟩:∃ W3,W3=w3.alloc (.cells (zck x) 92):=⟨_,rfl⟩;have g3':Fr NoM w3 W3:=by rw [hW3];exact (Fr.refl NoM w3).alloc _
      have q3:UBox W3 b3 x:=by rw [hb3];exact UBox.made hW3
      have r3':=r3.trans g3' (fun _ _ q=>q.elim);have hz3:w.heap.size + 3≤b3:=by rw [hb3];have h1:=HFr.out.size;have h2:=HS1.out;have h3:=r3.size;omega
      have HTo:=Hh hx;have HSt3:=Hh (st3.fr0 g3');have HB3:=Hh (HB.out.fr r3' (fun q e=>by have h2:=HLt.out;rcases e with e | e <;> omega));have HF3:=Hh (HFr.out.trans r3' (fun q _ e=>by rcases e with e | e;exact .inl e;exact .inr (.inl e)));have HU:=Hh q3;have HZ3:=Hh hz3;unfold zck at hW3;clear hx st3 r3 r3' g3' q3 k0 ix0 HRd hz3;go_upto_region 7 with fail;rw [← hW3,← hb3];clear hW3 hb3;obtain ⟨x0,x1,x2,x3⟩:=HU.out.cells;obtain ⟨t0,t1,z0,z1⟩:=HB3.out.num0;obtain ⟨⟨r0,r1,r2,r3⟩,r4,r5,r6,r7⟩:=HB3.out.res0;have HEW:=Hh (HEnd.out W3 ((0,0),0,0) false f3 g3 HSt3.out HF3.out (fun e=>by cases e));have HWas:=Hh (fun (a:Nat) (q:zcf a A)=>(by
        obtain ⟨j,q1,q2,q3,q4⟩:=HFit.out a q;cases o1 with
        | false=>exact (HTo.out.2 rfl _ _ _ q2).elim
        | true=>exact ⟨rfl,j,q1,(HTo.out.1 rfl).1.of q2,q3,q4⟩:o1=true∧∃ j,j < L.length∧x=(valD a,0,j)∧j ∉ S∧(0 < k→valD a=d)))
      cases o1 with
      | false =>
        have HNo:=Hh (show ∀ a,¬ zcf a A from fun a q=>by cases (HWas.out a q).1);go_wp2;refine bodyPost_ret (v:=.tuple #[.agg #[.int .i64 0,.int .i64 0,.int .i64 0,.int .i64 0],.bool false]) (by simp [results,Tryz.results178,go_sem,r0,r1,r2,r3,r4,r5,r6,r7]) rfl ?_
        exact HEW.out (fun _=>HNo.out)
      | true =>
        have HNa:=Hh (HTo.out.1 rfl).1;clear HTo;obtain ⟨⟨T,P⟩,nn,s⟩:=x;simp only at x0 x1 x2 x3;obtain ⟨d1,d2⟩:=d;simp only at t0 t1;by_cases hn0:nn=0
        · subst hn0
          by_cases hs9:s < L.length
          · have aS : ¬ (s : Int) ≥ (L.length : Int) := by omega
            have ixs:=zcr (w.heap.size + 1) L.length L.length s hs9 W3;have hms:=HM.out s hs9;have hcs:W3.cell? ⟨w.heap.size + 1,s,none⟩=some (.bool (decide (s∈S))):=by
              rw [HB3.out.seen.cell s (by rw [HB3.out.len];exact hs9)];rw [List.getElem?_eq_getElem (by rw [HB3.out.len];exact hs9)] at hms;rw [Option.some.inj hms];rfl
            clear hms;by_cases hsS:s∈S
            · rw [decide_eq_true hsS] at hcs
              have HsS:=Hh hsS;clear hsS hs9;have HNo:=Hh (show ∀ a,¬ zcf a A from fun a q=>by
                obtain ⟨_,j,q1,e,q3,q4⟩:=HWas.out a q;have e1:=congrArg (fun z=>z.1.1) e;have e2:=congrArg (fun z=>z.1.2) e;have e3:=congrArg (fun z=>z.2.1) e;have e4:=congrArg (fun z=>z.2.2) e;simp only at e1 e2 e3 e4;exact q3 (by rw [← e4];exact HsS.out))
              clear HWas HFit HNext HNa;go_wp2;refine bodyPost_ret (v:=.tuple #[.agg #[.int .i64 0,.int .i64 0,.int .i64 0,.int .i64 0],.bool false]) (by simp [results,Tryz.results178,go_sem,r0,r1,r2,r3,r4,r5,r6,r7]) rfl ?_
              exact HEW.out (fun _=>HNo.out)
            · rw [decide_eq_false hsS] at hcs
              by_cases hk0:k=0
              · have aK : ¬ (k : Int) > 0 := by omega
                have HB9:=Hh (HB3.out.set (s:=s) (e:=(T,P)));have HSo9:=Hh (show Sofar A (k + 1) (T,P) (S ++ [s]) from by
                  obtain ⟨a,ia,da⟩:=HNa.out;have h:=HNext.out a s ia hs9 hsS (fun h=>(by omega:False).elim);rw [da] at h;exact h)
                have HM9:=Hh (show ∀ j,j < L.length→(m.set s true)[j]?=some (decide (j∈S ++ [s])) from fun j hj=>by
                  rw [List.getElem?_set];by_cases e:s=j
                  · subst e
                    rw [if_pos rfl,if_pos (by rw [HB3.out.len];exact hj)];simp
                  · rw [if_neg e, HM.out j hj]
                    have e':¬ j=s:=fun q=>e q.symm
                    simp [e'])
                have s1:=Fr.setCell (M:=fun q=>q=w.heap.size + 1 + 1∨q=w.heap.size + 1) (Fr.refl _ W3) ⟨w.heap.size + 1 + 1,0,none⟩ (.int .i64 T) (fun _=>.inl rfl);have s2:=s1.setCell ⟨w.heap.size + 1 + 1,1,none⟩ (.int .i64 (P:Int)) (fun _=>.inl rfl);have s3:=s2.setCell ⟨w.heap.size + 1,s,none⟩ (.bool true) (fun _=>.inr rfl);have HSt9:=Hh (HSt3.out.set s3 (fun q e=>by
                  have h1:=HMI.out q;have h2:=HLt.out;have e:q=w.heap.size + 1 + 1∨q=w.heap.size + 1:=e;exact ⟨fun h=>by have:=h1 (.inl h);omega,fun h=>by have:=h1 (.inr h);omega,by omega,by omega⟩))
                have HF9:=Hh (HF3.out.trans s3 (fun q hq e=>.inr (.inr (by have e:q=w.heap.size + 1 + 1∨q=w.heap.size + 1:=e;omega))));have u8:Fr (fun q=>q=w.heap.size + 1 + 1) W3 ((W3.setCell ⟨w.heap.size + 1 + 1,0,none⟩ (.int .i64 T)).setCell ⟨w.heap.size + 1 + 1,1,none⟩ (.int .i64 (P:Int))):=(Fr.setCell (M:=fun q=>q=w.heap.size + 1 + 1) (Fr.refl _ W3) ⟨w.heap.size + 1 + 1,0,none⟩ (.int .i64 T) (fun _=>rfl)).setCell ⟨w.heap.size + 1 + 1,1,none⟩ (.int .i64 (P:Int)) (fun _=>rfl);have y3:=u8.cell x3 (fun e=>by have e:b3=w.heap.size + 1 + 1:=e;have h9:=HZ3.out;omega);have hw8:¬ (w.heap.size + 1=w.heap.size + 1 + 1):=by omega
                have y4:((W3.setCell ⟨w.heap.size + 1 + 1,0,none⟩ (.int .i64 T)).setCell ⟨w.heap.size + 1 + 1,1,none⟩ (.int .i64 (P:Int))).cell? ⟨w.heap.size + 1,s,none⟩=some (.bool false):=u8.cell hcs hw8;have y5:=(HB3.out.seen.fr u8 hw8).frozen s;have ix8:=zcr (w.heap.size + 1) L.length L.length s hs9 ((W3.setCell ⟨w.heap.size + 1 + 1,0,none⟩ (.int .i64 T)).setCell ⟨w.heap.size + 1 + 1,1,none⟩ (.int .i64 (P:Int)));clear HWas HFit HNext HNa HEW s1 s2 s3 u8 hw8 hs9 hsS hk0;go_wp2;go_roundw
                case rel=>exact ⟨k + 1,m.set s true,(T,P),S ++ [s],f3,g3,by go_num,by omega,HB9.out,HSo9.out,HM9.out,HSt9.out,HF9.out⟩
                case measure=>simp [intOf];omega
              · have aK : (k : Int) > 0 := by omega
                by_cases hTd:T=d1∧P=d2
                · obtain ⟨rfl, rfl⟩ := hTd
                  have HB9:=Hh (HB3.out.set (s:=s) (e:=(T,P)));have HSo9:=Hh (show Sofar A (k + 1) (T,P) (S ++ [s]) from by
                    obtain ⟨a,ia,da⟩:=HNa.out;have h:=HNext.out a s ia hs9 hsS (fun h=>da);rw [da] at h;exact h)
                  have HM9:=Hh (show ∀ j,j < L.length→(m.set s true)[j]?=some (decide (j∈S ++ [s])) from fun j hj=>by
                    rw [List.getElem?_set];by_cases e:s=j
                    · subst e
                      rw [if_pos rfl,if_pos (by rw [HB3.out.len];exact hj)];simp
                    · rw [if_neg e, HM.out j hj]
                      have e':¬ j=s:=fun q=>e q.symm
                      simp [e'])
                  have s1:=Fr.setCell (M:=fun q=>q=w.heap.size + 1 + 1∨q=w.heap.size + 1) (Fr.refl _ W3) ⟨w.heap.size + 1 + 1,0,none⟩ (.int .i64 T) (fun _=>.inl rfl);have s2:=s1.setCell ⟨w.heap.size + 1 + 1,1,none⟩ (.int .i64 (P:Int)) (fun _=>.inl rfl);have s3:=s2.setCell ⟨w.heap.size + 1,s,none⟩ (.bool true) (fun _=>.inr rfl);have HSt9:=Hh (HSt3.out.set s3 (fun q e=>by
                    have h1:=HMI.out q;have h2:=HLt.out;have e:q=w.heap.size + 1 + 1∨q=w.heap.size + 1:=e;exact ⟨fun h=>by have:=h1 (.inl h);omega,fun h=>by have:=h1 (.inr h);omega,by omega,by omega⟩))
                  have HF9:=Hh (HF3.out.trans s3 (fun q hq e=>.inr (.inr (by have e:q=w.heap.size + 1 + 1∨q=w.heap.size + 1:=e;omega))));have u8:Fr (fun q=>q=w.heap.size + 1 + 1) W3 ((W3.setCell ⟨w.heap.size + 1 + 1,0,none⟩ (.int .i64 T)).setCell ⟨w.heap.size + 1 + 1,1,none⟩ (.int .i64 (P:Int))):=(Fr.setCell (M:=fun q=>q=w.heap.size + 1 + 1) (Fr.refl _ W3) ⟨w.heap.size + 1 + 1,0,none⟩ (.int .i64 T) (fun _=>rfl)).setCell ⟨w.heap.size + 1 + 1,1,none⟩ (.int .i64 (P:Int)) (fun _=>rfl);have y3:=u8.cell x3 (fun e=>by have e:b3=w.heap.size + 1 + 1:=e;have h9:=HZ3.out;omega);have hw8:¬ (w.heap.size + 1=w.heap.size + 1 + 1):=by omega
                  have y4:((W3.setCell ⟨w.heap.size + 1 + 1,0,none⟩ (.int .i64 T)).setCell ⟨w.heap.size + 1 + 1,1,none⟩ (.int .i64 (P:Int))).cell? ⟨w.heap.size + 1,s,none⟩=some (.bool false):=u8.cell hcs hw8;have y5:=(HB3.out.seen.fr u8 hw8).frozen s;have ix8:=zcr (w.heap.size + 1) L.length L.length s hs9 ((W3.setCell ⟨w.heap.size + 1 + 1,0,none⟩ (.int .i64 T)).setCell ⟨w.heap.size + 1 + 1,1,none⟩ (.int .i64 (P:Int)));clear HWas HFit HNext HNa HEW s1 s2 s3 u8 hw8 hs9 hsS hk0;go_wp2;go_roundw
                  case rel=>exact ⟨k + 1,m.set s true,(T,P),S ++ [s],f3,g3,by go_num,by omega,HB9.out,HSo9.out,HM9.out,HSt9.out,HF9.out⟩
                  case measure=>simp [intOf];omega
                · have HTd := Hh hTd
                  clear hTd hs9 hsS;have HNo:=Hh (show ∀ a,¬ zcf a A from fun a q=>by
                    obtain ⟨_,j,q1,e,q3,q4⟩:=HWas.out a q;have e1:=congrArg (fun z=>z.1.1) e;have e2:=congrArg (fun z=>z.1.2) e;have e3:=congrArg (fun z=>z.2.1) e;have e4:=congrArg (fun z=>z.2.2) e;simp only at e1 e2 e3 e4;have h5:=q4 (by omega);exact HTd.out ⟨e1.trans (congrArg Prod.fst h5),e2.trans (congrArg Prod.snd h5)⟩)
                  clear HWas HFit HNext HNa;go_wp2;all_goals first
                    | (refine bodyPost_ret (v:=.tuple #[.agg #[.int .i64 0,.int .i64 0,.int .i64 0,.int .i64 0],.bool false]) (by simp [results,Tryz.results178,go_sem,r0,r1,r2,r3,r4,r5,r6,r7]) rfl ?_
                       exact HEW.out (fun _=>HNo.out))
                    | (exfalso;exact HTd.out ⟨by omega,by omega⟩)
          · have aS : (s : Int) ≥ (L.length : Int) := by omega
            have HS9:=Hh hs9;clear hs9;have HNo:=Hh (show ∀ a,¬ zcf a A from fun a q=>by
              obtain ⟨_,j,q1,e,q3,q4⟩:=HWas.out a q;have e1:=congrArg (fun z=>z.1.1) e;have e2:=congrArg (fun z=>z.1.2) e;have e3:=congrArg (fun z=>z.2.1) e;have e4:=congrArg (fun z=>z.2.2) e;simp only at e1 e2 e3 e4;exact HS9.out (by rw [e4];exact q1))
            clear HWas HFit HNext HNa;go_wp2;refine bodyPost_ret (v:=.tuple #[.agg #[.int .i64 0,.int .i64 0,.int .i64 0,.int .i64 0],.bool false]) (by simp [results,Tryz.results178,go_sem,r0,r1,r2,r3,r4,r5,r6,r7]) rfl ?_
            exact HEW.out (fun _=>HNo.out)
        · have HN0 := Hh hn0
          have HNo:=Hh (show ∀ a,¬ zcf a A from fun a q=>by
            obtain ⟨_,j,q1,e,q3,q4⟩:=HWas.out a q;have e1:=congrArg (fun z=>z.1.1) e;have e2:=congrArg (fun z=>z.1.2) e;have e3:=congrArg (fun z=>z.2.1) e;have e4:=congrArg (fun z=>z.2.2) e;simp only at e1 e2 e3 e4;exact HN0.out e3)
          clear HWas HFit HNext HNa;go_wp2;refine bodyPost_ret (v:=.tuple #[.agg #[.int .i64 0,.int .i64 0,.int .i64 0,.int .i64 0],.bool false]) (by simp [results,Tryz.results178,go_sem,r0,r1,r2,r3,r4,r5,r6,r7]) rfl ?_
          exact HEW.out (fun _=>HNo.out)
    · have hkn : k = L.length := by omega
      have aL:¬ (k:Int) < (L.length:Int):=by omega
      obtain ⟨t0,t1,z0,z1⟩:=HB.out.num0;obtain ⟨⟨r0,r1,r2,r3⟩,r4,r5,r6,r7⟩:=HB.out.res0;have HEW:=Hh (HEnd.out w2 (d,0,L.length) true f2 g2 HSt.out HFr.out (fun _=>by
        obtain ⟨a,h1,h2⟩:=Sofar.done (A:=A) (S:=S) (d:=d) (by have h:=HSo.out;rw [hkn,← HAl.out] at h;exact h) (by rw [HAl.out];exact HP.out);exact ⟨a,h2,by rw [h1,HAl.out]⟩) (fun e=>by cases e))
      clear hkn;go_wp2;refine bodyPost_ret (v:=.tuple #[.agg #[.int .i64 d.1,.int .i64 (d.2:Int),.int .i64 0,.int .i64 (L.length:Int)],.bool true]) (by simp [results,Tryz.results178,go_sem,r0,r1,r2,r3,r4,r5,r6,r7]) rfl ?_
      exact HEW.out
theorem zrb {C L R:List Nat}(hC:C.Nodup)(uL:L.Pairwise (· < ·))(uR:R.Pairwise (· < ·))(lL:∀y∈L,y<C.length)(lR:∀y∈R,y<C.length)(h:∀c,c∈za2 C L↔c∈za2 C R):L=R:=by
 refine zim uL uR fun x=>⟨fun hx=>?_,fun hx=>?_⟩
 ·obtain⟨y,hy,e⟩:=mem_atAll.1 ((h _).1 (mem_atAll.2 ⟨x,hx,rfl⟩))
  rw[←zb9 hC (lR y hy) (lL x hx) e];exact hy
 ·obtain⟨y,hy,e⟩:=mem_atAll.1 ((h _).2 (mem_atAll.2 ⟨x,hx,rfl⟩))
  rw[←zb9 hC (lL y hy) (lR x hx) e];exact hy
section
variable {c:Nat}{A B:List Nat}
theorem zxq (S:Sides c A B)(hv:valB c=false)(h:A.length=0∨B.length=0):zpv c:=fun a n s q=>by
 rcases zez S q hv with h'|h'|h'|h'|h'
 ·obtain⟨_,hs,_,_,l1,l2⟩:=h';omega
 ·obtain⟨_,_,_,_,l1,l2,_⟩:=h';omega
 ·obtain⟨_,_,_,_,l1,l2⟩:=h';omega
 ·obtain⟨_,_,_,_,l1,l2,_⟩:=h';omega
 ·obtain⟨_,_,_,_,l1,l2⟩:=h';omega
theorem zzu (S:Sides c A A)(hp:0<A.length){a:Nat}(h:zcf a A):NusAt c (valD a,0,A.length) :=
 ⟨a,yae S h.1 hp h.2 h.2,rfl⟩
theorem ycd (S:Sides c A A)(hv:valB c=false)(h:∀a,¬zcf a A):zpv c:=fun a n s q=>by
 rcases zez S q hv with h'|h'|h'|h'|h'
 ·obtain⟨_,_,m,_,l1,_⟩:=h'
  exact h a ⟨q.1,by rw[l1];exact m⟩
 ·obtain⟨_,_,m1,m2,_,_,ne⟩:=h'
  exact ne ((m1 _).1 ((m2 _).2 rfl))
 ·obtain⟨_,_,_,_,l1,l2⟩:=h';omega
 ·obtain⟨_,_,m1,m2,_,_,ne⟩:=h'
  exact ne ((m2 _).1 ((m1 _).2 rfl))
 ·obtain⟨_,_,_,_,l1,l2⟩:=h';omega
theorem yeg {l r:Nat}(S:Sides c [l] [r])(ne:l≠r){x y:(Int × Nat) × Int × Nat}(hx:NusAt l x)(hy:NusAt r y)(h1:x.1=y.1)(h2:x.2.1=0)(h3:x.2.2=0)(h4:0≤y.2.1):NusAt c (x.1,y.2.1+1,y.2.2 ^^^ 1):=by
 obtain⟨a,ia,da⟩:=hx;obtain⟨b,ib,db⟩:=hy;have e:=zg7 ib.1 ia.1 (by rw[da,db,h1]);have el:=ia.2;rw[h2,h3,zf9]at el;have er:=ib.2;rw[e]at er;refine⟨a,yeh S ia.1 h4 (fun q=>ne ?_) (fun z=>by rw[List.mem_singleton,el]) (fun z=>by rw[List.mem_singleton,er]),da⟩;rw[q.1,q.2,zf9]at er;rw[el,er]
theorem yad {l r:Nat}(S:Sides c [l] [r])(ne:l≠r){x y:(Int × Nat) × Int × Nat}(hx:NusAt l x)(hy:NusAt r y)(h1:x.1=y.1)(h2:y.2.1=0)(h3:y.2.2=0)(h4:x.2.1≤0):NusAt c (x.1,x.2.1-1,x.2.2 ^^^ 1):=by
 obtain⟨a,ia,da⟩:=hx;obtain⟨b,ib,db⟩:=hy;have e:=zg7 ib.1 ia.1 (by rw[da,db,h1]);have el:=ia.2;have er:=ib.2;rw[h2,h3,zf9,e]at er;refine⟨a,yaf S ia.1 h4 (fun q=>ne ?_) (fun z=>by rw[List.mem_singleton,el]) (fun z=>by rw[List.mem_singleton,er]),da⟩;rw[q.1,q.2,zf9]at el;rw[el,er]
theorem ycs {l r a s:Nat}{n:Int}(S:Sides c [l] [r])(ne:l≠r)(hv:valB c=false)(q:IsNus c a n s) :
  (∃(m:Int) (t:Nat),IsNus l a 0 0/\IsNus r a m t/\0≤m)∨∃(m:Int) (t:Nat),IsNus r a 0 0/\IsNus l a m t/\m≤0/\¬(m=0/\t=0):=by
 rcases zez S q hv with h'|h'|h'|h'|h'
 ·obtain⟨_,_,m1,m2,l1,_⟩:=h'
  refine absurd ?_ ne
  obtain⟨k,hk,e1⟩:=(m1 l).1 (by simp);obtain⟨j,hj,e2⟩:=(m2 r).1 (by simp);have hs:s=1:=l1.symm;obtain rfl:k=0:=by omega
  obtain rfl:j=0:=by omega
  rw[←e1,←e2]
 ·obtain⟨hn,_,m1,m2,_,_,_⟩:=h'
  have e1:=(m1 l).1 (by simp);have e2:=(m2 r).1 (by simp);exact .inl ⟨n-1,s ^^^ 1,⟨q.1,e1⟩,⟨q.1,e2⟩,by omega⟩
 ·obtain⟨_,_,_,_,l1,_⟩:=h'
  simp at l1
 ·obtain⟨hn,_,m1,m2,_,_,hne⟩:=h'
  have e1:=(m1 l).1 (by simp);have e2:=(m2 r).1 (by simp);refine .inr ⟨n+1,s ^^^ 1,⟨q.1,e2⟩,⟨q.1,e1⟩,by omega,fun z=>hne ?_⟩;rw[z.1,z.2,zf9]
 ·obtain⟨_,_,_,_,_,l2⟩:=h'
  simp at l2
theorem ycq {c0 c1 c2 a:Nat}(S:Sides c [c0,c1] [c2])(h:IsPair c0 c1 c2 a):NusAt c (valD a,1,1):=by
 obtain⟨ha,h2,h3⟩:=h;refine⟨a,zut S ha (fun z=>?_) (fun z=>by rw[List.mem_singleton,h2]),rfl⟩;rw[zgx];rcases h3 with ⟨e1,e2⟩|⟨e1,e2⟩
 ·rw[e1,e2]
 ·rw[e1,e2];exact⟨fun q=>q.symm,fun q=>q.symm⟩
theorem zxf {c0 c1 c2 a:Nat}(S:Sides c [c2] [c0,c1])(h:IsPair c0 c1 c2 a):NusAt c (valD a,-1,1):=by
 obtain⟨ha,h2,h3⟩:=h;refine⟨a,zp3 S ha (fun z=>by rw[List.mem_singleton,h2]) (fun z=>?_),rfl⟩;rw[zgx];rcases h3 with ⟨e1,e2⟩|⟨e1,e2⟩
 ·rw[e1,e2]
 ·rw[e1,e2];exact⟨fun q=>q.symm,fun q=>q.symm⟩
theorem ybv {c0 c1 a b:Nat}(ne:c0≠c1)(h:∀x,x∈[c0,c1]↔x=a∨x=b):(c0=a/\c1=b)∨(c0=b/\c1=a):=by
 have h0:=(h c0).1 (by simp);have h1:=(h c1).1 (by simp);rcases h0 with e|e <;> rcases h1 with f|f
 ·exact absurd (e.trans f.symm) ne
 ·exact .inl ⟨e,f⟩
 ·exact .inr ⟨e,f⟩
 ·exact absurd (e.trans f.symm) ne
theorem zur {c0 c1 c2:Nat}(S:Sides c [c0,c1] [c2])(hv:valB c=false)(h:∀a,¬IsPair c0 c1 c2 a):zpv c:=fun a n s q=>by
 have ne:c0≠c1:=fun e=>by have:=S.nl;rw[e]at this;simp at this
 rcases zez S q hv with h'|h'|h'|h'|h'
 ·obtain⟨_,_,_,_,l1,l2⟩:=h';simp at l1 l2;omega
 ·obtain⟨_,_,_,_,l1,_⟩:=h';simp at l1
 ·obtain⟨_,_,m1,m2,_,_⟩:=h'
  exact h a ⟨q.1,(m2 c2).1 (by simp),ybv ne m1⟩
 ·obtain⟨_,_,_,_,l1,_⟩:=h';simp at l1
 ·obtain⟨_,_,_,_,l1,_⟩:=h';simp at l1
theorem zp1 {c0 c1 c2:Nat}(S:Sides c [c2] [c0,c1])(hv:valB c=false)(h:∀a,¬IsPair c0 c1 c2 a):zpv c:=fun a n s q=>by
 have ne:c0≠c1:=fun e=>by have:=S.nr;rw[e]at this;simp at this
 rcases zez S q hv with h'|h'|h'|h'|h'
 ·obtain⟨_,_,_,_,l1,l2⟩:=h';simp at l1 l2;omega
 ·obtain⟨_,_,_,_,_,l2,_⟩:=h';simp at l2
 ·obtain⟨_,_,_,_,_,l2⟩:=h';simp at l2
 ·obtain⟨_,_,_,_,_,l2,_⟩:=h';simp at l2
 ·obtain⟨_,_,m1,m2,_,_⟩:=h'
  exact h a ⟨q.1,(m1 c2).1 (by simp),ybv ne m2⟩
theorem zme (S:Sides c A B)(hv:valB c=false)(h1:¬ ∀x,x∈A↔x∈B)(h2:¬(A.length=1/\B.length=1))(h3:¬(A.length=2/\B.length=1))(h4:¬(A.length=1/\B.length=2)):zpv c:=fun a n s q=>by
 rcases zez S q hv with h'|h'|h'|h'|h'
 ·obtain⟨_,_,m1,m2,_,_⟩:=h'
  exact h1 fun x=>(m1 x).trans (m2 x).symm
 ·obtain⟨_,_,_,_,l1,l2,_⟩:=h';exact h2 ⟨l1,l2⟩
 ·obtain⟨_,_,_,_,l1,l2⟩:=h';exact h3 ⟨l1,l2⟩
 ·obtain⟨_,_,_,_,l1,l2,_⟩:=h';exact h2 ⟨l1,l2⟩
 ·obtain⟨_,_,_,_,l1,l2⟩:=h';exact h4 ⟨l1,l2⟩
end
theorem zt9 {L:List Nat}{p:Nat}(h:L.length=1)(h0:L[0]?=some p):L=[p]:=by
 match L,h,h0 with
 | [a],_,h0=>simpa using h0
theorem ybu {L:List Nat}{p q:Nat}(h:L.length=2)(h0:L[0]?=some p)(h1:L[1]?=some q):L=[p,q]:=by
 match L,h,h0,h1 with
 | [a,b],_,h0,h1=>simp at h0 h1;rw[h0,h1]
theorem SmallU.z (k:Nat)(d:Int × Nat):SmallU k (d,0,0):=⟨Nat.zero_le _,Nat.zero_le _⟩
set_option maxRecDepth 8000 in
set_option maxHeartbeats 16000000 in
theorem zrf {M I:Nat→Prop} (pb ob kb:Nat) (mc ms mn:Value) (V:List PL) (BV:List Nat) (o:UOut ob kb M I) (B:BookC V (za0 V)) (hV:V.length≤1000000) (x:Nat) (hx:x < V.length) (hc:CanC ((za0 V).getD x 0)) (ih:∀ y,y < x→zne pb ob kb mc ms mn M I V BV y)
    (f:Nat × Nat→Option Bool) (g:Nat→Option ((Int × Nat) × Int × Nat)) (w:World) (hs:USt pb ob kb mc ms mn M I V BV w f g) :
    Calls Tryz.prog 131 #[.pointer (some ⟨pb,0,none⟩),.int .i64 (x:Int),.map (some kb)] w fun e w'=>zgp pb ob kb mc ms mn M I V BV x ((za0 V).getD x 0) w e w':=by
  have hS:=zzt B hx;obtain ⟨oL,oR⟩:=zaz B hx;obtain ⟨o1,o2⟩:=B.opts x _ (zad hx);obtain ⟨u1,u2⟩:=B.up x _ (zad hx);have hcl:=za1 V;have HVal:=Hh (fun (W:World) (h:USt pb ob kb mc ms mn M I V BV W f g)=>zvd (BV:=BV) B pb ob mc ms mn o.m.1 o.i.1 _ x (Nat.lt_succ_self _) hx hc f W h.pool h.ord h.ordOK);obtain ⟨c,hcx⟩:∃ c,c=(za0 V).getD x 0:=⟨_,rfl⟩;obtain ⟨L,hLe⟩:∃ L,L=(za5 V x).1:=⟨_,rfl⟩;obtain ⟨R,hRe⟩:∃ R,R=(za5 V x).2:=⟨_,rfl⟩;have hLR:∀ y,(y∈L∨y∈R)→y < x∧CanC ((za0 V).getD y 0):=fun y hy=>by
    rw [hLe,hRe] at hy;rcases hy with h | h
    · exact ⟨o1 y h,hc.opt (.inl ((oL _).2 ⟨y,h,rfl⟩))⟩
    · exact ⟨o2 y h,hc.opt (.inr ((oR _).2 ⟨y,h,rfl⟩))⟩
  have hlenL:L.length≤x:=by
    have:=zmx u1 o1;rw [hLe];exact this
  have hlenR:R.length≤x:=by
    have:=zmx u2 o2;rw [hRe];exact this
  have hsame:(∀ z,z∈za2 (za0 V) L↔z∈za2 (za0 V) R)→L=R:=fun h=>zrb B.nodup (by rw [hLe];exact u1) (by rw [hRe];exact u2) (fun y hy=>by have:=(hLR y (.inl hy)).1;omega) (fun y hy=>by have:=(hLR y (.inr hy)).1;omega) h
  rw [← hcx] at hS HVal ⊢;rw [← hLe,← hRe] at hS;have hAl:∀ T:List Nat,(za2 (za0 V) T).length=T.length:=fun T=>by unfold za2;rw [List.length_map]
  obtain ⟨w1,hw1⟩:∃ w1,w1=w.alloc (.cells #[.int .i64 0,.int .i64 0,.int .i64 0,.int .i64 0] 92):=⟨_,rfl⟩;have f1:Fr NoM w w1:=by rw [hw1];exact (Fr.refl NoM w).alloc _
  have e1:w1.heap[w.heap.size]?=some (.cells #[.int .i64 0,.int .i64 0,.int .i64 0,.int .i64 0] 92 (0,0)):=by rw [hw1];exact heap_alloc_new w _
  have hs1:w1.heap.size=w.heap.size + 1:=by rw [hw1];simp
  have hol:=hs.ord.lt;have hkl:=hs.kn.lt;have hlt:=hs.lt;have hst1:=hs.fr0 f1;have HR:=Hh (fun (W:World) (f:Fr (fun q=>q=ob∨q=kb) w1 W)=>show (W.cell? ⟨w.heap.size,0,none⟩=some (.int .i64 0)∧W.cell? ⟨w.heap.size,1,none⟩=some (.int .i64 0)∧W.cell? ⟨w.heap.size,2,none⟩=some (.int .i64 0)∧W.cell? ⟨w.heap.size,3,none⟩=some (.int .i64 0)) ∧
      W.frozen? ⟨w.heap.size,0,none⟩=false∧W.frozen? ⟨w.heap.size,1,none⟩=false∧W.frozen? ⟨w.heap.size,2,none⟩=false∧W.frozen? ⟨w.heap.size,3,none⟩=false from by
    have h:=f.heap e1 (fun q=>by rcases q with q | q <;> omega);exact ⟨⟨by rw [cell_of_row W _ 0 _ _ _ h];rfl,by rw [cell_of_row W _ 1 _ _ _ h];rfl,by rw [cell_of_row W _ 2 _ _ _ h];rfl,by rw [cell_of_row W _ 3 _ _ _ h];rfl⟩,by simp [World.frozen?,h],by simp [World.frozen?,h],by simp [World.frozen?,h],by simp [World.frozen?,h]⟩)
  have HEnd:=Hh (fun (W:World) (y:(Int × Nat) × Int × Nat) (ok:Bool) (f':Nat × Nat→Option Bool) (g':Nat→Option ((Int × Nat) × Int × Nat)) (st:USt pb ob kb mc ms mn M I V BV W f' g') (fr:Fr (fun q=>q=ob∨q=kb) w1 W) (ht:Told x c y ok)=>(by
    have s1:=zr9 W w.heap.size y;refine ⟨y,ok,f',g',rfl,ht,st.set s1 (fun q e=>?_),(f1.any.trans fr (fun _ _ q=>q)).trans s1 (fun q hq e=>by have e:q=w.heap.size:=e;omega)⟩;have e:q=w.heap.size:=e;subst e;exact ⟨fun e=>by have:=hlt w.heap.size (.inl e);omega,fun e=>by have:=hlt w.heap.size (.inr e);omega,by omega,by omega⟩ :
    zgp pb ob kb mc ms mn M I V BV x c w (.returned (.tuple #[zd1 y,.bool ok])) (setU W w.heap.size y)))
  have HNo:=Hh (fun (W:World) (f':Nat × Nat→Option Bool) (g':Nat→Option ((Int × Nat) × Int × Nat)) (st:USt pb ob kb mc ms mn M I V BV W f' g') (fr:Fr (fun q=>q=ob∨q=kb) w1 W) (h:zpv c)=>HEnd.out W ((0,0),0,0) false f' g' st fr ⟨fun e=>(by cases e),fun _=>h⟩);have HSt1:=Hh hst1;have HS1:=Hh hs1;have HLt:=Hh (And.intro hol hkl);have HMI:=Hh hlt;have HSd:=Hh hS;have HLR:=Hh hLR;have HLl:=Hh (And.intro hlenL hlenR);have HSm:=Hh hsame;have HL:=Hh hLe;have HRe:=Hh hRe;have HCx:=Hh hcx;have HX:=Hh hx;have HV:=Hh hV;have HIh:=Hh ih;have HBk:=Hh B;have HAl:=Hh hAl;have HU:=Hh (And.intro u1 u2);have HO:=Hh o;clear hs f1 e1 hs1 hol hkl hlt hst1 hS oL oR o1 o2 u1 u2 hcl hcx hLe hRe hLR hlenL hlenR hsame hc ih hAl B o hV hx;obtain ⟨T,hT⟩:∃ T,T=(valD c).1:=⟨_,rfl⟩;obtain ⟨P,hP⟩:∃ P,P=(valD c).2:=⟨_,rfl⟩;obtain ⟨gd,hgd⟩:∃ gd,gd=valB c:=⟨_,rfl⟩;have hval:=HVal.out w1 HSt1.out;rw [← hT,← hP,← hgd] at hval;have HVl:=Hh hval;have HTP:=Hh (And.intro hT hP);have HGd:=Hh hgd;clear hval hT hP hgd HVal;go_enter Tryz.func131,Tryz.ntmps131;go_upto_region 1 with fail;rw [← hw1];clear hw1;go_wp2_with fail;(with_reducible refine HVl.out.mono ?_);rintro e w2 ⟨rfl,f2,hm2,ho2,hf2⟩;obtain ⟨b2,hb2⟩:∃ b2,b2=w2.heap.size:=⟨_,rfl⟩;obtain ⟨W2,hW2⟩:∃ W2,W2=w2.alloc (.cells #[.int .i64 T,.int .i64 (P:Int)] 29):=⟨_,rfl⟩;have g2:Fr NoM w2 W2:=by rw [hW2];exact (Fr.refl NoM w2).alloc _
  have e2:W2.heap[b2]?=some (.cells #[.int .i64 T,.int .i64 (P:Int)] 29 (0,0)):=by rw [hW2,hb2];exact heap_alloc_new w2 _
  have HSt2:=Hh ((HSt1.out.ords HO.out hf2 hm2 ho2).fr0 g2);have HF2:=Hh (show Fr (fun q=>q=ob∨q=kb) w1 W2 from (hf2.mono (fun _ _ q=>.inl q)).trans g2 (fun _ _ q=>q.elim));have d0:W2.cell? ⟨b2,0,none⟩=some (.int .i64 T):=by rw [cell_of_row W2 _ 0 _ _ _ e2];rfl
  have d1:W2.cell? ⟨b2,1,none⟩=some (.int .i64 (P:Int)):=by rw [cell_of_row W2 _ 1 _ _ _ e2];rfl
  clear hm2 ho2 hf2 g2 e2 HVl;go_upto_region 2 with fail;rw [← hW2,← hb2];clear hW2 hb2;cases gd with
  | true =>
    obtain ⟨⟨r0,r1,r2,r3⟩,r4,r5,r6,r7⟩:=HR.out W2 HF2.out;have HE:=Hh (HEnd.out W2 ((T,P),0,0) true f2 g HSt2.out HF2.out ⟨fun _=>⟨⟨c,IsNus.self HGd.out.symm,by rw [HTP.out.1,HTP.out.2]⟩,SmallU.z _ _⟩,fun e=>by cases e⟩);go_wp2;refine bodyPost_ret (v:=.tuple #[.agg #[.int .i64 T,.int .i64 (P:Int),.int .i64 0,.int .i64 0],.bool true]) (by simp [results,Tryz.results131,go_sem,r0,r1,r2,r3,r4,r5,r6,r7]) rfl ?_
    exact HE.out
  | false =>
    have HVb:=Hh (show valB c=false from HGd.out.symm);clear d0 d1 HGd HTP;obtain ⟨la,lc,ra,rc,p0,p1,_,_,_,_,hL,hR⟩:=HSt2.out.pool.rd;obtain ⟨lb,lo,lv,rfl,r1,s1,i1⟩:=hL x HX.out;obtain ⟨rb,ro,rv,rfl,r2,s2,i2⟩:=hR x HX.out;rw [← HL.out] at s1 i1;rw [← HRe.out] at s2 i2;have HUL:=Hh (fun (W:World) (f:Fr (fun q=>q=ob∨q=kb) W2 W)=>show Nats W lv L from s1.fr f (fun hne q hq e=>by
      rcases e with e | e
      · exact HO.out.i.1 (by rw [← e];exact i1 hne q hq)
      · exact HO.out.i.2 (by rw [← e];exact i1 hne q hq)))
    have HUR:=Hh (fun (W:World) (f:Fr (fun q=>q=ob∨q=kb) W2 W)=>show Nats W rv R from s2.fr f (fun hne q hq e=>by
      rcases e with e | e
      · exact HO.out.i.1 (by rw [← e];exact i2 hne q hq)
      · exact HO.out.i.2 (by rw [← e];exact i2 hne q hq)))
    have HOL:=Hh (fun (hne:L≠[])=>show ∀ q,lv.ownBlock=some q→q≠ob∧q≠kb from fun q hq=>⟨fun e=>HO.out.i.1 (by rw [← e];exact i1 hne q hq),fun e=>HO.out.i.2 (by rw [← e];exact i1 hne q hq)⟩);have HOR:=Hh (fun (hne:R≠[])=>show ∀ q,rv.ownBlock=some q→q≠ob∧q≠kb from fun q hq=>⟨fun e=>HO.out.i.1 (by rw [← e];exact i2 hne q hq),fun e=>HO.out.i.2 (by rw [← e];exact i2 hne q hq)⟩);have ix1:=zap (some ⟨lb,lo,none⟩) V.length lc x lb lo HX.out rfl;have ix2:=zap (some ⟨rb,ro,none⟩) V.length rc x rb ro HX.out rfl;obtain ⟨ua,uc,rfl,z⟩:=id s1;clear z;obtain ⟨va,vc,rfl,z⟩:=id s2;clear z hL hR s1 s2 i1 i2;go_wp2_with fail;go_quiet (fail);obtain ⟨w3,hw3⟩:∃ w3,w3=W2.drewN nq:=⟨_,rfl⟩;have hf3:Fr NoM W2 w3:=by rw [hw3];exact ⟨rfl,rfl,rfl,Nat.le_refl _,fun _ _ _=>rfl⟩
    rw [← hw3];have HSt3:=Hh (HSt2.out.fr0 hf3);have HF3:=Hh (HF2.out.trans hf3 (fun _ _ q=>q.elim));have HG3:=Hh (hf3.any (M:=fun q=>q=ob∨q=kb));obtain ⟨⟨r0,r1,r2,r3⟩,r4,r5,r6,r7⟩:=HR.out w3 HF3.out;have HNo3:=Hh (fun h=>HNo.out w3 f2 g HSt3.out HF3.out h);clear hf3 hw3 p0 p1 ix1 ix2;by_cases hl0:L.length=0
    · have HN := Hh (HNo3.out (zxq HSd.out HVb.out (.inl (by rw [HAl.out]; exact hl0))))
      have h1:((L.length:Int) == 0)=true:=by rw [beq_iff_eq];omega
      have h1':(L.length:Int)=0:=by omega
      clear hl0;go_wp2;refine bodyPost_ret (v:=.tuple #[.agg #[.int .i64 0,.int .i64 0,.int .i64 0,.int .i64 0],.bool false]) (by simp [results,Tryz.results131,go_sem,r0,r1,r2,r3,r4,r5,r6,r7]) rfl ?_
      exact HN.out
    · have h1 : ((L.length : Int) == 0) = false := by rw [beq_eq_false_iff_ne]; omega
      have h1':¬ (L.length:Int)=0:=by omega
      by_cases hr0:R.length=0
      · have HN := Hh (HNo3.out (zxq HSd.out HVb.out (.inr (by rw [HAl.out]; exact hr0))))
        have h2:((R.length:Int) == 0)=true:=by rw [beq_iff_eq];omega
        have h2':(R.length:Int)=0:=by omega
        clear hl0 hr0;go_wp2;refine bodyPost_ret (v:=.tuple #[.agg #[.int .i64 0,.int .i64 0,.int .i64 0,.int .i64 0],.bool false]) (by simp [results,Tryz.results131,go_sem,r0,r1,r2,r3,r4,r5,r6,r7]) rfl ?_
        exact HN.out
      · have h2 : ((R.length : Int) == 0) = false := by rw [beq_eq_false_iff_ne]; omega
        have h2':¬ (R.length:Int)=0:=by omega
        have HneL:=Hh (show L≠[] from fun e=>hl0 (by rw [e];rfl));have HneR:=Hh (show R≠[] from fun e=>hr0 (by rw [e];rfl));obtain ⟨p,hp⟩:∃ p,L[0]?=some p:=⟨_,List.getElem?_eq_getElem (by omega)⟩;obtain ⟨q,hq⟩:∃ q,R[0]?=some q:=⟨_,List.getElem?_eq_getElem (by omega)⟩;have HPq:=Hh (And.intro hp hq);have HpL:=Hh (List.mem_of_getElem? hp);have HqR:=Hh (List.mem_of_getElem? hq);have HCp:=Hh (fun (W:World) (f:Fr (fun q=>q=ob∨q=kb) W2 W)=>show ∃ b off,(∀ W,(Instr.indexAt 100 (.slice ua L.length uc) (.int .i64 0)).run Tryz.prog W=.ok (.pointer (some ⟨b,off,none⟩)) W)∧W.cell? ⟨b,off,none⟩=some (.int .i64 (p:Int)) from by
          obtain ⟨_,_,e,_,_,hc⟩:=HUL.out W f;cases e
          obtain ⟨b,off,ha,hc⟩:=hc 0 p HPq.out.1;exact ⟨b,off,fun W=>za8 ua L.length uc 0 b off (List.getElem?_eq_some_iff.1 HPq.out.1).1 ha W,hc⟩)
        have HCq:=Hh (fun (W:World) (f:Fr (fun q=>q=ob∨q=kb) W2 W)=>show ∃ b off,(∀ W,(Instr.indexAt 100 (.slice va R.length vc) (.int .i64 0)).run Tryz.prog W=.ok (.pointer (some ⟨b,off,none⟩)) W)∧W.cell? ⟨b,off,none⟩=some (.int .i64 (q:Int)) from by
          obtain ⟨_,_,e,_,_,hc⟩:=HUR.out W f;cases e
          obtain ⟨b,off,ha,hc⟩:=hc 0 q HPq.out.2;exact ⟨b,off,fun W=>za8 va R.length vc 0 b off (List.getElem?_eq_some_iff.1 HPq.out.2).1 ha W,hc⟩)
        clear hp hq;by_cases hlr:L.length=R.length
        · have h3 : ((L.length : Int) == (R.length : Int)) = true := by rw [beq_iff_eq]; omega
          have h3':(L.length:Int)=(R.length:Int):=by omega
          clear h3';have HAk:=Hh (zyz (.pointer (some ⟨pb,0,none⟩)) (.slice ua L.length uc) (.slice va R.length vc) L R w3 (HUL.out w3 HG3.out) (HUR.out w3 HG3.out) hlr);have HLR2:=Hh hlr;have HL0:=Hh hl0;clear r0 r1 r2 r3 r4 r5 r6 r7 hlr;go_wp2_with fail;(with_reducible refine HAk.out.mono ?_);rintro e w4 ⟨rfl,f4⟩;obtain ⟨bA,hbA⟩:∃ bA,bA=decide (L=R):=⟨_,rfl⟩;rw [← hbA];have HbA:=Hh hbA;have HSt4:=Hh (HSt3.out.fr0 f4);have HF4:=Hh (HF3.out.trans f4 (fun _ _ q=>q.elim));have HG4:=Hh (HG3.out.trans f4 (fun _ _ q=>q.elim));have HNo4:=Hh (fun h=>HNo.out w4 f2 g HSt4.out HF4.out h);clear hbA f4 HAk;have hlr:=HLR2.out;cases bA with
          | true =>
            have HEq:=Hh (show L=R from of_decide_eq_true HbA.out.symm);have HStr:=Hh (zov pb ob kb mc ms mn V BV HO.out HV.out L (.slice ua L.length uc) w4 f2 g HSt4.out (HUL.out w4 HG4.out) (HOL.out HneL.out) (fun y hy=>HIh.out y (HLR.out y (.inl hy)).1) (fun y hy=>by have:=(HLR.out y (.inl hy)).1;have:=HX.out;omega) (fun y hy=>(HLR.out y (.inl hy)).2) HSd.out.nl (by have:=HL0.out;omega) (by have:=HLl.out.1;have:=HX.out;have:=HV.out;omega));clear hlr hl0 hr0;go_wp2_with fail;(with_reducible refine HStr.out.mono ?_);rintro e w5 ⟨y,ok,f5,g5,rfl,hy1,hy2,st5,fr5⟩;unfold zd1;have HF5:=Hh (HF4.out.trans fr5 (fun _ _ q=>q));have HE:=Hh (HEnd.out w5 y ok f5 g5 st5 HF5.out ⟨fun e=>by
              obtain ⟨a,h1,h2⟩:=hy1 e;have hS:=HSd.out;rw [← HEq.out] at hS;refine ⟨?_,?_⟩
              · rw [h2];exact zzu hS (by rw [HAl.out];have:=HL0.out;omega) h1
              · rw [h2];exact ⟨by simp,by rw [HAl.out];exact HLl.out.1⟩,fun e=>by
              have hS:=HSd.out;rw [← HEq.out] at hS;exact ycd hS HVb.out (hy2 e)⟩)
            obtain ⟨⟨r0,r1,r2,r3⟩,r4,r5,r6,r7⟩:=HR.out w5 HF5.out;clear hy1 hy2 st5 fr5 HStr;go_wp2;refine bodyPost_ret (v:=.tuple #[.agg #[.int .i64 y.1.1,.int .i64 (y.1.2:Int),.int .i64 y.2.1,.int .i64 (y.2.2:Int)],.bool ok]) (by simp [results,Tryz.results131,go_sem,r0,r1,r2,r3,r4,r5,r6,r7]) rfl ?_
            exact HE.out
          | false =>
            have HNe:=Hh (show ¬ L=R from of_decide_eq_false HbA.out.symm);obtain ⟨⟨r0,r1,r2,r3⟩,r4,r5,r6,r7⟩:=HR.out w4 HF4.out;by_cases hl1:L.length=1
            · have h4 : ((L.length : Int) == 1) = true := by rw [beq_iff_eq]; omega
              have h4':(L.length:Int)=1:=by omega
              have h5:((R.length:Int) == 1)=true:=by rw [beq_iff_eq];omega
              have h5':(R.length:Int)=1:=by omega
              have hX1:L=[p]:=zt9 hl1 HPq.out.1;have hY1:R=[q]:=zt9 (by omega) HPq.out.2;have hS:=HSd.out;rw [hX1,hY1] at hS;have hS:Sides c [(za0 V).getD p 0] [(za0 V).getD q 0]:=hS;have hm0:=HLR.out p (.inl (List.mem_of_getElem? HPq.out.1));have hm1:=HLR.out q (.inr (List.mem_of_getElem? HPq.out.2));have hxv:=HX.out;obtain ⟨cl,hcl⟩:∃ cl,cl=(za0 V).getD p 0:=⟨_,rfl⟩;obtain ⟨cr,hcr⟩:∃ cr,cr=(za0 V).getD q 0:=⟨_,rfl⟩;have hne:cl≠cr:=fun e=>HNe.out (by
                rw [hX1,hY1];rw [hcl,hcr] at e;rw [zb9 HBk.out.nodup (by rw [za1];omega) (by rw [za1];omega) e])
              rw [← hcl,← hcr] at hS;have HRp:=Hh (fun (W:World) (f':Nat × Nat→Option Bool) (g':Nat→Option ((Int × Nat) × Int × Nat)) (st:USt pb ob kb mc ms mn M I V BV W f' g')=>show Calls Tryz.prog 77 #[.pointer (some ⟨pb,0,none⟩),.int .i64 (p:Int),.map (some kb)] W fun e w'=>zgp pb ob kb mc ms mn M I V BV p cl W e w' from by
                rw [hcl];exact HIh.out p hm0.1 f' g' W st (by omega) hm0.2)
              have HRq:=Hh (fun (W:World) (f':Nat × Nat→Option Bool) (g':Nat→Option ((Int × Nat) × Int × Nat)) (st:USt pb ob kb mc ms mn M I V BV W f' g')=>show Calls Tryz.prog 77 #[.pointer (some ⟨pb,0,none⟩),.int .i64 (q:Int),.map (some kb)] W fun e w'=>zgp pb ob kb mc ms mn M I V BV q cr W e w' from by
                rw [hcr];exact HIh.out q hm1.1 f' g' W st (by omega) hm1.2)
              have HSS:=Hh hS;have HCne:=Hh hne;have HPx:=Hh (And.intro hm0.1 hm1.1);obtain ⟨bp,op,ixp,kp⟩:=HCp.out w4 HG4.out;have ixp:=ixp w4;clear hX1 hY1 hS hm0 hm1 hxv hcl hcr hne hl0 hr0 hlr hl1 r0 r1 r2 r3 r4 r5 r6 r7;go_wp2_with fail;(with_reducible refine (HRp.out w4 f2 g HSt4.out).mono ?_);rintro e w5 ⟨y,o1,f5,g5,rfl,hy,st5,r5⟩;unfold zd1;obtain ⟨b5,hb5⟩:∃ b5,b5=w5.heap.size:=⟨_,rfl⟩;obtain ⟨W5,hW5⟩:∃ W5,W5=w5.alloc (.cells (zck y) 92):=⟨_,rfl⟩;have g5':Fr NoM w5 W5:=by rw [hW5];exact (Fr.refl NoM w5).alloc _
              have q5:UBox W5 b5 y:=by rw [hb5];exact UBox.made hW5
              have HTy:=Hh hy;have HSt5:=Hh (st5.fr0 g5');have HF5:=Hh ((HF4.out.trans r5 (fun _ _ q=>q)).trans g5' (fun _ _ q=>q.elim));have HG5:=Hh ((HG4.out.trans r5 (fun _ _ q=>q)).trans g5' (fun _ _ q=>q.elim));have HB5:=Hh q5;have HZ5:=Hh (show ob < b5∧kb < b5∧w.heap.size < b5 from by
                have h1:=(HF4.out.trans r5 (fun _ _ q=>q)).size;have h2:=HS1.out;have h3:=HLt.out;rw [hb5];omega)
              unfold zck at hW5;clear hy st5 r5 g5' q5 kp ixp;go_upto_region 11 with fail;rw [← hW5,← hb5];clear hW5 hb5;obtain ⟨bq,oq,ixq,kq⟩:=HCq.out W5 HG5.out;have ixq:=ixq W5;go_wp2_with fail;(with_reducible refine (HRq.out W5 f5 g5 HSt5.out).mono ?_);rintro e w6 ⟨z,o2,f6,g6,rfl,hz,st6,r6⟩;unfold zd1;obtain ⟨b6,hb6⟩:∃ b6,b6=w6.heap.size:=⟨_,rfl⟩;obtain ⟨W6,hW6⟩:∃ W6,W6=w6.alloc (.cells (zck z) 92):=⟨_,rfl⟩;have g6':Fr NoM w6 W6:=by rw [hW6];exact (Fr.refl NoM w6).alloc _
              have q6:UBox W6 b6 z:=by rw [hb6];exact UBox.made hW6
              have r6':=r6.trans g6' (fun _ _ q=>q.elim);have HTz:=Hh hz;have HF6:=Hh (HF5.out.trans r6' (fun _ _ q=>q));have HB5:=Hh (HB5.out.fr r6' (fun e=>by have h1:=HZ5.out;rcases e with e | e <;> omega));have HB6:=Hh q6;have HE:=Hh (fun (v:(Int × Nat) × Int × Nat) (ok:Bool) (ht:Told x c v ok)=>HEnd.out W6 v ok f6 g6 (st6.fr0 g6') HF6.out ht);have HN6:=Hh (fun h=>HNo.out W6 f6 g6 (st6.fr0 g6') HF6.out h);unfold zck at hW6;clear hz st6 r6 r6' g6' q6 kq ixq;go_upto_region 12 with fail;rw [← hW6,← hb6];clear hW6 hb6;obtain ⟨y0,y1,y2,y3⟩:=HB5.out.cells;obtain ⟨z0,z1,z2,z3⟩:=HB6.out.cells;obtain ⟨⟨r0,r1,r2,r3⟩,r4,r5,r6,r7⟩:=HR.out W6 HF6.out;have HWas:=Hh (fun (a:Nat) (n:Int) (s:Nat) (qq:IsNus c a n s)=>(by
                rcases ycs HSS.out HCne.out HVb.out qq with ⟨m,t,i1,i2,h⟩ | ⟨m,t,i1,i2,h,h'⟩
                · refine ⟨?_, ?_, .inl ⟨m, t, ?_, ?_, h⟩⟩
                  · cases o1 with
                    | true=>rfl
                    | false=>exact (HTy.out.2 rfl _ _ _ i1).elim
                  · cases o2 with
                    | true=>rfl
                    | false=>exact (HTz.out.2 rfl _ _ _ i2).elim
                  · cases o1 with
                    | true=>exact (HTy.out.1 rfl).1.of i1
                    | false=>exact (HTy.out.2 rfl _ _ _ i1).elim
                  · cases o2 with
                    | true=>exact (HTz.out.1 rfl).1.of i2
                    | false=>exact (HTz.out.2 rfl _ _ _ i2).elim
                · refine ⟨?_, ?_, .inr ⟨m, t, ?_, ?_, h, h'⟩⟩
                  · cases o1 with
                    | true=>rfl
                    | false=>exact (HTy.out.2 rfl _ _ _ i2).elim
                  · cases o2 with
                    | true=>rfl
                    | false=>exact (HTz.out.2 rfl _ _ _ i1).elim
                  · cases o1 with
                    | true=>exact (HTy.out.1 rfl).1.of i2
                    | false=>exact (HTy.out.2 rfl _ _ _ i2).elim
                  · cases o2 with
                    | true=>exact (HTz.out.1 rfl).1.of i1
                    | false=>exact (HTz.out.2 rfl _ _ _ i1).elim :
                o1=true∧o2=true∧((∃ (m:Int) (t:Nat),y=(valD a,0,0)∧z=(valD a,m,t)∧0≤m)∨∃ (m:Int) (t:Nat),y=(valD a,m,t)∧z=(valD a,0,0)∧m≤0∧¬ (m=0∧t=0))))
              cases o1 with
              | false =>
                have HN:=Hh (HN6.out (fun a n s qq=>by cases (HWas.out a n s qq).1));clear HWas;go_wp2;refine bodyPost_ret (v:=.tuple #[.agg #[.int .i64 0,.int .i64 0,.int .i64 0,.int .i64 0],.bool false]) (by simp [results,Tryz.results131,go_sem,r0,r1,r2,r3,r4,r5,r6,r7]) rfl ?_
                exact HN.out
              | true =>
                cases o2 with
                | false =>
                  have HN:=Hh (HN6.out (fun a n s qq=>by cases (HWas.out a n s qq).2.1));clear HWas;go_wp2;refine bodyPost_ret (v:=.tuple #[.agg #[.int .i64 0,.int .i64 0,.int .i64 0,.int .i64 0],.bool false]) (by simp [results,Tryz.results131,go_sem,r0,r1,r2,r3,r4,r5,r6,r7]) rfl ?_
                  exact HN.out
                | true =>
                  have HNy:=Hh (HTy.out.1 rfl).1;have HNz:=Hh (HTz.out.1 rfl).1;have HBd:=Hh (And.intro (HTy.out.1 rfl).2 (HTz.out.1 rfl).2);clear HTy HTz;obtain ⟨⟨T1,P1⟩,n1,s1⟩:=y;obtain ⟨⟨T2,P2⟩,n2,s2⟩:=z;simp only at y0 y1 y2 y3 z0 z1 z2 z3;have HW:=Hh (fun (a:Nat) (n:Int) (s:Nat) (qq:IsNus c a n s)=>(by
                    obtain ⟨_,_,h⟩:=HWas.out a n s qq;rcases h with ⟨m,t,e1,e2,h⟩ | ⟨m,t,e1,e2,h,h'⟩
                    · have a1 := congrArg (fun z => z.1.1) e1
                      have a2:=congrArg (fun z=>z.1.2) e1;have a3:=congrArg (fun z=>z.2.1) e1;have a4:=congrArg (fun z=>z.2.2) e1;have b1:=congrArg (fun z=>z.1.1) e2;have b2:=congrArg (fun z=>z.1.2) e2;have b3:=congrArg (fun z=>z.2.1) e2;simp only at a1 a2 a3 a4 b1 b2 b3;exact ⟨⟨a1.trans b1.symm,a2.trans b2.symm⟩,.inl ⟨a3,a4,by omega⟩⟩
                    · have a1 := congrArg (fun z => z.1.1) e1
                      have a2:=congrArg (fun z=>z.1.2) e1;have a3:=congrArg (fun z=>z.2.1) e1;have a4:=congrArg (fun z=>z.2.2) e1;have b1:=congrArg (fun z=>z.1.1) e2;have b2:=congrArg (fun z=>z.1.2) e2;have b3:=congrArg (fun z=>z.2.1) e2;have b4:=congrArg (fun z=>z.2.2) e2;simp only at a1 a2 a3 a4 b1 b2 b3 b4;exact ⟨⟨a1.trans b1.symm,a2.trans b2.symm⟩,.inr ⟨b3,b4,by omega,fun q=>h' ⟨by omega,by omega⟩⟩⟩ :
                    (T1=T2∧P1=P2)∧((n1=0∧s1=0∧0≤n2)∨(n2=0∧s2=0∧n1≤0∧¬ (n1=0∧s1=0)))))
                  clear HWas;have HB9:=Hh (show (n1.natAbs≤p∧s1≤p)∧(n2.natAbs≤q∧s2≤q)∧p < x∧q < x∧x≤1000000 from by
                    have h1:=HBd.out;have h2:=HPx.out;have h3:=HX.out;have h4:=HV.out;exact ⟨h1.1,h1.2,h2.1,h2.2,by omega⟩)
                  by_cases hnum:T1=T2∧P1=P2
                  · obtain ⟨rfl, rfl⟩ := hnum
                    by_cases h14:n1=0∧s1=0∧0≤n2
                    · obtain ⟨rfl, rfl, hn2⟩ := h14
                      have hx2:=zhv s2 (by have:=HB9.out;omega);have hu:=yeg HSS.out HCne.out HNy.out HNz.out rfl rfl rfl hn2;have HE2:=Hh (HE.out ((T1,P1),n2 + 1,s2 ^^^ 1) true ⟨fun _=>⟨hu,by
                        have h1:=zpy s2;have h2:=HB9.out;exact ⟨by simp only;omega,by simp only;omega⟩⟩,fun e=>by cases e⟩)
                      have hb1:n2≤1000000:=by have:=HB9.out;omega
                      have hg:n2 ≥ 0:=hn2;clear hu hn2;go_wp2;refine bodyPost_ret (v:=.tuple #[.agg #[.int .i64 T1,.int .i64 (P1:Int),.int .i64 (n2 + 1),.int .i64 ((s2 ^^^ 1:Nat):Int)],.bool true]) (by simp [results,Tryz.results131,go_sem,r0,r1,r2,r3,r4,r5,r6,r7]) rfl ?_
                      exact HE2.out
                    · by_cases h16 : n2 = 0 ∧ s2 = 0 ∧ n1 ≤ 0
                      · obtain ⟨rfl, rfl, hn1⟩ := h16
                        have hx2:=zhv s1 (by have:=HB9.out;omega);have hu:=yad HSS.out HCne.out HNy.out HNz.out rfl rfl rfl hn1;have HE2:=Hh (HE.out ((T1,P1),n1 - 1,s1 ^^^ 1) true ⟨fun _=>⟨hu,by
                          have h1:=zpy s1;have h2:=HB9.out;exact ⟨by simp only;omega,by simp only;omega⟩⟩,fun e=>by cases e⟩)
                        have hb1:-1000000≤n1:=by have:=HB9.out;omega
                        clear hu;by_cases hz1:n1=0
                        · have hs1 : ¬ s1 = 0 := fun e => h14 ⟨hz1, e, by omega⟩
                          subst hz1;have hs1':¬ (s1:Int)=0:=by omega
                          have hs1'':((s1:Int) == 0)=false:=by rw [beq_eq_false_iff_ne];omega
                          clear h14 hs1 hb1 hn1;go_wp2;refine bodyPost_ret (v:=.tuple #[.agg #[.int .i64 T1,.int .i64 (P1:Int),.int .i64 (0 - 1),.int .i64 ((s1 ^^^ 1:Nat):Int)],.bool true]) (by simp [results,Tryz.results131,go_sem,r0,r1,r2,r3,r4,r5,r6,r7]) rfl ?_
                          exact HE2.out
                        · have hz2 : (n1 == 0) = false := by rw [beq_eq_false_iff_ne]; omega
                          have hb2:n1≤0:=hn1;clear h14 hn1;go_wp2;refine bodyPost_ret (v:=.tuple #[.agg #[.int .i64 T1,.int .i64 (P1:Int),.int .i64 (n1 - 1),.int .i64 ((s1 ^^^ 1:Nat):Int)],.bool true]) (by simp [results,Tryz.results131,go_sem,r0,r1,r2,r3,r4,r5,r6,r7]) rfl ?_
                          exact HE2.out
                      · have HN := Hh (HN6.out (fun a n s qq => by
                          rcases (HW.out a n s qq).2 with h | h
                          · exact h14 h
                          · exact h16 ⟨h.1,h.2.1,h.2.2.1⟩))
                        have H14:=Hh h14;have H16:=Hh h16;clear h14 h16 HW;go_wp2;all_goals first
                          | (refine bodyPost_ret (v:=.tuple #[.agg #[.int .i64 0,.int .i64 0,.int .i64 0,.int .i64 0],.bool false]) (by simp [results,Tryz.results131,go_sem,r0,r1,r2,r3,r4,r5,r6,r7]) rfl ?_
                             exact HN.out)
                          | (exfalso;exact H14.out ⟨by omega,by omega,by omega⟩)
                          | (exfalso;exact H16.out ⟨by omega,by omega,by omega⟩)
                  · have HNu := Hh hnum
                    have HN:=Hh (HN6.out (fun a n s qq=>hnum (HW.out a n s qq).1));clear hnum HW;go_wp2;all_goals first
                      | (refine bodyPost_ret (v:=.tuple #[.agg #[.int .i64 0,.int .i64 0,.int .i64 0,.int .i64 0],.bool false]) (by simp [results,Tryz.results131,go_sem,r0,r1,r2,r3,r4,r5,r6,r7]) rfl ?_
                         exact HN.out)
                      | (exfalso;exact HNu.out ⟨by omega,by omega⟩)
            · by_cases hl2 : L.length = 2
              · have HN := Hh (HNo4.out (zme HSd.out HVb.out (fun h => HNe.out (HSm.out h)) (by rw [HAl.out, HAl.out]; omega) (by rw [HAl.out, HAl.out]; omega) (by rw [HAl.out, HAl.out]; omega)))
                have h4:((L.length:Int) == 1)=false:=by rw [beq_eq_false_iff_ne];omega
                have h4':¬ (L.length:Int)=1:=by omega
                have h5:((L.length:Int) == 2)=true:=by rw [beq_iff_eq];omega
                have h5':(L.length:Int)=2:=by omega
                have h6:((R.length:Int) == 1)=false:=by rw [beq_eq_false_iff_ne];omega
                have h6':¬ (R.length:Int)=1:=by omega
                clear hl0 hr0 hlr hl1 hl2;go_wp2;refine bodyPost_ret (v:=.tuple #[.agg #[.int .i64 0,.int .i64 0,.int .i64 0,.int .i64 0],.bool false]) (by simp [results,Tryz.results131,go_sem,r0,r1,r2,r3,r4,r5,r6,r7]) rfl ?_
                exact HN.out
              · have HN := Hh (HNo4.out (zme HSd.out HVb.out (fun h => HNe.out (HSm.out h)) (by rw [HAl.out, HAl.out]; omega) (by rw [HAl.out, HAl.out]; omega) (by rw [HAl.out, HAl.out]; omega)))
                have h4:((L.length:Int) == 1)=false:=by rw [beq_eq_false_iff_ne];omega
                have h4':¬ (L.length:Int)=1:=by omega
                have h5:((L.length:Int) == 2)=false:=by rw [beq_eq_false_iff_ne];omega
                have h5':¬ (L.length:Int)=2:=by omega
                clear hl0 hr0 hlr hl1 hl2;go_wp2;refine bodyPost_ret (v:=.tuple #[.agg #[.int .i64 0,.int .i64 0,.int .i64 0,.int .i64 0],.bool false]) (by simp [results,Tryz.results131,go_sem,r0,r1,r2,r3,r4,r5,r6,r7]) rfl ?_
                exact HN.out
        · have h3 : ((L.length : Int) == (R.length : Int)) = false := by rw [beq_eq_false_iff_ne]; omega
          have h3':¬ (L.length:Int)=(R.length:Int):=by omega
          have HNe:=Hh (show ¬ L=R from fun e=>hlr (by rw [e]));by_cases hl1:L.length=1
          · by_cases hr2 : R.length = 2
            · have h4 : ((L.length : Int) == 1) = true := by rw [beq_iff_eq]; omega
              have h4':(L.length:Int)=1:=by omega
              have h5:((R.length:Int) == 1)=false:=by rw [beq_eq_false_iff_ne];omega
              have h5':¬ (R.length:Int)=1:=by omega
              have h6:((L.length:Int) == 2)=false:=by rw [beq_eq_false_iff_ne];omega
              have h6':¬ (L.length:Int)=2:=by omega
              have h7:((R.length:Int) == 2)=true:=by rw [beq_iff_eq];omega
              have h7':(R.length:Int)=2:=by omega
              obtain ⟨x1,hx1⟩:∃ x1,R[1]?=some x1:=⟨_,List.getElem?_eq_getElem (by omega)⟩;have hX2:R=[q,x1]:=ybu hr2 HPq.out.2 hx1;have hY1:L=[p]:=zt9 hl1 HPq.out.1;have hS:=HSd.out;rw [hX2,hY1] at hS;have hS:Sides c [(za0 V).getD p 0] [(za0 V).getD q 0,(za0 V).getD x1 0]:=hS;have hm0:=HLR.out q (.inr (List.mem_of_getElem? HPq.out.2));have hm1:=HLR.out x1 (.inr (List.mem_of_getElem? hx1));have hm2:=HLR.out p (.inl (List.mem_of_getElem? HPq.out.1));have hxv:=HX.out;have HPr:=Hh (zt8 pb ob kb mc ms mn V BV HO.out q x1 p (.slice va R.length vc) w3 f2 g HSt3.out (by have h:=HUR.out w3 HG3.out;exact hX2 ▸ h) (HOR.out HneR.out) (HIh.out _ hm0.1) (HIh.out _ hm1.1) (HIh.out _ hm2.1) HV.out ⟨by omega,by omega,by omega⟩ ⟨hm0.2,hm1.2,hm2.2⟩);have HSS:=Hh hS;have HX2:=Hh (show 2≤x from by have:=HLl.out;omega);obtain ⟨bq,oq,ixq,kq⟩:=HCp.out w3 HG3.out;have ixq:=ixq w3;clear hx1 hX2 hY1 hS hm0 hm1 hm2 hxv hl0 hr0 hlr hr2 hl1 r0 r1 r2 r3 r4 r5 r6 r7;go_wp2_with fail;(with_reducible refine HPr.out.mono ?_);rintro e w5 ⟨T5,P5,ok,f5,g5,rfl,hy1,hy2,st5,fr5⟩;obtain ⟨b5,hb5⟩:∃ b5,b5=w5.heap.size:=⟨_,rfl⟩;obtain ⟨W5,hW5⟩:∃ W5,W5=w5.alloc (.cells #[.int .i64 T5,.int .i64 (P5:Int)] 29):=⟨_,rfl⟩;have g5':Fr NoM w5 W5:=by rw [hW5];exact (Fr.refl NoM w5).alloc _
              have e5:W5.heap[b5]?=some (.cells #[.int .i64 T5,.int .i64 (P5:Int)] 29 (0,0)):=by rw [hW5,hb5];exact heap_alloc_new w5 _
              have HF5:=Hh ((HF3.out.trans fr5 (fun _ _ q=>q)).trans g5' (fun _ _ q=>q.elim));have d0:W5.cell? ⟨b5,0,none⟩=some (.int .i64 T5):=by rw [cell_of_row W5 _ 0 _ _ _ e5];rfl
              have d1:W5.cell? ⟨b5,1,none⟩=some (.int .i64 (P5:Int)):=by rw [cell_of_row W5 _ 1 _ _ _ e5];rfl
              have HE:=Hh (HEnd.out W5 ((T5,P5),-1,1) ok f5 g5 (st5.fr0 g5') HF5.out ⟨fun e=>by
                obtain ⟨a,h1,h2,h3⟩:=hy1 e;refine ⟨?_,?_⟩
                · rw [h2,h3];exact zxf HSS.out h1
                · have := HX2.out
                  exact ⟨by simp only;omega,by simp only;omega⟩,fun e=>zp1 HSS.out HVb.out (hy2 e)⟩)
              obtain ⟨⟨r0,r1,r2,r3⟩,r4,r5,r6,r7⟩:=HR.out W5 HF5.out;clear hy1 hy2 st5 fr5 g5' e5 HPr ixq kq;go_upto_region 24 with fail;rw [← hW5,← hb5];clear hW5 hb5;go_wp2;refine bodyPost_ret (v:=.tuple #[.agg #[.int .i64 T5,.int .i64 (P5:Int),.int .i64 (-1),.int .i64 1],.bool ok]) (by simp [results,Tryz.results131,go_sem,r0,r1,r2,r3,r4,r5,r6,r7]) rfl ?_
              exact HE.out
            · have HN := Hh (HNo3.out (zme HSd.out HVb.out (fun h => HNe.out (HSm.out h)) (by rw [HAl.out, HAl.out]; omega) (by rw [HAl.out, HAl.out]; omega) (by rw [HAl.out, HAl.out]; omega)))
              have h4:((L.length:Int) == 1)=true:=by rw [beq_iff_eq];omega
              have h4':(L.length:Int)=1:=by omega
              have h5:((R.length:Int) == 1)=false:=by rw [beq_eq_false_iff_ne];omega
              have h5':¬ (R.length:Int)=1:=by omega
              have h6:((L.length:Int) == 2)=false:=by rw [beq_eq_false_iff_ne];omega
              have h6':¬ (L.length:Int)=2:=by omega
              have h7:((R.length:Int) == 2)=false:=by rw [beq_eq_false_iff_ne];omega
              have h7':¬ (R.length:Int)=2:=by omega
              clear hl0 hr0 hlr hl1 hr2;go_wp2;refine bodyPost_ret (v:=.tuple #[.agg #[.int .i64 0,.int .i64 0,.int .i64 0,.int .i64 0],.bool false]) (by simp [results,Tryz.results131,go_sem,r0,r1,r2,r3,r4,r5,r6,r7]) rfl ?_
              exact HN.out
          · by_cases hl2 : L.length = 2
            · by_cases hr1 : R.length = 1
              · have h4 : ((L.length : Int) == 1) = false := by rw [beq_eq_false_iff_ne]; omega
                have h4':¬ (L.length:Int)=1:=by omega
                have h5:((L.length:Int) == 2)=true:=by rw [beq_iff_eq];omega
                have h5':(L.length:Int)=2:=by omega
                have h6:((R.length:Int) == 1)=true:=by rw [beq_iff_eq];omega
                have h6':(R.length:Int)=1:=by omega
                obtain ⟨x1,hx1⟩:∃ x1,L[1]?=some x1:=⟨_,List.getElem?_eq_getElem (by omega)⟩;have hX2:L=[p,x1]:=ybu hl2 HPq.out.1 hx1;have hY1:R=[q]:=zt9 hr1 HPq.out.2;have hS:=HSd.out;rw [hX2,hY1] at hS;have hS:Sides c [(za0 V).getD p 0,(za0 V).getD x1 0] [(za0 V).getD q 0]:=hS;have hm0:=HLR.out p (.inl (List.mem_of_getElem? HPq.out.1));have hm1:=HLR.out x1 (.inl (List.mem_of_getElem? hx1));have hm2:=HLR.out q (.inr (List.mem_of_getElem? HPq.out.2));have hxv:=HX.out;have HPr:=Hh (zt8 pb ob kb mc ms mn V BV HO.out p x1 q (.slice ua L.length uc) w3 f2 g HSt3.out (by have h:=HUL.out w3 HG3.out;exact hX2 ▸ h) (HOL.out HneL.out) (HIh.out _ hm0.1) (HIh.out _ hm1.1) (HIh.out _ hm2.1) HV.out ⟨by omega,by omega,by omega⟩ ⟨hm0.2,hm1.2,hm2.2⟩);have HSS:=Hh hS;have HX2:=Hh (show 2≤x from by have:=HLl.out;omega);obtain ⟨bq,oq,ixq,kq⟩:=HCq.out w3 HG3.out;have ixq:=ixq w3;clear hx1 hX2 hY1 hS hm0 hm1 hm2 hxv hl0 hr0 hlr hl1 hl2 hr1 r0 r1 r2 r3 r4 r5 r6 r7;go_wp2_with fail;(with_reducible refine HPr.out.mono ?_);rintro e w5 ⟨T5,P5,ok,f5,g5,rfl,hy1,hy2,st5,fr5⟩;obtain ⟨b5,hb5⟩:∃ b5,b5=w5.heap.size:=⟨_,rfl⟩;obtain ⟨W5,hW5⟩:∃ W5,W5=w5.alloc (.cells #[.int .i64 T5,.int .i64 (P5:Int)] 29):=⟨_,rfl⟩;have g5':Fr NoM w5 W5:=by rw [hW5];exact (Fr.refl NoM w5).alloc _
                have e5:W5.heap[b5]?=some (.cells #[.int .i64 T5,.int .i64 (P5:Int)] 29 (0,0)):=by rw [hW5,hb5];exact heap_alloc_new w5 _
                have HF5:=Hh ((HF3.out.trans fr5 (fun _ _ q=>q)).trans g5' (fun _ _ q=>q.elim));have d0:W5.cell? ⟨b5,0,none⟩=some (.int .i64 T5):=by rw [cell_of_row W5 _ 0 _ _ _ e5];rfl
                have d1:W5.cell? ⟨b5,1,none⟩=some (.int .i64 (P5:Int)):=by rw [cell_of_row W5 _ 1 _ _ _ e5];rfl
                have HE:=Hh (HEnd.out W5 ((T5,P5),1,1) ok f5 g5 (st5.fr0 g5') HF5.out ⟨fun e=>by
                  obtain ⟨a,h1,h2,h3⟩:=hy1 e;refine ⟨?_,?_⟩
                  · rw [h2,h3];exact ycq HSS.out h1
                  · have := HX2.out
                    exact ⟨by simp only;omega,by simp only;omega⟩,fun e=>zur HSS.out HVb.out (hy2 e)⟩)
                obtain ⟨⟨r0,r1,r2,r3⟩,r4,r5,r6,r7⟩:=HR.out W5 HF5.out;clear hy1 hy2 st5 fr5 g5' e5 HPr ixq kq;go_upto_region 21 with fail;rw [← hW5,← hb5];clear hW5 hb5;go_wp2;refine bodyPost_ret (v:=.tuple #[.agg #[.int .i64 T5,.int .i64 (P5:Int),.int .i64 1,.int .i64 1],.bool ok]) (by simp [results,Tryz.results131,go_sem,r0,r1,r2,r3,r4,r5,r6,r7]) rfl ?_
                exact HE.out
              · have HN := Hh (HNo3.out (zme HSd.out HVb.out (fun h => HNe.out (HSm.out h)) (by rw [HAl.out, HAl.out]; omega) (by rw [HAl.out, HAl.out]; omega) (by rw [HAl.out, HAl.out]; omega)))
                have h4:((L.length:Int) == 1)=false:=by rw [beq_eq_false_iff_ne];omega
                have h4':¬ (L.length:Int)=1:=by omega
                have h5:((R.length:Int) == 1)=false:=by rw [beq_eq_false_iff_ne];omega
                have h5':¬ (R.length:Int)=1:=by omega
                have h6:((L.length:Int) == 2)=true:=by rw [beq_iff_eq];omega
                have h6':(L.length:Int)=2:=by omega
                clear hl0 hr0 hlr hl1 hl2 hr1;go_wp2;refine bodyPost_ret (v:=.tuple #[.agg #[.int .i64 0,.int .i64 0,.int .i64 0,.int .i64 0],.bool false]) (by simp [results,Tryz.results131,go_sem,r0,r1,r2,r3,r4,r5,r6,r7]) rfl ?_
                exact HN.out
            · have HN := Hh (HNo3.out (zme HSd.out HVb.out (fun h => HNe.out (HSm.out h)) (by rw [HAl.out, HAl.out]; omega) (by rw [HAl.out, HAl.out]; omega) (by rw [HAl.out, HAl.out]; omega)))
              have h4:((L.length:Int) == 1)=false:=by rw [beq_eq_false_iff_ne];omega
              have h4':¬ (L.length:Int)=1:=by omega
              have h5:((L.length:Int) == 2)=false:=by rw [beq_eq_false_iff_ne];omega
              have h5':¬ (L.length:Int)=2:=by omega
              clear hl0 hr0 hlr hl1 hl2;go_wp2;refine bodyPost_ret (v:=.tuple #[.agg #[.int .i64 0,.int .i64 0,.int .i64 0,.int .i64 0],.bool false]) (by simp [results,Tryz.results131,go_sem,r0,r1,r2,r3,r4,r5,r6,r7]) rfl ?_
              exact HN.out
set_option maxRecDepth 4000 in
set_option maxHeartbeats 8000000 in
theorem ya1 {M I:Nat→Prop}(pb ob kb:Nat)(mc ms mn:Value)(V:List PL)(BV:List Nat)(o:UOut ob kb M I)(B:BookC V (za0 V))(hV:V.length≤1000000):∀x,zne pb ob kb mc ms mn M I V BV x:=by
 intro x;induction x using Nat.strongRecOn with
 | _ x ih =>
  intro f g w hs hx hc;have HNew:=Hh (fun(W:World) (st:USt pb ob kb mc ms mn M I V BV W f g)=>zrf pb ob kb mc ms mn V BV o B hV x hx hc ih f g W st);obtain⟨c,hcx⟩:∃c,c=(za0 V).getD x 0:=⟨_,rfl⟩;rw[←hcx]at HNew ⊢;obtain⟨w1,hw1⟩:∃w1,w1=w.alloc (.cells #[.int .i64 0,.int .i64 0,.int .i64 0,.int .i64 0] 92):=⟨_,rfl⟩;have f1:Fr NoM w w1:=by rw[hw1];exact(Fr.refl NoM w).alloc _
  have e1:w1.heap[w.heap.size]?=some (.cells #[.int .i64 0,.int .i64 0,.int .i64 0,.int .i64 0] 92 (0,0)):=by rw[hw1];exact heap_alloc_new w _
  have hs1:w1.heap.size=w.heap.size+1:=by rw[hw1];simp
  have hol:=hs.ord.lt;have hkl:=hs.kn.lt;have hlt:=hs.lt;have hst1:=hs.fr0 f1;have HR:=Hh (fun(W:World) (f:Fr (fun q=>q=ob∨q=kb) w1 W)=>show(W.cell? ⟨w.heap.size,0,none⟩=some (.int .i64 0)/\W.cell? ⟨w.heap.size,1,none⟩=some (.int .i64 0)/\W.cell? ⟨w.heap.size,2,none⟩=some (.int .i64 0)/\W.cell? ⟨w.heap.size,3,none⟩=some (.int .i64 0)) ∧
    W.frozen? ⟨w.heap.size,0,none⟩=false/\W.frozen? ⟨w.heap.size,1,none⟩=false/\W.frozen? ⟨w.heap.size,2,none⟩=false/\W.frozen? ⟨w.heap.size,3,none⟩=false from by
   have h:=f.heap e1 (fun q=>by rcases q with q|q <;> omega);exact⟨⟨by rw[cell_of_row W _ 0 _ _ _ h];rfl,by rw[cell_of_row W _ 1 _ _ _ h];rfl,by rw[cell_of_row W _ 2 _ _ _ h];rfl,by rw[cell_of_row W _ 3 _ _ _ h];rfl⟩,by simp[World.frozen?,h],by simp[World.frozen?,h],by simp[World.frozen?,h],by simp[World.frozen?,h]⟩)
  have HEnd:=Hh (fun(W:World) (y:(Int × Nat) × Int × Nat) (ok:Bool) (f':Nat × Nat→Option Bool) (g':Nat→Option ((Int × Nat) × Int × Nat)) (st:USt pb ob kb mc ms mn M I V BV W f' g') (fr:Fr (fun q=>q=ob∨q=kb) w1 W) (ht:Told x c y ok)=>(by
   have s1:=zr9 W w.heap.size y;refine⟨y,ok,f',g',rfl,ht,st.set s1 (fun q e=>?_),(f1.any.trans fr (fun _ _ q=>q)).trans s1 (fun q hq e=>by have e:q=w.heap.size:=e;omega)⟩;have e:q=w.heap.size:=e;subst e;exact⟨fun e=>by have:=hlt w.heap.size (.inl e);omega,fun e=>by have:=hlt w.heap.size (.inr e);omega,by omega,by omega⟩ :
   zgp pb ob kb mc ms mn M I V BV x c w (.returned (.tuple #[zd1 y,.bool ok])) (setU W w.heap.size y)))
  have hlook:(Instr.lookup 95 (.map (some kb)) (.int .i64 (x:Int)) true).run Tryz.prog w1=.ok (.tuple #[((g x).map zd1).getD (.agg #[.int .i64 0,.int .i64 0,.int .i64 0,.int .i64 0]),.bool (g x).isSome]) w1 :=
   MapF.look (w:=w1) hst1.kn (KeyAt.nat Tryz.underlying3) Tryz.underlying95 (Tryz.zeroValue92 _) x true
  have hkn:=hst1.knOK;have HLk:=Hh hlook;have HKn:=Hh hkn;have HSt1:=Hh hst1;have HS1:=Hh hs1;have HLt:=Hh (And.intro hol hkl);have HCx:=Hh hcx;have HX:=Hh hx;have HO:=Hh o;clear hs f1 e1 hs1 hol hkl hlt hst1 hlook hkn hc hcx ih hx o;cases hgx:g x with
  | some y =>
   have hk:=HKn.out x y hgx;have hlook0:=HLk.out;rw[hgx]at hlook0;have hlook:(Instr.lookup 95 (.map (some kb)) (.int .i64 (x:Int)) true).run Tryz.prog w1=.ok (.tuple #[.agg #[.int .i64 y.1.1,.int .i64 (y.1.2:Int),.int .i64 y.2.1,.int .i64 (y.2.2:Int)],.bool true]) w1:=hlook0;clear hlook0;obtain⟨b2,hb2⟩:∃b2,b2=w1.heap.size:=⟨_,rfl⟩;obtain⟨W2,hW2⟩:∃W2,W2=w1.alloc (.cells (zck y) 92):=⟨_,rfl⟩;have g2:Fr NoM w1 W2:=by rw[hW2];exact(Fr.refl NoM w1).alloc _
   have q2:UBox W2 b2 y:=by rw[hb2];exact UBox.made hW2
   have HE:=Hh (HEnd.out W2 y true f g (HSt1.out.fr0 g2) g2.any ⟨fun _=>by rw[HCx.out];exact hk.2,fun e=>by cases e⟩);obtain⟨⟨r0,r1,r2,r3⟩,r4,r5,r6,r7⟩:=HR.out W2 g2.any;obtain⟨y0,y1,y2,y3⟩:=q2.cells;unfold zck at hW2;clear hk hgx g2 q2;go_enter Tryz.func77,Tryz.ntmps77;go_upto_region 1 with fail;rw[←hw1];clear hw1;go_upto_region 2 with fail;rw[←hW2,←hb2];clear hW2 hb2 hlook;go_wp2;refine bodyPost_ret (v:=.tuple #[.agg #[.int .i64 y.1.1,.int .i64 (y.1.2:Int),.int .i64 y.2.1,.int .i64 (y.2.2:Int)],.bool true]) (by simp[results,Tryz.results77,go_sem,r0,r1,r2,r3,r4,r5,r6,r7]) rfl ?_
   exact HE.out
  | none =>
   have hlook0:=HLk.out;rw[hgx]at hlook0;have hlook:(Instr.lookup 95 (.map (some kb)) (.int .i64 (x:Int)) true).run Tryz.prog w1=.ok (.tuple #[.agg #[.int .i64 0,.int .i64 0,.int .i64 0,.int .i64 0],.bool false]) w1:=hlook0;clear hlook0;obtain⟨W2,hW2⟩:∃W2,W2=w1.alloc (.cells #[.int .i64 0,.int .i64 0,.int .i64 0,.int .i64 0] 92):=⟨_,rfl⟩;have g2:Fr NoM w1 W2:=by rw[hW2];exact(Fr.refl NoM w1).alloc _
   have HN2:=Hh (HNew.out W2 (HSt1.out.fr0 g2));have G2:=Hh g2;clear hgx g2 HNew;go_enter Tryz.func77,Tryz.ntmps77;go_upto_region 1 with fail;rw[←hw1];clear hw1;go_upto_region 2 with fail;rw[←hW2];clear hW2 hlook;go_wp2_with fail;(with_reducible refine HN2.out.mono ?_);rintro e w3 ⟨y,ok,f3,g3,rfl,hy,st3,fr3⟩;unfold zd1;obtain⟨b3,hb3⟩:∃b3,b3=w3.heap.size:=⟨_,rfl⟩;obtain⟨W3,hW3⟩:∃W3,W3=w3.alloc (.cells (zck y) 92):=⟨_,rfl⟩;have g3':Fr NoM w3 W3:=by rw[hW3];exact(Fr.refl NoM w3).alloc _
   have q3:UBox W3 b3 y:=by rw[hb3];exact UBox.made hW3
   have HF3:=Hh ((G2.out.any.trans fr3 (fun _ _ q=>q)).trans g3' (fun _ _ q=>q.elim));have HZ3:=Hh (show ob<b3/\kb<b3 from by
    have h1:=(G2.out.any (M:=fun q=>q=ob∨q=kb)).trans fr3 (fun _ _ q=>q);have h2:=h1.size;have h3:=HS1.out;have h4:=HLt.out;rw[hb3];omega)
   have HTy:=Hh hy;have HSt3:=Hh (st3.fr0 g3');have HB3:=Hh q3;unfold zck at hW3;clear hy st3 fr3 g3' q3 HN2;go_upto_region 5 with fail;rw[←hW3,←hb3];clear hW3 hb3;obtain⟨y0,y1,y2,y3⟩:=HB3.out.cells;cases ok with
   | false =>
    have HE:=Hh (HEnd.out W3 y false f3 g3 HSt3.out HF3.out HTy.out);obtain⟨⟨r0,r1,r2,r3⟩,r4,r5,r6,r7⟩:=HR.out W3 HF3.out;go_wp2;refine bodyPost_ret (v:=.tuple #[.agg #[.int .i64 y.1.1,.int .i64 (y.1.2:Int),.int .i64 y.2.1,.int .i64 (y.2.2:Int)],.bool false]) (by simp[results,Tryz.results77,go_sem,r0,r1,r2,r3,r4,r5,r6,r7]) rfl ?_
    exact HE.out
   | true =>
    obtain⟨w5,hrun,hm5,fr5⟩:=MapF.store (P:=Tryz.prog) HSt3.out.kn (KeyAt.nat Tryz.underlying3) Tryz.underlying95 x y;have hrun:(Instr.mapUpdate 95 (.map (some kb)) (.int .i64 (x:Int)) (.agg #[.int .i64 y.1.1,.int .i64 (y.1.2:Int),.int .i64 y.2.1,.int .i64 (y.2.2:Int)])).run Tryz.prog W3=.ok () w5:=hrun;have hz:=HZ3.out;have hb5:=HB3.out.fr fr5 (fun e=>by have e:b3=kb:=e;omega);have HF5:=Hh (HF3.out.trans fr5 (fun q _ e=>.inr e));have HE:=Hh (HEnd.out w5 y true f3 (upd g3 x y) (HSt3.out.store HO.out fr5 hm5 HX.out (by rw[←HCx.out];exact HTy.out.1 rfl)) HF5.out HTy.out);obtain⟨⟨r0,r1,r2,r3⟩,r4,r5,r6,r7⟩:=HR.out w5 HF5.out;obtain⟨v0,v1,v2,v3⟩:=hb5.cells;clear hm5 fr5 hb5 hz;go_wp2;refine bodyPost_ret (v:=.tuple #[.agg #[.int .i64 y.1.1,.int .i64 (y.1.2:Int),.int .i64 y.2.1,.int .i64 (y.2.2:Int)],.bool true]) (by simp[results,Tryz.results77,go_sem,r0,r1,r2,r3,r4,r5,r6,r7]) rfl ?_
    exact HE.out
end Go.Proofs.YtlapkmhemepcaaaGreatDoor
