import Derived.Test.YtghekfmfonoocaaGreatDoorZt4
/- Lemmas. -/
namespace Go.Proofs.YtghekfmfonoocaaGreatDoor
set_option linter.unusedVariables false
set_option linter.unusedSimpArgs false
open Go.RowKit
theorem yaz (L:List Nat)(n:Nat)(h:∀x∈L,x<n):posN L n=L.length :=
 zs3 L n L.length (Nat.le_refl _) (fun j x _ hx=>h x (List.mem_of_getElem? hx)) (fun x hx=>by simp at hx)
theorem ztq (L:List Nat)(n:Nat)(h:∀x∈L,x<n):putN L n=L ++ [n]:=by
 unfold putN;rw[yaz L n h,if_neg (by simp)];simp
theorem ztg (L:List Nat)(h:L.Pairwise (· < ·)):zaf L=L:=by
 suffices hs:∀(L A:List Nat),(A++L).Pairwise (· < ·)→L.foldl putN A=A++L by simpa [zaf] using hs L [] (by simpa using h)
 intro L;induction L with
 | nil=>intro A _;simp
 | cons x l ih =>
  intro A h;have hx:∀y∈A,y<x:=fun y hy=>(List.pairwise_append.1 h).2.2 y hy x List.mem_cons_self
  rw[List.foldl_cons,ztq A x hx,ih _ (by simpa using h)];simp
theorem ycn (A L:List Nat)(h:∀x∈L,A.getD x 0=x):za1 A L=L:=by
 unfold za1;exact(List.map_congr_left h).trans (List.map_id' L)
theorem rget (n k:Nat):(List.range n)[k]?=if k<n then some k else none:=by
 split
 ·exact List.getElem?_range (by assumption)
 ·exact List.getElem?_eq_none (by simp;omega)
theorem zib (n k d:Nat):(List.range n).getD k d=if k<n then k else d:=by
 rw[List.getD_eq_getElem?_getD,rget];split <;> rfl
theorem zuu (BL:List Nat)(m:Nat)(L:List Nat):m≤zah BL m L/\∀x∈L,BL.getD x 0+1≤zah BL m L:=by
 unfold zah;induction L generalizing m with
 | nil=>exact⟨Nat.le_refl _,by simp⟩
 | cons y l ih =>
  rw[List.foldl_cons];obtain⟨h1,h2⟩:=ih (max m (BL.getD y 0+1));refine⟨by omega,fun x hx=>?_⟩;rcases List.mem_cons.1 hx with rfl|hx
  ·omega
  ·exact h2 x hx
def zbd (s:List PL × List Nat × List Nat)(f:List PL):List PL × List Nat × List Nat:=((addB s.1 s.2.1 f).1,(addB s.1 s.2.1 f).2.1,s.2.2 ++ [zfa s.1 s.2.1 f])
def zbp (NL:List PL)(BL:List Nat)(FL:List (List PL)):List PL × List Nat × List Nat:=FL.foldl zbd (NL,BL,[])
theorem zrv (NL:List PL)(BL:List Nat)(FL:List (List PL))(f:List PL):zbp NL BL (FL ++ [f])=zbd (zbp NL BL FL) f:=by simp[zbp]
def zg1 (FL FR:List (List PL)):List PL :=
 let l:=zbp [] [] FL
 let r:=zbp l.1 l.2.1 FR
 let p:=putB r.1 r.2.1 l.2.2 r.2.2
 zd3 p.1 p.2.1 p.2.2
def i2 (Fs:List PL):List (List Int × List Int):=Fs.map fun y=>(ints y.1,ints y.2)
theorem zcv (Fs:List PL):(i2 Fs).length=Fs.length:=by simp[i2]
theorem yd3 {Fs:List PL}{k:Nat}{y:List Int × List Int}(h:(i2 Fs)[k]?=some y):∃x,Fs[k]?=some x/\y=(ints x.1,ints x.2):=by
 unfold i2 at h;rw[List.getElem?_map]at h;cases hq:Fs[k]? with
 | none=>rw[hq]at h;cases h
 | some x=>rw[hq]at h;cases h;exact⟨x,rfl,rfl⟩
theorem zug {Fs G:List PL}(h:i2 Fs=i2 G):Fs=G:=by
 have hl:Fs.length=G.length:=by have:=congrArg List.length h;simpa [i2] using this
 refine List.ext_getElem hl fun k h1 h2=>?_
 have e:(i2 Fs)[k]?=(i2 G)[k]?:=by rw[h]
 unfold i2 at e;rw[List.getElem?_map,List.getElem?_map,List.getElem?_eq_getElem h1,List.getElem?_eq_getElem h2]at e;have e:=Option.some.inj e;have e1:=zkq (congrArg Prod.fst e);have e2:=zkq (congrArg Prod.snd e);exact Prod.ext e1 e2
theorem ycy (hi:Nat)(L:List Nat):∀(p:Option Int),L.Pairwise (· < ·)→(∀x∈L,x<hi)→(∀y,p=some y→∀x∈L,y<(x:Int))→zaq 0 ((hi:Int)-1) p (ints L)=true:=by
 induction L with
 | nil=>intro p _ _ _;cases p <;> rfl
 | cons x l ih =>
  intro p hL hb hp;have hx:=hb x List.mem_cons_self;have h1:betw (Int.ofNat x) 0 ((hi:Int)-1)=true:=by unfold betw;simp;omega
  have h2:=ih (some (Int.ofNat x)) (List.pairwise_cons.1 hL).2 (fun y hy=>hb y (List.mem_cons_of_mem _ hy)) (fun y e z hz=>by
   cases e
   have:=(List.pairwise_cons.1 hL).1 z hz;show((x:Nat):Int)<(z:Int)
   omega)
  cases p with
  | none =>
   show(betw (Int.ofNat x) 0 ((hi:Int)-1) && zaq 0 ((hi:Int)-1) (some (Int.ofNat x)) (ints l))=true
   rw[h1,h2];rfl
  | some y =>
   have h3:=hp y rfl x List.mem_cons_self;show(betw (Int.ofNat x) 0 ((hi:Int)-1) && (decide (y<Int.ofNat x) && zaq 0 ((hi:Int)-1) (some (Int.ofNat x)) (ints l)))=true
   rw[h1,h2,decide_eq_true (show y<Int.ofNat x from h3)];rfl
theorem ztp (hi:Nat)(L:List Int):∀(p:Option Int),zaq 0 ((hi:Int)-1) p L=true→∃L':List Nat,L=ints L'∧L'.Pairwise (· < ·)/\(∀x∈L',x<hi)/\∀y,p=some y→∀x∈L',y<(x:Int):=by
 induction L with
 | nil=>intro p _;exact⟨[],rfl,List.Pairwise.nil,by simp,by simp⟩
 | cons x l ih =>
  intro p h;have h0:betw x 0 ((hi:Int)-1)=true/\(∀y,p=some y→y<x)/\zaq 0 ((hi:Int)-1) (some x) l=true:=by
   cases p with
   | none =>
    have h:(betw x 0 ((hi:Int)-1) && zaq 0 ((hi:Int)-1) (some x) l)=true:=h;rw[Bool.and_eq_true]at h;exact⟨h.1,by simp,h.2⟩
   | some y =>
    have h:(betw x 0 ((hi:Int)-1) && (decide (y<x) && zaq 0 ((hi:Int)-1) (some x) l))=true:=h;rw[Bool.and_eq_true,Bool.and_eq_true]at h;exact⟨h.1,fun z e=>by cases e;exact of_decide_eq_true h.2.1,h.2.2⟩
  obtain⟨h1,h2,h3⟩:=h0;obtain⟨L',e,u,b,q⟩:=ih (some x) h3;have h1:0≤x/\x≤(hi:Int)-1:=of_decide_eq_true h1;refine⟨x.toNat::L',?_,List.pairwise_cons.2 ⟨fun z hz=>?_,u⟩,fun z hz=>?_,fun y hy z hz=>?_⟩
  ·rw[e]
   show x::ints L'=Int.ofNat x.toNat::ints L'
   rw[show Int.ofNat x.toNat=x from Int.toNat_of_nonneg h1.1]
  ·have:=q x rfl z hz;omega
  ·rcases List.mem_cons.1 hz with rfl|hz
   ·omega
   ·exact b z hz
  ·have h4:=h2 y hy
   rcases List.mem_cons.1 hz with rfl|hz
   ·omega
   ·have:=q x rfl z hz;omega
def risI (Fs:List (List Int × List Int))(k:Nat):Prop:=∀(j:Nat) (y:List Int × List Int),j<k→Fs[j]?=some y→zaq 0 ((j:Int)-1) none y.1=true/\zaq 0 ((j:Int)-1) none y.2=true
def zbf (Fs:List (List Int × List Int)):Prop:=zam Fs=true/\risI Fs Fs.length/\∀Fs':List PL,Fs=i2 Fs'→zd3 (addB [] [] Fs').1 (addB [] [] Fs').2.1 (zfa [] [] Fs')=Fs'
theorem zkh {Fs:List (List Int × List Int)}(h:risI Fs Fs.length):∃Fs':List PL,Fs=i2 Fs'∧(∀(j:Nat) (y:PL),Fs'[j]?=some y→(∀i∈y.1,i<j)/\∀i∈y.2,i<j)/\∀(j:Nat) (y:PL),Fs'[j]?=some y→y.1.Pairwise (· < ·)/\y.2.Pairwise (· < ·):=by
 have key:∀(j:Nat) (y:List Int × List Int),Fs[j]?=some y→∃x:PL,y=(ints x.1,ints x.2)/\((∀i∈x.1,i<j)/\∀i∈x.2,i<j)/\x.1.Pairwise (· < ·)/\x.2.Pairwise (· < ·):=fun j y hy=>by
  obtain⟨h1,h2⟩:=h j y (List.getElem?_eq_some_iff.1 hy).1 hy;obtain⟨L1,e1,u1,b1,_⟩:=ztp j y.1 none h1;obtain⟨L2,e2,u2,b2,_⟩:=ztp j y.2 none h2;exact⟨(L1,L2),Prod.ext e1 e2,⟨b1,b2⟩,u1,u2⟩
 let f:List Int × List Int→PL:=fun y=>(y.1.map Int.toNat,y.2.map Int.toNat)
 have hf:∀x:PL,f (ints x.1,ints x.2)=x:=fun x=>by
  have e:∀L:List Nat,(ints L).map Int.toNat=L:=fun L=>by unfold ints;rw[List.map_map];exact(List.map_congr_left fun a _=>rfl).trans (List.map_id' L)
  exact Prod.ext (e _) (e _)
 have hg:∀(j:Nat) (y:PL),(Fs.map f)[j]?=some y→∃z,Fs[j]?=some z/\z=(ints y.1,ints y.2)/\((∀i∈y.1,i<j)/\∀i∈y.2,i<j)/\y.1.Pairwise (· < ·)/\y.2.Pairwise (· < ·):=fun j y hy=>by
  rw[List.getElem?_map]at hy;cases hq:Fs[j]? with
  | none=>rw[hq]at hy;cases hy
  | some z =>
   rw[hq]at hy;obtain⟨x,e,hx⟩:=key j z hq;have hy:=Option.some.inj hy;rw[e,hf]at hy;subst hy;exact⟨z,rfl,e,hx⟩
 refine⟨Fs.map f,?_,fun j y hy=>?_,fun j y hy=>?_⟩
 ·unfold i2
  rw[List.map_map];refine((List.map_congr_left fun z hz=>?_).trans (List.map_id' Fs)).symm;obtain⟨j,hj,rfl⟩:=List.getElem_of_mem hz;obtain⟨x,e,_⟩:=key j _ (List.getElem?_eq_getElem hj);show(ints (f Fs[j]).1,ints (f Fs[j]).2)=Fs[j]
  rw[e,hf]
 ·obtain⟨_,_,_,h,_⟩:=hg j y hy;exact h
 ·obtain⟨_,_,_,_,h⟩:=hg j y hy;exact h
theorem zh8 (Fs:List PL):zam (i2 Fs)=zam Fs:=by
 unfold zam i2;rw[List.length_map];congr 1
 refine propext ⟨fun⟨h1,h2,h3⟩=>⟨h1,h2,fun y hy=>?_⟩,fun⟨h1,h2,h3⟩=>⟨h1,h2,fun y hy=>?_⟩⟩
 ·have:=h3 _ (List.mem_map.2 ⟨y,hy,rfl⟩);simpa [ints] using this
 ·obtain⟨x,hx,rfl⟩:=List.mem_map.1 hy
  simpa [ints] using h3 x hx
theorem zp5 {L:List Nat}{n:Nat}(hu:L.Pairwise (· < ·))(h:∀x∈L,x<n):L.length≤n:=by
 have hd:L.Nodup:=hu.imp fun hlt e=>by omega
 have:=hd.length_le_of_subset (l₂:=List.range n) (fun x hx=>List.mem_range.2 (h x hx));simpa using this
def BookUp (NL:List PL):Prop:=∀(j:Nat) (y:PL),NL[j]?=some y→y.1.Pairwise (· < ·)/\y.2.Pairwise (· < ·)
theorem BookUp.nil:BookUp []:=by intro j y h;simp at h
theorem BookUp.lens {NL:List PL}{BL:List Nat}(h:BookUp NL)(hOK:BookOK NL BL):∀y∈NL,y.1.length≤NL.length/\y.2.length≤NL.length:=by
 intro y hy;obtain⟨j,hj,rfl⟩:=List.getElem_of_mem hy;have e:=List.getElem?_eq_getElem hj
 obtain⟨o1,o2⟩:=hOK.opts j _ e;obtain⟨u1,u2⟩:=h j _ e;have:=zp5 u1 o1;have:=zp5 u2 o2;omega
theorem zy8 {NL:List PL}{BL:List Nat}(h:BookUp NL)(L R:List Nat):BookUp (putB NL BL L R).1:=by
 unfold putB;simp only;split
 ·exact h
 ·intro j y hy
  by_cases hj:j<NL.length
  ·rw[List.getElem?_append_left hj]at hy;exact h j y hy
  ·rw[List.getElem?_append_right (by omega)]at hy
   cases hd:j-NL.length with
   | zero=>rw[hd]at hy;simp at hy;subst hy;exact⟨zdd L,zdd R⟩
   | succ d=>rw[hd]at hy;simp at hy
theorem yad {NL:List PL}{BL:List Nat}(h:BookUp NL)(FL:List PL):BookUp (addB NL BL FL).1:=by
 suffices hs:∀n,n≤FL.length→BookUp (addB NL BL (FL.take n)).1 by
  have:=hs FL.length (Nat.le_refl _);rwa [List.take_length]at this
 intro n;induction n with
 | zero=>intro _;exact h
 | succ n ih =>
  intro hn;rw[List.take_succ_eq_append_getElem (by omega),zec];exact zy8 (ih (by omega)) _ _
theorem BookOK.nil:BookOK [] []:=⟨rfl,by simp,by simp⟩
structure GoodF (Fm:List PL):Prop where
 pos:0<Fm.length
 le:Fm.length≤120
 opts:∀(j:Nat) (y:PL),Fm[j]?=some y→(∀x∈y.1,x<j)/\∀x∈y.2,x<j
 lens:∀y∈Fm,y.1.length<1000/\y.2.length<1000
structure RootsOK (n:Nat) (s:List PL × List Nat × List Nat):Prop where
 ok:BookOK s.1 s.2.1
 up:BookUp s.1
 len:s.1.length≤n
 lt:∀x∈s.2.2,x<s.1.length
theorem RootsOK.step {n:Nat}{s:List PL × List Nat × List Nat}(h:RootsOK n s){Fm:List PL}(hF:GoodF Fm):RootsOK (n+120) (zbd s Fm):=by
 obtain⟨k1,k2,k3,k4,k5⟩:=zgb h.ok Fm hF.opts;have hp:=hF.pos;have hl:=hF.le;refine⟨k1,yad h.up Fm,?_,fun x hx=>?_⟩
 ·have:=h.len
  show(addB s.1 s.2.1 Fm).1.length≤n+120
  omega
 ·rcases List.mem_append.1 hx with hx|hx
  ·exact Nat.lt_of_lt_of_le (h.lt x hx) k5.length_le
  ·rw[List.mem_singleton]at hx
   subst hx;unfold zfa;rw[List.getD_eq_getElem?_getD,List.getElem?_eq_getElem (by omega)];exact k3 _ (List.getElem_mem _)
theorem zeg {FL:List (List PL)}:∀ {n:Nat}{s:List PL × List Nat × List Nat},RootsOK n s→(∀Fm∈FL,GoodF Fm)→RootsOK (n+120*FL.length) (FL.foldl zbd s):=by
 induction FL with
 | nil=>intro n s h _;simpa using h
 | cons f l ih =>
  intro n s h hF;have:=ih (h.step (hF f List.mem_cons_self)) (fun g hg=>hF g (List.mem_cons_of_mem _ hg));rw[List.foldl_cons,List.length_cons];rwa [show n+120+120*l.length=n+120*(l.length+1)from by omega]at this
theorem zge (FL:List (List PL)):∀(s:List PL × List Nat × List Nat),(FL.foldl zbd s).2.2.length=s.2.2.length+FL.length:=by
 induction FL with
 | nil=>intro s;simp
 | cons f l ih=>intro s;rw[List.foldl_cons,ih];simp[zbd];omega
structure PoolOK (V:List PL) (BV:List Nat):Prop where
 len:BV.length=V.length
 opts:∀(j:Nat) (y:PL),V[j]?=some y→(∀i∈y.1,i<j)/\∀i∈y.2,i<j
 up:∀(j:Nat) (y:PL),V[j]?=some y→y.1.Pairwise (· < ·)/\y.2.Pairwise (· < ·)
 nodup:V.Nodup
 born:∀(j:Nat) (y:PL),V[j]?=some y→BV.getD j 0=zah BV (zah BV 0 y.1) y.2
theorem PoolOK.nil:PoolOK [] []:=⟨rfl,by simp,by simp,by simp,by simp⟩
theorem zc0 (BV t:List Nat)(m:Nat)(L:List Nat)(h:∀x∈L,x<BV.length):zah (BV++t) m L=zah BV m L:=by
 unfold zah;induction L generalizing m with
 | nil=>rfl
 | cons x l ih =>
  have hx:=h x List.mem_cons_self;have e:(BV++t).getD x 0=BV.getD x 0:=by rw[List.getD_eq_getElem?_getD,List.getD_eq_getElem?_getD,List.getElem?_append_left hx]
  rw[List.foldl_cons,List.foldl_cons,e,ih _ (fun y hy=>h y (List.mem_cons_of_mem _ hy))]
theorem zgn {α:Type}{V:List α}{x y:α}{j:Nat}(h:(V ++ [x])[j]?=some y):(j<V.length/\V[j]?=some y)∨(j=V.length/\y=x):=by
 by_cases hj:j<V.length
 ·rw[List.getElem?_append_left hj]at h;exact .inl ⟨hj,h⟩
 ·have hl:=(List.getElem?_eq_some_iff.1 h).1
  have hje:j=V.length:=by simp at hl;omega
  subst hje;exact .inr ⟨rfl,by simpa using h.symm⟩
theorem zid {V:List PL}{BV:List Nat}(h:PoolOK V BV){L R:List Nat}(hL:∀x∈L,x<V.length)(hR:∀x∈R,x<V.length) :
  PoolOK (za4 V BV L R).1 (za4 V BV L R).2.1/\(za4 V BV L R).1[(za4 V BV L R).2.2]?=some (zaf L,zaf R):=by
 unfold za4;split
 ·rename_i hm
  refine⟨h,?_⟩;have hi:=List.idxOf_lt_length_of_mem hm;show V[V.idxOf (zaf L,zaf R)]?=_
  rw[List.getElem?_eq_getElem hi,List.getElem_idxOf]
 ·rename_i hm
  have h1:∀x∈zaf L,x<V.length:=fun x hx=>hL x ((zb2 L x).1 hx)
  have h2:∀x∈zaf R,x<V.length:=fun x hx=>hR x ((zb2 R x).1 hx)
  refine⟨⟨by simp[h.len],fun j y hy=>?_,fun j y hy=>?_,?_,fun j y hy=>?_⟩,by simp⟩
  ·rcases zgn hy with ⟨_,hy⟩|⟨rfl,rfl⟩
   ·exact h.opts j y hy
   ·exact⟨h1,h2⟩
  ·rcases zgn hy with ⟨_,hy⟩|⟨rfl,rfl⟩
   ·exact h.up j y hy
   ·exact⟨zdd L,zdd R⟩
  ·rw[List.nodup_append]
   refine⟨h.nodup,by simp,fun a ha b hb e=>?_⟩;rw[List.mem_singleton]at hb;subst e;subst hb;exact hm ha
  ·rcases zgn hy with ⟨hj,hy⟩|⟨rfl,rfl⟩
   ·obtain⟨o1,o2⟩:=h.opts j y hy
    rw[zc0 _ _ _ _ (fun x hx=>by have:=o2 x hx;rw[h.len];omega),zc0 _ _ _ _ (fun x hx=>by have:=o1 x hx;rw[h.len];omega),←h.born j y hy,
     List.getD_eq_getElem?_getD,List.getD_eq_getElem?_getD,List.getElem?_append_left (by rw[h.len];exact hj)]
   ·rw[zc0 _ _ _ _ (fun x hx=>by rw[h.len];exact h2 x hx),zc0 _ _ _ _ (fun x hx=>by rw[h.len];exact h1 x hx),←h.len]
    simp[List.getD_eq_getElem?_getD]
theorem za7 {V:List PL}{x:Nat}(h:x<V.length):V[x]?=some (za6 V x):=by
 unfold za6;rw[List.getD_eq_getElem?_getD,List.getElem?_eq_getElem h];rfl
theorem PoolOK.reach {V:List PL}{BV R:List Nat}(h:PoolOK V BV)(hR:∀r∈R,r<V.length){x:Nat}(hx:ReachV V R x):x<V.length:=by
 induction hx with
 | root hr=>exact hR _ hr
 | @left x y _ hy ih=>have:=(h.opts x _ (za7 ih)).1 y hy;omega
 | @right x y _ hy ih=>have:=(h.opts x _ (za7 ih)).2 y hy;omega
theorem PoolOK.lower {V:List PL}{BV:List Nat}(h:PoolOK V BV){x:Nat}(hx:x<V.length):(∀y∈(za6 V x).1,BV.getD y 0<BV.getD x 0)/\∀y∈(za6 V x).2,BV.getD y 0<BV.getD x 0:=by
 rw[h.born x _ (za7 hx)];obtain⟨a1,a2⟩:=zuu BV 0 (za6 V x).1;obtain⟨b1,b2⟩:=zuu BV (zah BV 0 (za6 V x).1) (za6 V x).2;exact⟨fun y hy=>by have:=a2 y hy;omega,fun y hy=>by have:=b2 y hy;omega⟩
theorem PoolOK.qok {V:List PL}{BV R Q:List Nat}(h:PoolOK V BV)(hR:∀r∈R,r<V.length)(hn:Q.Nodup)(hm:∀x,x∈Q↔ReachV V R x)(hs:Q.Pairwise fun a b=>BV.getD a 0≤BV.getD b 0):QOk V BV Q:=by
 have hl:∀x∈Q,x<V.length:=fun x hx=>h.reach hR ((hm x).1 hx)
 refine⟨hn,hs,fun x hx y hy=>⟨(hm y).2 (.left ((hm x).1 hx) hy),(h.lower (hl x hx)).1 y hy⟩,fun x hx y hy=>⟨(hm y).2 (.right ((hm x).1 hx) hy),(h.lower (hl x hx)).2 y hy⟩,fun x hx=>h.up x _ (za7 (hl x hx)),fun x hx y hy e=>?_⟩;have e1:=za7 (hl x hx);have e2:=za7 (hl y hy);rw[e]at e1;exact(List.getElem?_inj (hl x hx) h.nodup).1 (e1.trans e2.symm)
theorem PoolOK.lens {V:List PL}{BV:List Nat}(h:PoolOK V BV){n:Nat}(hn:V.length<n):∀y∈V,y.1.length<n/\y.2.length<n:=by
 intro y hy;obtain⟨j,hj,rfl⟩:=List.getElem_of_mem hy;have e:=List.getElem?_eq_getElem hj
 obtain⟨o1,o2⟩:=h.opts j _ e;obtain⟨u1,u2⟩:=h.up j _ e;have:=zp5 u1 o1;have:=zp5 u2 o2;omega
theorem PoolOK.opts' {V:List PL}{BV:List Nat}(h:PoolOK V BV)(j:Nat)(y:PL)(hy:V[j]?=some y):(∀i∈y.1,i<V.length)/\∀i∈y.2,i<V.length:=by
 have hj:=(List.getElem?_eq_some_iff.1 hy).1;obtain⟨o1,o2⟩:=h.opts j y hy;exact⟨fun i hi=>by have:=o1 i hi;omega,fun i hi=>by have:=o2 i hi;omega⟩
theorem zth (m:List Bool)(y x:Nat):(m.set y true).getD x false=true↔m.getD x false=true∨x=y/\x<m.length:=by
 rw[List.getD_eq_getElem?_getD,List.getD_eq_getElem?_getD,List.getElem?_set];by_cases e:y=x
 ·subst e
  by_cases h:y<m.length
  ·simp[h]
  ·simp[h]
 ·rw[if_neg e]
  constructor
  ·exact .inl
  ·rintro(h|⟨h,_⟩)
   ·exact h
   ·exact absurd h.symm e
theorem zu6 (m:List Bool)(L:List Nat)(x:Nat):(zbu m L).getD x false=true↔m.getD x false=true∨x∈L/\x<m.length:=by
 unfold zbu;induction L generalizing m with
 | nil=>simp
 | cons y l ih =>
  rw[List.foldl_cons,ih,zth,List.length_set,List.mem_cons];constructor
  ·rintro((h|h)|h)
   ·exact .inl h
   ·exact .inr ⟨.inl h.1,h.2⟩
   ·exact .inr ⟨.inr h.1,h.2⟩
  ·rintro(h|⟨h|h,h2⟩)
   ·exact .inl (.inl h)
   ·exact .inl (.inr ⟨h,h2⟩)
   ·exact .inr ⟨h,h2⟩
theorem zdu (V:List PL)(m:List Bool)(k x:Nat):(zct V m k).getD x false=true↔m.getD x false=true∨m.getD k false=true/\(x∈(za6 V k).1∨x∈(za6 V k).2)/\x<m.length:=by
 unfold zct za6;split
 ·rename_i h
  rw[zu6,zu6,zb5];constructor
  ·rintro((h1|h1)|h1)
   ·exact .inl h1
   ·exact .inr ⟨h,.inl h1.1,h1.2⟩
   ·exact .inr ⟨h,.inr h1.1,h1.2⟩
  ·rintro(h1|⟨_,h1|h1,h2⟩)
   ·exact .inl (.inl h1)
   ·exact .inl (.inr ⟨h1,h2⟩)
   ·exact .inr ⟨h1,h2⟩
 ·rename_i h
  constructor
  ·exact .inl
  ·rintro(h1|h1)
   ·exact h1
   ·exact absurd h1.1 h
theorem zpk {V:List PL}{BV:List Nat}(h:PoolOK V BV){r:Nat}(hr:r<V.length)(n:Nat):∀(m:List Bool),n≤r+1→m.length=r+1→(∀x,m.getD x false=true→ReachV V [r] x)→m.getD r false=true →
  (∀x,n≤x→m.getD x false=true→∀y,y∈(za6 V x).1∨y∈(za6 V x).2→m.getD y false=true)→∀x,(zc9 V n m).getD x false=true↔ReachV V [r] x:=by
 induction n with
 | zero =>
  intro m _ _ h1 h2 h3 x;refine⟨h1 x,fun hx=>?_⟩;induction hx with
  | root hx=>rw[List.mem_singleton]at hx;subst hx;exact h2
  | left _ hy ih=>exact h3 _ (Nat.zero_le _) ih _ (.inl hy)
  | right _ hy ih=>exact h3 _ (Nat.zero_le _) ih _ (.inr hy)
 | succ n ih =>
  intro m hn hl h1 h2 h3 x;unfold zc9;have hlow:∀(k y:Nat),k<V.length→(y∈(za6 V k).1∨y∈(za6 V k).2)→y<k:=fun k y hk hy=>by
   obtain⟨o1,o2⟩:=h.opts k _ (za7 hk);rcases hy with hy|hy
   ·exact o1 y hy
   ·exact o2 y hy
  refine ih _ (by omega) (by rw[zfn];exact hl) (fun y hy=>?_) ((zdu V m n r).2 (.inl h2)) (fun k hk hm y hy=>?_) x
  ·rcases (zdu V m n y).1 hy with hy|⟨hn1,hy,_⟩
   ·exact h1 y hy
   ·rcases hy with hy|hy
    ·exact .left (h1 n hn1) hy
    ·exact .right (h1 n hn1) hy
  ·have hmk:m.getD k false=true:=by
    rcases (zdu V m n k).1 hm with hm|⟨_,hm,_⟩
    ·exact hm
    ·have:=hlow n k (by omega) hm;omega
   have hkl:k<r+1:=by
    rcases Nat.lt_or_ge k (r+1)with q|q
    ·exact q
    ·rw[List.getD_eq_getElem?_getD,List.getElem?_eq_none (by omega)]at hmk;cases hmk
   rw[zdu];by_cases e:k=n
   ·subst e
    exact .inr ⟨hmk,hy,by have:=hlow k y (by omega) hy;omega⟩
   ·exact .inl (h3 k (by omega) hmk y hy)
theorem zmb {V:List PL}{BV:List Nat}(h:PoolOK V BV){r:Nat}(hr:r<V.length)(x:Nat):(zap V r).getD x false=true↔ReachV V [r] x:=by
 have h0:∀y,((List.replicate (r+1) false).set r true).getD y false=true↔y=r:=fun y=>by
  rw[zth];constructor
  ·rintro(q|q)
   ·rw[List.getD_eq_getElem?_getD,List.getElem?_replicate]at q
    split at q <;> cases q
   ·exact q.1
  ·rintro rfl
   exact .inr ⟨rfl,by simp⟩
 refine zpk h hr (r+1) _ (Nat.le_refl _) (by simp) (fun y hy=>?_) ((h0 r).2 rfl) (fun k hk hm=>?_) x
 ·rw[(h0 y).1 hy];exact .root (by simp)
 ·have:=(h0 k).1 hm;omega
def grp (BV:List Nat)(need:List Bool)(n b:Nat):List Nat:=(List.range n).filter fun k=>decide (need.getD k false=true/\BV.getD k 0=b)
theorem ybu (BV:List Nat)(need:List Bool)(n b:Nat):grp BV need (n+1) b=if need.getD n false=true/\BV.getD n 0=b then grp BV need n b ++ [n]else grp BV need n b:=by
 unfold grp;rw[List.range_succ,List.filter_append];split <;> simp_all
theorem ze3 {BV:List Nat}{need:List Bool}{n b x:Nat}:x∈grp BV need n b↔x<n/\need.getD x false=true/\BV.getD x 0=b:=by
 unfold grp;rw[List.mem_filter,List.mem_range,decide_eq_true_eq]
theorem zr4 (BV:List Nat)(need:List Bool)(n b:Nat):(grp BV need n b).Nodup:=List.nodup_range.filter _
theorem ye4 (key:Nat→PL)(K:List Nat)(k:Nat):insF (K.map key,K) (key k) k=((K.takeWhile (fun b=>zan (key b) (key k))++k::K.dropWhile (fun b=>zan (key b) (key k))).map key,K.takeWhile (fun b=>zan (key b) (key k))++k::K.dropWhile (fun b=>zan (key b) (key k))):=by
 have hp:posA (K.map key) (key k)=(K.takeWhile (fun b=>zan (key b) (key k))).length:=by
  unfold posA;rw[List.takeWhile_map,List.length_map];rfl
 have ht:K.take (posA (K.map key) (key k))=K.takeWhile (fun b=>zan (key b) (key k)):=by
  rw[hp];exact(List.prefix_iff_eq_take.1 (List.takeWhile_prefix _)).symm
 have hd:K.drop (posA (K.map key) (key k))=K.dropWhile (fun b=>zan (key b) (key k)):=by
  rw[hp];exact(congrArg (List.drop _) (List.takeWhile_append_dropWhile (p:=fun b=>zan (key b) (key k)) (l:=K)).symm).trans List.drop_left
 unfold insF;simp only[←List.map_take,←List.map_drop,ht,hd,List.map_append,List.map_cons]
theorem zvy (key:Nat→PL)(K:List Nat)(k:Nat)(h:K.Pairwise fun a b=>zan (key b) (key a)=false) :
  (K.takeWhile (fun b=>zan (key b) (key k))++k::K.dropWhile (fun b=>zan (key b) (key k))).Pairwise fun a b=>zan (key b) (key a)=false:=by
 have hs:=h;rw[←List.takeWhile_append_dropWhile (p:=fun b=>zan (key b) (key k)) (l:=K),List.pairwise_append]at hs;obtain⟨s1,s2,s3⟩:=hs;have hd:∀b∈K.dropWhile (fun b=>zan (key b) (key k)),zan (key b) (key k)=false:=by
  intro b hb;cases hl:K.dropWhile (fun b=>zan (key b) (key k))with
  | nil=>rw[hl]at hb;cases hb
  | cons b0 l =>
   have h0:=List.head_dropWhile_not (fun b=>zan (key b) (key k)) (l:=K) (by rw[hl];simp);simp only[hl,List.head_cons]at h0;rw[hl]at hb s2;rcases List.mem_cons.1 hb with rfl|hb
   ·simpa using h0
   ·have h1:=(List.pairwise_cons.1 s2).1 b hb
    cases hc:zan (key b) (key k)with
    | false=>rfl
    | true =>
     exfalso
     have h0:zan (key b0) (key k)=false:=by simpa using h0
     cases hk:zan (key k) (key b0)with
     | true=>rw[zep hc hk]at h1;cases h1
     | false =>
      have e:=zis h0 hk;rw[e]at h1;rw[hc]at h1;cases h1
 refine List.pairwise_append.2 ⟨s1,List.pairwise_cons.2 ⟨hd,s2⟩,fun a ha b hb=>?_⟩;have h1:zan (key a) (key k)=true:=by
  exact List.all_eq_true.1 (List.all_takeWhile (p:=fun b=>zan (key b) (key k)) (l:=K)) a ha
 rcases List.mem_cons.1 hb with rfl|hb
 ·exact zeq h1
 ·exact s3 a ha b hb
theorem yb0 (V:List PL)(BV:List Nat)(need:List Bool)(A:List Nat)(b n:Nat):∃K:List Nat,zdv V BV need A b n=(K.map (fun k=>keyF A (za6 V k)),K)/\K.Perm (grp BV need n b)/\K.Pairwise fun x y=>zan (keyF A (za6 V y)) (keyF A (za6 V x))=false:=by
 induction n with
 | zero=>exact⟨[],rfl,by simp[grp],by simp⟩
 | succ n ih =>
  obtain⟨K,h1,h2,h3⟩:=ih;rw[zf2,h1,ybu];unfold zfc;split
  ·refine⟨_,ye4 (fun k=>keyF A (za6 V k)) K n,?_,zvy (fun k=>keyF A (za6 V k)) K n h3⟩
   refine List.perm_middle.trans ?_
   rw[List.takeWhile_append_dropWhile];exact(List.Perm.cons n h2).trans (List.perm_append_singleton n _).symm
  ·exact⟨K,rfl,h2,h3⟩
theorem ye0 (K:List Nat):∀(LL:List PL) (s:List Nat × List PL),LL.length=K.length→K.Nodup→(∀x∈K,x<s.1.length) →
  ((LL.zip K).foldl layF s).2=s.2++LL/\(∀x,x ∉ K→((LL.zip K).foldl layF s).1.getD x 0=s.1.getD x 0)/\∀x∈K,((LL.zip K).foldl layF s).1.getD x 0=s.2.length+K.idxOf x:=by
 induction K with
 | nil =>
  intro LL s hl _ _;cases LL with
  | nil=>exact⟨by simp,fun _ _=>rfl,by simp⟩
  | cons y l=>simp at hl
 | cons k K ih =>
  intro LL s hl hn hlt;cases LL with
  | nil=>simp at hl
  | cons y l =>
   rw[List.nodup_cons]at hn;rw[List.zip_cons_cons,List.foldl_cons];obtain⟨i1,i2,i3⟩:=ih l (layF s (y,k)) (by simpa using hl) hn.2 (fun x hx=>by
    unfold layF;rw[List.length_set];exact hlt x (List.mem_cons_of_mem _ hx))
   have hk:=hlt k List.mem_cons_self;have hg:∀x,(layF s (y,k)).1.getD x 0=if x=k then s.2.length else s.1.getD x 0:=fun x=>by
    unfold layF;rw[List.getD_eq_getElem?_getD,List.getElem?_set];by_cases e:k=x
    ·subst e;simp[hk]
    ·rw[if_neg e,if_neg (fun q=>e q.symm),List.getD_eq_getElem?_getD]
   refine⟨by rw[i1];unfold layF;simp,fun x hx=>?_,fun x hx=>?_⟩
   ·rw[List.mem_cons,not_or]at hx
    rw[i2 x hx.2,hg,if_neg hx.1]
   ·by_cases e:x=k
    ·subst e
     rw[i2 x hn.1,hg,if_pos rfl];simp
    ·have hxK:=(List.mem_cons.1 hx).resolve_left e
     rw[i3 x hxK,List.idxOf_cons,show(k == x)=false from by simpa using fun q:k=x=>e q.symm];unfold layF;simp only[List.length_append,List.length_cons,List.length_nil,Bool.cond_false];omega
def grps (BV:List Nat)(need:List Bool)(r n:Nat):List Nat:=(List.range n).flatMap fun b=>grp BV need (r+1) b
theorem zhz (BV:List Nat)(need:List Bool)(r n:Nat):grps BV need r (n+1)=grps BV need r n++grp BV need (r+1) n:=by simp[grps,List.range_succ]
theorem zkp {BV:List Nat}{need:List Bool}{r n x:Nat}:x∈grps BV need r n↔x<r+1/\need.getD x false=true/\BV.getD x 0<n:=by
 unfold grps;rw[List.mem_flatMap];constructor
 ·rintro⟨b,hb,hx⟩
  obtain⟨h1,h2,h3⟩:=ze3.1 hx;exact⟨h1,h2,by rw[h3];exact List.mem_range.1 hb⟩
 ·rintro⟨h1,h2,h3⟩
  exact⟨_,List.mem_range.2 h3,ze3.2 ⟨h1,h2,rfl⟩⟩
theorem zsp (BV:List Nat)(need:List Bool)(r n:Nat):(grps BV need r n).Nodup/\(grps BV need r n).Pairwise fun a b=>BV.getD a 0≤BV.getD b 0:=by
 induction n with
 | zero=>simp[grps]
 | succ n ih =>
  rw[zhz];constructor
  ·rw[List.nodup_append]
   refine⟨ih.1,zr4 _ _ _ _,fun a ha b hb e=>?_⟩;subst e;have:=(zkp.1 ha).2.2;have:=(ze3.1 hb).2.2;omega
  ·refine List.pairwise_append.2 ⟨ih.2,List.pairwise_of_forall_mem_list fun a ha b hb=>?_,fun a ha b hb=>?_⟩
   ·rw[(ze3.1 ha).2.2,(ze3.1 hb).2.2];exact Nat.le_refl _
   ·have:=(zkp.1 ha).2.2
    have:=(ze3.1 hb).2.2;omega
theorem zsq (BV:List Nat) (need:List Bool) (r:Nat) {n N:Nat} (h:n≤N):grps BV need r n <+: grps BV need r N:=by
  induction N with
  | zero => have : n = 0 := by omega
            subst this;exact List.prefix_refl _
  | succ N ih =>
    rcases Nat.lt_or_ge N n with q | q
    · have : n = N + 1 := by omega
      subst this;exact List.prefix_refl _
    · rw [zhz];exact (ih q).trans (List.prefix_append _ _)
theorem zmx {V:List PL}{BV:List Nat}(h:PoolOK V BV){r:Nat}(hr:r<V.length):∃Q,OrderIs V BV [r] Q (zd3 V BV r):=by
 obtain⟨need,hneed⟩:∃n,n=zap V r:=⟨_,rfl⟩;have hN:∀x,need.getD x false=true↔ReachV V [r] x:=fun x=>by rw[hneed];exact zmb h hr x
 have hle:∀x,ReachV V [r] x→x<r+1/\BV.getD x 0≤BV.getD r 0/\x<V.length:=by
  intro x hx;induction hx with
  | root hx=>rw[List.mem_singleton]at hx;subst hx;exact⟨Nat.lt_succ_self _,Nat.le_refl _,hr⟩
  | @left x y _ hy ih =>
   have h1:=(h.lower ih.2.2).1 y hy;have h2:=(h.opts x _ (za7 ih.2.2)).1 y hy;omega
  | @right x y _ hy ih =>
   have h1:=(h.lower ih.2.2).2 y hy;have h2:=(h.opts x _ (za7 ih.2.2)).2 y hy;omega
 obtain⟨N,hNN⟩:∃N,N=BV.getD r 0+1:=⟨_,rfl⟩;obtain⟨Q,hQ⟩:∃Q,Q=grps BV need r N:=⟨_,rfl⟩;have hQn:=zsp BV need r N;rw[←hQ]at hQn;have hQm:∀x,x∈Q↔ReachV V [r] x:=fun x=>by
  rw[hQ,zkp,hN];exact⟨fun q=>q.2.1,fun q=>⟨(hle x q).1,q,by have:=(hle x q).2.1;omega⟩⟩
 have q:QOk V BV Q:=h.qok (R:=[r]) (by simpa using hr) hQn.1 hQm hQn.2;have key:∀n,n≤N→∃A,GInv V BV Q A (grps BV need r n).length/\(zay V BV need r n).2=A.map (fun x=>zbq A (za6 V x))/\∀x∈A,(zay V BV need r n).1.getD x 0=A.idxOf x:=by
  intro n;induction n with
  | zero=>intro _;exact⟨[],GInv.start V BV Q,rfl,by simp⟩
  | succ n ih =>
   intro hn;obtain⟨A,hA,hF,hX⟩:=ih (by omega);have hpre:=zsq BV need r (n:=n+1) (N:=N) hn;rw[←hQ,zhz]at hpre;obtain⟨t,ht⟩:=hpre;have hdrop:Q.drop (grps BV need r n).length=grp BV need (r+1) n++t:=by rw[←ht,List.append_assoc,List.drop_left]
   obtain⟨K,hK,hKp,hKs⟩:=yb0 V BV need (zay V BV need r n).1 n (r+1);have hlen:=(zd0 V BV need r n).1;have hKlt:∀x∈K,x<(zay V BV need r n).1.length:=fun x hx=>by
    rw[hlen];exact(ze3.1 ((hKp.mem_iff).1 hx)).1
   have hKn:K.Nodup:=(hKp.nodup_iff).2 (zr4 _ _ _ _);obtain⟨l1,l2,l3⟩:=ye0 K (K.map fun k=>keyF (zay V BV need r n).1 (za6 V k)) (zay V BV need r n) (by simp) hKn hKlt;have hstep:zay V BV need r (n+1)=((K.map fun k=>keyF (zay V BV need r n).1 (za6 V k)).zip K).foldl layF (zay V BV need r n):=by
    rw[zh7];unfold yaa;rw[hK]
   have hfl:(zay V BV need r n).2.length=A.length:=by rw[hF];simp
   rw[zhz,hstep];by_cases hm:grp BV need (r+1) n=[]
   ·have hK0:K=[]:=by rw[hm]at hKp;exact hKp.eq_nil
    subst hK0;rw[hm,List.append_nil];exact⟨A,hA,hF,hX⟩
   ·have hlt:(grps BV need r n).length<Q.length:=by
     rw[←ht];have:0<(grp BV need (r+1) n).length:=List.length_pos_iff.2 hm;simp only[List.length_append];omega
    have hQn0:BV.getD (Q.getD (grps BV need r n).length 0) 0=n:=by
     have e:Q.getD (grps BV need r n).length 0∈grp BV need (r+1) n:=by
      have e2:Q[(grps BV need r n).length]?=(grp BV need (r+1) n)[0]?:=by
       rw[←ht,List.append_assoc,List.getElem?_append_right (Nat.le_refl _),Nat.sub_self,List.getElem?_append_left (List.length_pos_iff.2 hm)]
      rw[List.getD_eq_getElem?_getD,e2,List.getElem?_eq_getElem (List.length_pos_iff.2 hm)];exact List.getElem_mem _
     exact(ze3.1 e).2.2
    have hgr:∀x∈grp BV need (r+1) n,x∈Q/\BV.getD x 0=BV.getD (Q.getD (grps BV need r n).length 0) 0:=fun x hx=>by
     obtain⟨g1,g2,g3⟩:=ze3.1 hx;exact⟨(hQm x).2 ((hN x).1 g2),by rw[hQn0,g3]⟩
    have hkey:∀x∈grp BV need (r+1) n,keyF (zay V BV need r n).1 (za6 V x)=zbq A (za6 V x):=fun x hx=>by
     obtain⟨g1,g2⟩:=q.group hA hlt (hgr x hx).1 (hgr x hx).2;have e:∀l:List Nat,(∀y∈l,y∈A)→zaf (za1 (zay V BV need r n).1 l)=zez A l:=fun l hl=>by
      unfold zez za1;rw[List.map_congr_left fun y hy=>hX y (hl y hy)]
     unfold keyF zbq;rw[e _ g1,e _ g2]
    have hstp:=GInv.step q hA (m:=(grp BV need (r+1) n).length) (G:=grp BV need (r+1) n) (G':=K) (List.length_pos_iff.2 hm) (by rw[←ht];simp only[List.length_append];omega)
     (by rw[hdrop,List.take_left]) (fun x hx=>(hgr x hx).2) (by
      rcases Nat.lt_or_ge ((grps BV need r n).length+(grp BV need (r+1) n).length) Q.length with q1|q1
      ·refine .inr ?_
       rw[hQn0];intro e;have hin:Q.getD ((grps BV need r n).length+(grp BV need (r+1) n).length) 0∈t:=by
        have e2:Q[(grps BV need r n).length+(grp BV need (r+1) n).length]?=t[0]?:=by
         rw[←ht,List.getElem?_append_right (by simp),List.length_append,Nat.sub_self]
        rw[List.getD_eq_getElem?_getD,e2];have hl:(grps BV need r n++grp BV need (r+1) n++t).length=Q.length:=by rw[ht]
        simp only[List.length_append]at hl;rw[List.getElem?_eq_getElem (by omega)];exact List.getElem_mem _
       have hnd:=hQn.1;rw[←ht,List.nodup_append]at hnd;have hxQ:Q.getD ((grps BV need r n).length+(grp BV need (r+1) n).length) 0∈Q:=by rw[←ht];exact List.mem_append_right _ (by rw[ht];exact hin)
       have hre:=(hQm _).1 hxQ;refine hnd.2.2 _ (List.mem_append_right _ (ze3.2 ⟨(hle _ hre).1,(hN _).2 hre,e⟩)) _ hin rfl
      ·exact .inl (by
        have hl:(grps BV need r n++grp BV need (r+1) n++t).length=Q.length:=by rw[ht]
        simp only[List.length_append]at hl;omega)) hKp (hKs.imp_of_mem fun {a b} ha hb hk=>by
      rw[hkey a ((hKp.mem_iff).1 ha),hkey b ((hKp.mem_iff).1 hb)]at hk;exact hk)
    have hAd:∀x∈A,x ∉ K:=fun x hx hxK=>by
     have h1:=(hA.mem x).1 hx;have h2:=(hKp.mem_iff).1 hxK;rw[←ht,List.append_assoc,List.take_left]at h1;have:=(zkp.1 h1).2.2;have:=(ze3.1 h2).2.2;omega
    refine⟨A++K,by rw[List.length_append];exact hstp,?_,fun x hx=>?_⟩
    ·rw[l1,hF,List.map_append]
     congr 1
     ·refine List.map_congr_left fun x hx=>?_
      exact(zck (q.closed hA hx).1 (q.closed hA hx).2).symm
     ·refine List.map_congr_left fun x hx=>?_
      have hxg:=(hKp.mem_iff).1 hx;obtain⟨g1,g2⟩:=q.group hA hlt (hgr x hxg).1 (hgr x hxg).2;rw[hkey x hxg,zck g1 g2]
    ·rw[List.idxOf_append]
     by_cases hxA:x∈A
     ·rw[if_pos hxA,l2 x (hAd x hxA),hX x hxA]
     ·have hxK:=(List.mem_append.1 hx).resolve_left hxA
      rw[if_neg hxA,l3 x hxK,hfl];omega
 obtain⟨A,hA,hF,_⟩:=key N (Nat.le_refl _);rw[←hQ]at hA;refine⟨A,?_⟩;have e:zd3 V BV r=A.map fun x=>zbq A (za6 V x):=by
  unfold zd3;rw[←hneed,←hNN,hF]
 rw[e];exact hA.order hQn.1 hQm
theorem zde {α:Type}{P:List α→Prop}(h0:P [])(h1:∀l a,P l→P (l ++ [a])):∀l,P l:=fun l=>by
 have h:∀m:List α,P m.reverse:=fun m=>by
  induction m with
  | nil=>exact h0
  | cons a m ih=>rw[List.reverse_cons];exact h1 _ _ ih
 have:=h l.reverse;rwa [List.reverse_reverse]at this
def za0 (V:List PL):List Nat:=V.foldl (fun C y=>C ++ [mkC (za1 C y.1) (za1 C y.2)]) []
theorem zdn (V:List PL)(y:PL):za0 (V ++ [y])=za0 V ++ [mkC (za1 (za0 V) y.1) (za1 (za0 V) y.2)]:=by simp[za0]
theorem za2 (V:List PL):(za0 V).length=V.length:=by
 induction V using zde with
 | h0=>rfl
 | h1 l a ih=>rw[zdn,List.length_append,List.length_append,ih];rfl
theorem zcq (C t L:List Nat)(h:∀x∈L,x<C.length):za1 (C++t) L=za1 C L:=by
 unfold za1;refine List.map_congr_left fun x hx=>?_
 rw[List.getD_eq_getElem?_getD,List.getD_eq_getElem?_getD,List.getElem?_append_left (h x hx)]
theorem ze8 {C t:List Nat}{j:Nat}(h:j<C.length):(C++t).getD j 0=C.getD j 0:=by
 rw[List.getD_eq_getElem?_getD,List.getD_eq_getElem?_getD,List.getElem?_append_left h]
theorem zeu {V V':List PL}(h:V <+: V'):za0 V <+: za0 V':=by
 obtain⟨t,rfl⟩:=h;induction t using zde with
 | h0=>rw[List.append_nil];exact List.prefix_refl _
 | h1 l a ih=>rw[←List.append_assoc,zdn];exact ih.trans (List.prefix_append _ _)
def OptsOK (V:List PL):Prop:=∀(j:Nat) (y:PL),V[j]?=some y→(∀i∈y.1,i<j)/\∀i∈y.2,i<j
theorem zbz (V:List PL):OptsOK V→∀(j:Nat) (x:PL),V[j]?=some x→(za0 V).getD j 0=mkC (za1 (za0 V) x.1) (za1 (za0 V) x.2):=by
 induction V using zde with
 | h0=>intro _ j x h;simp at h
 | h1 l a ih =>
  intro ho j x hx;have hol:OptsOK l:=fun j y hy=>ho j y (by rw[List.getElem?_append_left (List.getElem?_eq_some_iff.1 hy).1];exact hy)
  have hl:=za2 l;obtain⟨o1,o2⟩:=ho j x hx;rw[zdn];rcases zgn hx with ⟨hj,hx⟩|⟨rfl,rfl⟩
  ·rw[ze8 (by omega),zcq _ _ _ (fun i hi=>by have:=o1 i hi;omega),zcq _ _ _ (fun i hi=>by have:=o2 i hi;omega)]
   exact ih hol j x hx
  ·rw[zcq _ _ _ (fun i hi=>by have:=o1 i hi;omega),zcq _ _ _ (fun i hi=>by have:=o2 i hi;omega)]
   rw[List.getD_eq_getElem?_getD,←hl];simp
theorem zn6 (BL:List Nat)(m:Nat)(L:List Nat):m≤zah BL m L/\(∀x∈L,BL.getD x 0+1≤zah BL m L)/\(zah BL m L=m∨∃x∈L,zah BL m L=BL.getD x 0+1):=zmy (fun i=>BL.getD i 0+1) L m
theorem PoolOK.book {V:List PL}{BV:List Nat}(h:PoolOK V BV):BookC V (za0 V):=by
 have hc:=zbz V h.opts;have hl:=za2 V;refine⟨hl,h.opts,h.up,hc,?_⟩;have key:∀n i j,i+j<n→i<V.length→j<V.length→(za0 V).getD i 0=(za0 V).getD j 0→i=j:=by
  intro n;induction n with
  | zero=>intro i j h;omega
  | succ n ih =>
   intro i j hn hi hj e;have ei:=List.getElem?_eq_getElem hi
   have ej:=List.getElem?_eq_getElem hj
   obtain⟨p1,p2⟩:=h.opts i _ ei;obtain⟨q1,q2⟩:=h.opts j _ ej;obtain⟨u1,u2⟩:=h.up i _ ei;obtain⟨v1,v2⟩:=h.up j _ ej;rw[hc i _ ei,hc j _ ej]at e;have side:∀(a b:Nat) (l m:List Nat),a+b<n+1→a<V.length→b<V.length→(∀x∈l,x<a)→(∀x∈m,x<b)→(∀z,z∈za1 (za0 V) l→z∈za1 (za0 V) m)→∀x∈l,x∈m:=by
    intro a b l m hab ha hb hl' hm' hs x hx;obtain⟨y,hy,ey⟩:=za8.1 (hs _ (za8.2 ⟨x,hx,rfl⟩));have h1:=hl' x hx;have h2:=hm' y hy;rw[ih x y (by omega) (by omega) (by omega) ey.symm];exact hy
   have s1:∀z,z∈za1 (za0 V) V[i].1↔z∈za1 (za0 V) V[j].1:=fun z=>by rw[←zab _ (za1 (za0 V) V[i].2),e,zab]
   have s2:∀z,z∈za1 (za0 V) V[i].2↔z∈za1 (za0 V) V[j].2:=fun z=>by rw[←zad (za1 (za0 V) V[i].1),e,zad]
   have e1:V[i].1=V[j].1:=zgt u1 v1 fun x=>⟨side i j _ _ hn hi hj p1 q1 (fun z=>(s1 z).1) x,side j i _ _ (by omega) hj hi q1 p1 (fun z=>(s1 z).2) x⟩
   have e2:V[i].2=V[j].2:=zgt u2 v2 fun x=>⟨side i j _ _ hn hi hj p2 q2 (fun z=>(s2 z).1) x,side j i _ _ (by omega) hj hi q2 p2 (fun z=>(s2 z).2) x⟩
   exact(List.getElem_inj h.nodup).1 (Prod.ext e1 e2)
 refine List.nodup_iff_pairwise_ne.2 (List.pairwise_iff_getElem.2 fun i j hi hj hij e=>?_);have:=key (i+j+1) i j (by omega) (by omega) (by omega) (by rw[List.getD_eq_getElem?_getD,List.getD_eq_getElem?_getD,List.getElem?_eq_getElem hi,List.getElem?_eq_getElem hj,e]);omega
theorem PoolOK.births {V:List PL}{BV:List Nat}(h:PoolOK V BV):∀j,j<V.length→BV.getD j 0=bornC ((za0 V).getD j 0):=by
 intro j;induction j using Nat.strongRecOn with
 | _ j ih =>
  intro hj;have ej:=List.getElem?_eq_getElem hj
  obtain⟨o1,o2⟩:=h.opts j _ ej;rw[h.born j _ ej,zbz V h.opts j _ ej];obtain⟨a1,a2,a3⟩:=zn6 BV 0 V[j].1;obtain⟨b1,b2,b3⟩:=zn6 BV (zah BV 0 V[j].1) V[j].2;have hopt:∀i,optC (mkC (za1 (za0 V) V[j].1) (za1 (za0 V) V[j].2)) i↔(∃x∈V[j].1,(za0 V).getD x 0=i)∨∃x∈V[j].2,(za0 V).getD x 0=i:=fun i=>by
   unfold optC;rw[zab,zad,za8,za8]
  refine(ycm (fun i hi=>?_) ?_).symm
  ·rcases (hopt i).1 hi with ⟨x,hx,rfl⟩|⟨x,hx,rfl⟩
   ·rw[←ih x (o1 x hx) (by have:=o1 x hx;omega)]
    have:=a2 x hx;omega
   ·rw[←ih x (o2 x hx) (by have:=o2 x hx;omega)]
    have:=b2 x hx;omega
  ·rcases b3 with b3|⟨x,hx,b3⟩
   ·rcases a3 with a3|⟨x,hx,a3⟩
    ·exact .inl (by omega)
    ·refine .inr ⟨_,(hopt _).2 (.inl ⟨x,hx,rfl⟩),?_⟩
     rw[←ih x (o1 x hx) (by have:=o1 x hx;omega)];omega
   ·refine .inr ⟨_,(hopt _).2 (.inr ⟨x,hx,rfl⟩),?_⟩
    rw[←ih x (o2 x hx) (by have:=o2 x hx;omega)];omega
theorem PoolOK.form {V:List PL}{BV:List Nat}(h:PoolOK V BV){r:Nat}(hr:r<V.length):FormC ((za0 V).getD r 0) (zd3 V BV r):=by
 obtain⟨Q,O⟩:=zmx h hr;exact⟨_,znr h.book h.births hr O⟩
theorem zdp (BL:List Nat)(m K:Nat)(L:List Nat):zah BL m L≤K↔m≤K/\∀x∈L,BL.getD x 0+1≤K:=by
 obtain⟨a1,a2,a3⟩:=zn6 BL m L;constructor
 ·exact fun h=>⟨by omega,fun x hx=>by have:=a2 x hx;omega⟩
 ·rintro⟨h1,h2⟩
  rcases a3 with a3|⟨x,hx,a3⟩
  ·omega
  ·have:=h2 x hx;omega
theorem ya9 (BL:List Nat){L L' R R':List Nat}(h1:∀x,x∈L↔x∈L')(h2:∀x,x∈R↔x∈R'):zah BL (zah BL 0 L) R=zah BL (zah BL 0 L') R':=by
 have key:∀ {A A' B B':List Nat},(∀x,x∈A↔x∈A')→(∀x,x∈B↔x∈B')→zah BL (zah BL 0 A) B≤zah BL (zah BL 0 A') B':=by
  intro A A' B B' e1 e2;obtain⟨i1,i2⟩:=(zdp BL (zah BL 0 A') _ B').1 (Nat.le_refl _);obtain⟨j1,j2⟩:=(zdp BL 0 _ A').1 i1;exact(zdp _ _ _ _).2 ⟨(zdp _ _ _ _).2 ⟨j1,fun x hx=>j2 x ((e1 x).1 hx)⟩,fun x hx=>i2 x ((e2 x).1 hx)⟩
 exact Nat.le_antisymm (key h1 h2) (key (fun x=>(h1 x).symm) fun x=>(h2 x).symm)
theorem zcd {V:List PL}{BV:List Nat}(h:PoolOK V BV)(L R:List Nat):putB V BV L R=za4 V BV L R:=by
 have hb:(zfv BV L R).1=zah BV (zah BV 0 (zaf L)) (zaf R):=ya9 BV (fun x=>(zb2 L x).symm) fun x=>(zb2 R x).symm
 have h2:(zfv BV L R).2=(zaf L,zaf R):=rfl;unfold putB za4;simp only[h2];by_cases hm:(zaf L,zaf R)∈V
 ·rw[if_pos hm]
  have hi:=List.idxOf_lt_length_of_mem hm;have ei:V[V.idxOf (zaf L,zaf R)]?=some (zaf L,zaf R):=by rw[List.getElem?_eq_getElem hi,List.getElem_idxOf]
  have e:zs2 V BV (zfv BV L R).1 (zaf L,zaf R)=V.idxOf (zaf L,zaf R):=by
   refine ztr V BV _ _ _ hi h.len (fun j x y hj hx hy q=>?_) ?_ ei
   ·have hjl:=(List.getElem?_eq_some_iff.1 hx).1
    rw[q.2]at hx;obtain⟨_,ex⟩:=List.getElem?_eq_some_iff.1 hx
    have:V.idxOf V[j]=j:=List.Nodup.idxOf_getElem h.nodup j hjl;rw[ex]at this;omega
   ·have hbn:=h.born _ _ ei
    have hl:V.idxOf (zaf L,zaf R)<BV.length:=by rw[h.len];exact hi
    rw[List.getD_eq_getElem?_getD,List.getElem?_eq_getElem hl]at hbn;rw[List.getElem?_eq_getElem hl,hb,←hbn];rfl
  rw[e,if_pos hi]
 ·rw[if_neg hm]
  have e:=znp V BV (zfv BV L R).1 (zaf L,zaf R) h.len (fun j x y hj hx hy q=>hm (by rw[←q.2];exact List.mem_of_getElem? hx));rw[if_neg e,hb]
theorem zpn {V:List PL}{BV:List Nat}(h:PoolOK V BV){L R:List Nat}(hL:∀x∈L,x<V.length)(hR:∀x∈R,x<V.length) :
  (za0 (za4 V BV L R).1).getD (za4 V BV L R).2.2 0=mkC (za1 (za0 V) L) (za1 (za0 V) R):=by
 obtain⟨h1,h2⟩:=zid h hL hR;obtain⟨_,_,hp⟩:=zd6 V BV L R;have hl:=za2 V;rw[zbz _ h1.opts _ _ h2];obtain⟨t,ht⟩:=zeu hp;rw[←ht];refine zz0 (fun i=>?_) fun i=>?_
 ·rw[zcq _ _ _ (fun x hx=>by rw[hl];exact hL x ((zb2 L x).1 hx)),za8,za8]
  exact⟨fun⟨x,hx,e⟩=>⟨x,(zb2 L x).1 hx,e⟩,fun⟨x,hx,e⟩=>⟨x,(zb2 L x).2 hx,e⟩⟩
 ·rw[zcq _ _ _ (fun x hx=>by rw[hl];exact hR x ((zb2 R x).1 hx)),za8,za8]
  exact⟨fun⟨x,hx,e⟩=>⟨x,(zb2 R x).1 hx,e⟩,fun⟨x,hx,e⟩=>⟨x,(zb2 R x).2 hx,e⟩⟩
theorem zza {b1 b2 b3:Nat}{x1 x2 x3:PL}(h:klt b1 x1 b2 x2)(h':klt b2 x2 b3 x3):klt b1 x1 b3 x3:=by
 rcases h with h|⟨e,h⟩
 ·rcases h' with h'|⟨e',_⟩
  ·exact .inl (by omega)
  ·exact .inl (by omega)
 ·rcases h' with h'|⟨e',h'⟩
  ·exact .inl (by omega)
  ·exact .inr ⟨by omega,zep h h'⟩
theorem ye1 (b:Nat)(x:PL):¬klt b x b x:=fun h=>zr0 h h
def zb9 (Fs:List PL):List Nat:=Fs.foldl (fun B y=>B ++ [zah B (zah B 0 y.1) y.2]) []
theorem zeb (Fs:List PL)(y:PL):zb9 (Fs ++ [y])=zb9 Fs ++ [zah (zb9 Fs) (zah (zb9 Fs) 0 y.1) y.2]:=by simp[zb9]
theorem zd2 (Fs:List PL):(zb9 Fs).length=Fs.length:=by
 induction Fs using zde with
 | h0=>rfl
 | h1 l a ih=>rw[zeb,List.length_append,List.length_append,ih];rfl
theorem OptsOK.cut {l:List PL}{a:PL}(ho:OptsOK (l ++ [a])):OptsOK l:=fun j z hz=>ho j z (by rw[List.getElem?_append_left (List.getElem?_eq_some_iff.1 hz).1];exact hz)
theorem BookUp.cut {l:List PL}{a:PL}(ho:BookUp (l ++ [a])):BookUp l:=fun j z hz=>ho j z (by rw[List.getElem?_append_left (List.getElem?_eq_some_iff.1 hz).1];exact hz)
theorem zn5 (Fs:List PL):OptsOK Fs→∀(j:Nat) (y:PL),Fs[j]?=some y→(zb9 Fs).getD j 0=zah (zb9 Fs) (zah (zb9 Fs) 0 y.1) y.2:=by
 induction Fs using zde with
 | h0=>intro _ j y h;simp at h
 | h1 l a ih =>
  intro ho j y hy;have hl:=zd2 l;obtain⟨o1,o2⟩:=ho j y hy;rw[zeb];rcases zgn hy with ⟨hj,hy⟩|⟨rfl,rfl⟩
  ·rw[zc0 _ _ _ _ (fun x hx=>by have:=o2 x hx;omega),zc0 _ _ _ _ (fun x hx=>by have:=o1 x hx;omega),ze8 (by omega)]
   exact ih ho.cut j y hy
  ·rw[zc0 _ _ _ _ (fun x hx=>by have:=o2 x hx;omega),zc0 _ _ _ _ (fun x hx=>by have:=o1 x hx;omega),List.getD_eq_getElem?_getD,←hl]
   simp
theorem zhg {Fs:List PL}(ho:OptsOK Fs)(hu:BookUp Fs)(hn:Fs.Nodup):PoolOK Fs (zb9 Fs):=⟨zd2 Fs,ho,hu,hn,zn5 Fs ho⟩
theorem zri (Fs:List PL):OptsOK Fs→BookUp Fs→Fs.Nodup→addB [] [] Fs=(Fs,zb9 Fs,List.range Fs.length):=by
 induction Fs using zde with
 | h0=>intro _ _ _;rfl
 | h1 l y ih =>
  intro ho hu hn;have hnl:l.Nodup:=(List.nodup_append.1 hn).1;have hnot:y ∉ l:=fun h=>(List.nodup_append.1 hn).2.2 y h y (by simp) rfl
  have hy:(l ++ [y])[l.length]?=some y:=by simp
  obtain⟨o1,o2⟩:=ho _ y hy;obtain⟨u1,u2⟩:=hu _ y hy;have hat:∀L:List Nat,(∀x∈L,x<l.length)→za1 (List.range l.length) L=L:=fun L hL=>ycn _ _ fun x hx=>by rw[zib,if_pos (hL x hx)]
  have hput:za4 l (zb9 l) y.1 y.2=(l ++ [y],zb9 (l ++ [y]),l.length):=by
   unfold za4;rw[ztg _ u1,ztg _ u2,if_neg hnot,zeb]
  rw[zec,ih ho.cut hu.cut hnl];unfold zit;simp only[hat _ o1,hat _ o2,zcd (zhg ho.cut hu.cut hnl),hput];simp[List.range_succ]
theorem zrk (Fs:List PL):OptsOK Fs→∀ {V:List PL}{BV:List Nat},PoolOK V BV→BookOK V BV→PoolOK (addB V BV Fs).1 (addB V BV Fs).2.1:=by
 induction Fs using zde with
 | h0=>intro _ V BV h _;exact h
 | h1 l y ih =>
  intro ho V BV h hb;obtain⟨k1,k2,k3,k4,k5⟩:=zgb hb l ho.cut;have hp:=ih ho.cut h hb;have hy:(l ++ [y])[l.length]?=some y:=by simp
  obtain⟨o1,o2⟩:=ho _ y hy;rw[zec];show PoolOK (putB _ _ _ _).1 (putB _ _ _ _).2.1
  rw[zcd hp];exact(zid hp (zen k3 (fun x hx=>by rw[k2];exact o1 x hx)) (zen k3 (fun x hx=>by rw[k2];exact o2 x hx))).1
theorem zy4 {V:List PL}{C:List Nat}(B:BookC V C){r:Nat}(hr:r<V.length){x:Nat}(h:ReachV V [r] x):SubC (C.getD r 0) (C.getD x 0):=by
 induction h with
 | root h=>simp at h;subst h;exact .root
 | left h hz ih=>exact .step ih (.inl (B.left (zfb B (by simpa using hr) h) hz).2)
 | right h hz ih=>exact .step ih (.inr (B.right (zfb B (by simpa using hr) h) hz).2)
theorem zm4 {V:List PL}{C:List Nat}(B:BookC V C){r:Nat}(hr:r<V.length){c:Nat}(h:SubC (C.getD r 0) c):∃x,ReachV V [r] x/\x<V.length/\C.getD x 0=c:=by
 induction h with
 | root=>exact⟨r,.root (by simp),hr,rfl⟩
 | step _ ho ih =>
  obtain⟨y,hy,hyl,rfl⟩:=ih;rw[B.code y _ (B.getD hyl)]at ho;rcases ho with ho|ho
  ·rw[zab]at ho
   obtain⟨z,hz,rfl⟩:=za8.1 ho;have hr':=ReachV.left hy hz;exact⟨z,hr',zfb B (by simpa using hr) hr',rfl⟩
  ·rw[zad]at ho
   obtain⟨z,hz,rfl⟩:=za8.1 ho;have hr':=ReachV.right hy hz;exact⟨z,hr',zfb B (by simpa using hr) hr',rfl⟩
def zgx (Fs:List PL):Prop:=∀(j:Nat) (x y:PL),Fs[j]?=some x→Fs[j+1]?=some y→klt ((zb9 Fs).getD j 0) x ((zb9 Fs).getD (j+1) 0) y
def zdb (Fs:List PL):Prop:=∀x,x<Fs.length→(zap Fs (Fs.length-1)).getD x false=true
theorem ybd {Fs:List PL}(h:zgx Fs):∀(d i:Nat) (x y:PL),Fs[i]?=some x→Fs[i+d+1]?=some y→klt ((zb9 Fs).getD i 0) x ((zb9 Fs).getD (i+d+1) 0) y:=by
 intro d;induction d with
 | zero=>intro i x y hx hy;exact h i x y hx hy
 | succ d ih =>
  intro i x y hx hy;have hl:=(List.getElem?_eq_some_iff.1 hy).1;have hm:=List.getElem?_eq_getElem (l:=Fs) (i:=i+d+1) (by omega)
  exact zza (ih i x _ hx hm) (h (i+d+1) _ y hm hy)
theorem zyv {Fs:List PL}(h:zgx Fs){i j:Nat}{x y:PL}(hij:i<j)(hx:Fs[i]?=some x)(hy:Fs[j]?=some y):klt ((zb9 Fs).getD i 0) x ((zb9 Fs).getD j 0) y:=by
 obtain⟨d,rfl⟩:∃d,j=i+d+1:=⟨j-i-1,by omega⟩;exact ybd h d i x y hx hy
theorem zie {Fs:List PL}(ho:OptsOK Fs)(h:zgx Fs):Fs.Nodup:=by
 refine List.nodup_iff_pairwise_ne.2 (List.pairwise_iff_getElem.2 fun i j hi hj hij e=>?_);have e1:=List.getElem?_eq_getElem hi
 have e2:=List.getElem?_eq_getElem hj
 have hk:=zyv h hij e1 e2;rw[zn5 Fs ho i _ e1,zn5 Fs ho j _ e2,e]at hk;exact ye1 _ _ hk
def zb0 (Fs:List PL):Nat:=(za0 Fs).getD (Fs.length-1) 0
theorem zfy {Fs:List PL}{c:Nat}(h:FormC c Fs):0<Fs.length/\OptsOK Fs/\BookUp Fs/\zgx Fs/\zdb Fs/\zb0 Fs=c:=by
 obtain⟨P,hA⟩:=h;have ho:OptsOK Fs:=hA.book.opts;have hu:BookUp Fs:=hA.book.up;have hPl:=hA.book.len;have hPC:∀j,j<Fs.length→P.getD j 0=(za0 Fs).getD j 0:=by
  intro j;induction j using Nat.strongRecOn with
  | _ j ih =>
   intro hj;have ej:=List.getElem?_eq_getElem hj
   obtain⟨o1,o2⟩:=ho j _ ej;have e1:∀L:List Nat,(∀x∈L,x<j)→za1 P L=za1 (za0 Fs) L:=fun L hL=>List.map_congr_left fun x hx=>ih x (hL x hx) (by have:=hL x hx;omega)
   rw[hA.book.code j _ ej,zbz Fs ho j _ ej,e1 _ o1,e1 _ o2]
 have hn:Fs.Nodup:=by
  refine List.nodup_iff_pairwise_ne.2 (List.pairwise_iff_getElem.2 fun i j hi hj hij e=>?_);have c1:=hA.book.code i _ (List.getElem?_eq_getElem hi);have c2:=hA.book.code j _ (List.getElem?_eq_getElem hj);rw[e]at c1;have:=zcm hA.book.nodup (by omega) (by omega) (c1.trans c2.symm);omega
 have hP:=zhg ho hu hn;obtain⟨k,hk,ek⟩:=zhn ((hA.sub c).2 .root);have hkl:k<Fs.length:=by omega
 have hreach:∀i,i<Fs.length→ReachV Fs [k] i:=fun i hi=>by
  have hs:=(hA.sub _).1 (zcz (C:=P) (i:=i) (by omega));rw[←ek]at hs;obtain⟨x,hx,hxl,e⟩:=zm4 hA.book hkl hs;rw[zcm hA.book.nodup (by omega) (by omega) e]at hx;exact hx
 have hle:∀x,ReachV Fs [k] x→x≤k:=fun x hx=>by
  induction hx with
  | root h=>simp at h;omega
  | @left x y hx hy ih=>have:=(ho x _ (za7 (by omega))).1 y hy;omega
  | @right x y hx hy ih=>have:=(ho x _ (za7 (by omega))).2 y hy;omega
 have hke:k=Fs.length-1:=by have:=hle _ (hreach (Fs.length-1) (by omega));omega
 subst hke;refine⟨by omega,ho,hu,fun j x y hx hy=>?_,fun x hx=>(zmb hP hkl x).2 (hreach x hx),by unfold zb0;rw[←hPC _ hkl,ek]⟩;have hk:=hA.up j (j+1) x y (Nat.lt_succ_self _) hx hy;have l1:=(List.getElem?_eq_some_iff.1 hx).1;have l2:=(List.getElem?_eq_some_iff.1 hy).1;rw[hPC j l1,hPC (j+1) l2,←hP.births j l1,←hP.births (j+1) l2]at hk;exact hk
theorem ydq {Fs:List PL}(ho:OptsOK Fs)(hp:0<Fs.length)(h:zd3 (addB [] [] Fs).1 (addB [] [] Fs).2.1 (zfa [] [] Fs)=Fs):zgx Fs/\zdb Fs:=by
 have hP0:=zrk Fs ho PoolOK.nil BookOK.nil;have hroot:zfa [] [] Fs<(addB [] [] Fs).1.length:=by
  obtain⟨k1,k2,k3,k4,k5⟩:=zgb BookOK.nil Fs ho;unfold zfa;rw[List.getD_eq_getElem?_getD,List.getElem?_eq_getElem (by omega)];exact k3 _ (List.getElem_mem _)
 have hA:=hP0.form hroot;rw[h]at hA;obtain⟨_,_,_,h4,h5,_⟩:=zfy hA;exact⟨h4,h5⟩
theorem zzp {Fs:List PL}(hp:0<Fs.length)(ho:OptsOK Fs)(hu:BookUp Fs)(hk:zgx Fs)(hr:zdb Fs):FormC (zb0 Fs) Fs:=by
 have hn:=zie ho hk;have hP:=zhg ho hu hn;have hlast:Fs.length-1<Fs.length:=by omega
 have hcl:=za2 Fs;refine⟨za0 Fs,hP.book,fun x=>⟨fun hx=>?_,fun hx=>?_⟩,fun i j x y hij hx hy=>?_⟩
 ·obtain⟨i,hi,rfl⟩:=zhn hx
  exact zy4 hP.book hlast ((zmb hP hlast i).1 (hr i (by omega)))
 ·obtain⟨y,_,hy,rfl⟩:=zm4 hP.book hlast hx
  exact zcz (by omega)
 ·have h:=zyv hk hij hx hy
  rw[hP.births i (List.getElem?_eq_some_iff.1 hx).1,hP.births j (List.getElem?_eq_some_iff.1 hy).1]at h;exact h
theorem ye5 {Fs:List PL}(hp:0<Fs.length)(ho:OptsOK Fs)(hu:BookUp Fs)(hk:zgx Fs)(hr:zdb Fs):zd3 (addB [] [] Fs).1 (addB [] [] Fs).2.1 (zfa [] [] Fs)=Fs:=by
 have hn:=zie ho hk;have hP:=zhg ho hu hn;have hlast:Fs.length-1<Fs.length:=by omega
 unfold zfa;rw[zri Fs ho hu hn];show zd3 Fs (zb9 Fs) ((List.range Fs.length).getD (Fs.length-1) 0)=Fs
 rw[zib,if_pos hlast];exact(hP.form hlast).one (zzp hp ho hu hk hr)
theorem zi1 (Fs:List PL):zbf (i2 Fs)↔zam Fs=true/\OptsOK Fs/\BookUp Fs/\zgx Fs/\zdb Fs:=by
 constructor
 ·rintro⟨h1,h2,h3⟩
  rw[zh8]at h1;obtain⟨Fs',e,ho,hu⟩:=zkh h2;obtain rfl:=zug e;have hp:0<Fs.length:=by unfold zam at h1;rw[decide_eq_true_eq]at h1;omega
  obtain⟨k1,k2⟩:=ydq ho hp (h3 Fs rfl);exact⟨h1,ho,hu,k1,k2⟩
 ·rintro⟨h1,ho,hu,k1,k2⟩
  have hp:0<Fs.length:=by unfold zam at h1;rw[decide_eq_true_eq]at h1;omega
  refine⟨by rw[zh8];exact h1,fun j y hj hy=>?_,fun Fs' e=>?_⟩
  ·obtain⟨x,hx,rfl⟩:=yd3 hy
   obtain⟨o1,o2⟩:=ho j x hx;obtain⟨u1,u2⟩:=hu j x hx;exact⟨ycy j x.1 none u1 o1 (by simp),ycy j x.2 none u2 o2 (by simp)⟩
  ·obtain rfl:=zug e
   exact ye5 hp ho hu k1 k2
theorem zzh {Fs:List PL}(h:zbf (i2 Fs)):FormC (zb0 Fs) Fs:=by
 obtain⟨h1,ho,hu,k1,k2⟩:=(zi1 Fs).1 h;have hp:0<Fs.length:=by unfold zam at h1;rw[decide_eq_true_eq]at h1;omega
 exact zzp hp ho hu k1 k2
theorem zmv {Fs:List PL}{c:Nat}(h:FormC c Fs)(hf:zam Fs=true):zbf (i2 Fs)/\zb0 Fs=c:=by
 obtain⟨_,ho,hu,k1,k2,k3⟩:=zfy h;exact⟨(zi1 Fs).2 ⟨hf,ho,hu,k1,k2⟩,k3⟩
def geC (a b:Nat):Bool:=((zey a).attach.all fun r=>!geC b r.1) && ((zig b).attach.all fun l=>!geC l.1 a)
 termination_by a+b
 decreasing_by
  ·have:=za5 (.inr (zaz.1 r.2));omega
  ·have:=za5 (.inl (zb7.1 l.2));omega
theorem zet (a b:Nat):geC a b=true↔(∀r,hasR a r→geC b r=false)/\∀l,hasL b l→geC l a=false:=by
 rw[geC,Bool.and_eq_true,List.all_eq_true,List.all_eq_true];constructor
 ·rintro⟨h1,h2⟩
  exact⟨fun r hr=>by simpa using h1 ⟨r,zaz.2 hr⟩ (List.mem_attach _ _),fun l hl=>by simpa using h2 ⟨l,zb7.2 hl⟩ (List.mem_attach _ _)⟩
 ·rintro⟨h1,h2⟩
  exact⟨fun r _=>by simpa using h1 r.1 (zaz.1 r.2),fun l _=>by simpa using h2 l.1 (zb7.1 l.2)⟩
def geV (C:List Nat)(x y:Nat):Bool:=geC (C.getD x 0) (C.getD y 0)
theorem zzk {V:List PL}{C:List Nat}(B:BookC V C){x y:Nat}(hx:x<V.length)(hy:y<V.length) :
  geV C x y=true↔(∀r∈(za6 V x).2,geV C y r=false)/\∀l∈(za6 V y).1,geV C l x=false:=by
 unfold geV;rw[zet];have e1:=B.code x _ (za7 hx);have e2:=B.code y _ (za7 hy);constructor
 ·rintro⟨h1,h2⟩
  exact⟨fun r hr=>h1 _ (by rw[e1,zad];exact za8.2 ⟨r,hr,rfl⟩),fun l hl=>h2 _ (by rw[e2,zab];exact za8.2 ⟨l,hl,rfl⟩)⟩
 ·rintro⟨h1,h2⟩
  refine⟨fun r hr=>?_,fun l hl=>?_⟩
  ·rw[e1,zad]at hr
   obtain⟨z,hz,rfl⟩:=za8.1 hr;exact h1 z hz
  ·rw[e2,zab]at hl
   obtain⟨z,hz,rfl⟩:=za8.1 hl;exact h2 z hz
def domP (g:Nat→Nat→Bool)(L:List Nat)(k j:Nat):Bool:=decide (j≠k) && (g (L.getD k 0) (L.getD j 0) && (!g (L.getD j 0) (L.getD k 0) || decide (j<k)))
def domB (g:Nat→Nat→Bool)(L:List Nat):List Nat:=(List.range L.length).filter fun k=>(List.range L.length).any (domP g L k)
def zai (L P:List Nat):List Nat:=(L.zipIdx.filter fun x=>!P.contains x.2).map (·.1)
def gL (C:List Nat)(a b:Nat):Bool:=geV C b a
def gR (C:List Nat)(a b:Nat):Bool:=geV C a b
theorem ziu (L P:List Nat):(zai L P).Sublist L:=by
 unfold zai;have h:(L.zipIdx.filter fun x=>!P.contains x.2).Sublist L.zipIdx:=List.filter_sublist;have h2:=h.map (·.1);rwa [List.zipIdx_map_fst]at h2
theorem zby {L P:List Nat}{x:Nat}(h:x∈zai L P):x∈L:=(ziu L P).subset h
theorem zci (L P:List Nat):(zai L P).length≤L.length:=(ziu L P).length_le
theorem zha (L P:List Nat)(k:Nat)(hk:k<L.length):zai (L.take (k+1)) P=if k∈P then zai (L.take k) P else zai (L.take k) P ++ [L[k]]:=by
 unfold zai;rw[List.take_succ_eq_append_getElem hk,List.zipIdx_append,List.filter_append,List.map_append];have hl:(L.take k).length=k:=by simp;omega
 simp only[List.zipIdx_cons,List.zipIdx_nil,hl,Nat.zero_add,List.filter_cons,List.filter_nil];by_cases h:k∈P
 ·simp[h]
 ·simp[h]
def FormRes (V:List PL)(BV:List Nat)(r:Nat)(ok:Bool)(FN:List PL):Prop :=
 (ok=false/\FN=[]/\∃Q:List Nat,Q.Nodup/\(∀x,x∈Q↔ReachV V [r] x)/\120<Q.length)∨∃Q GN,OrderIs V BV [r] Q GN/\Q.length≤120/\ok=zam GN/\FN=if ok then GN else []
theorem zzs {α:Type}{GN:List (List α × List α)}(h1:GN.length≤120)(h2:1≤GN.length)(h3:∀(k:Nat) (y:List α × List α),GN[k]?=some y→y.1.length≤24/\y.2.length≤24):zam GN=true :=
 decide_eq_true ⟨h1,h2,fun y hy=>by
  obtain⟨k,hk,rfl⟩:=List.getElem_of_mem hy;exact h3 k _ (List.getElem?_eq_getElem hk)⟩
theorem yc2 {α:Type}{GN:List (List α × List α)}{k:Nat}{y:List α × List α}(hy:GN[k]?=some y)(h:24<y.1.length∨24<y.2.length):zam GN=false :=
 decide_eq_false fun q=>by
  have:=q.2.2 y (List.mem_of_getElem? hy);omega
def negC (a:Nat):Nat:=mkC ((zey a).attach.map fun r=>negC r.1) ((zig a).attach.map fun l=>negC l.1)
 termination_by a
 decreasing_by
  ·exact za5 (.inr (zaz.1 r.2))
  ·exact za5 (.inl (zb7.1 l.2))
theorem zhy (a i:Nat):hasL (negC a) i↔∃r,hasR a r/\negC r=i:=by
 rw[negC,zab,List.mem_map];constructor
 ·rintro⟨r,_,e⟩;exact⟨r.1,zaz.1 r.2,e⟩
 ·rintro⟨r,hr,e⟩;exact⟨⟨r,zaz.2 hr⟩,List.mem_attach _ _,e⟩
theorem zhx (a i:Nat):hasR (negC a) i↔∃l,hasL a l/\negC l=i:=by
 rw[negC,zad,List.mem_map];constructor
 ·rintro⟨r,_,e⟩;exact⟨r.1,zb7.1 r.2,e⟩
 ·rintro⟨r,hr,e⟩;exact⟨⟨r,zb7.2 hr⟩,List.mem_attach _ _,e⟩
def sumC (a b:Nat):Nat :=
 mkC ((zig a).attach.map (fun l=>sumC l.1 b)++(zig b).attach.map fun l=>sumC a l.1) ((zey a).attach.map (fun r=>sumC r.1 b)++(zey b).attach.map fun r=>sumC a r.1)
 termination_by a+b
 decreasing_by
  ·have:=za5 (.inl (zb7.1 l.2));omega
  ·have:=za5 (.inl (zb7.1 l.2));omega
  ·have:=za5 (.inr (zaz.1 r.2));omega
  ·have:=za5 (.inr (zaz.1 r.2));omega
theorem zcy (a b i:Nat):hasL (sumC a b) i↔(∃l,hasL a l/\sumC l b=i)∨∃l,hasL b l/\sumC a l=i:=by
 rw[sumC,zab,List.mem_append,List.mem_map,List.mem_map];constructor
 ·rintro(⟨r,_,e⟩|⟨r,_,e⟩)
  ·exact .inl ⟨r.1,zb7.1 r.2,e⟩
  ·exact .inr ⟨r.1,zb7.1 r.2,e⟩
 ·rintro(⟨r,hr,e⟩|⟨r,hr,e⟩)
  ·exact .inl ⟨⟨r,zb7.2 hr⟩,List.mem_attach _ _,e⟩
  ·exact .inr ⟨⟨r,zb7.2 hr⟩,List.mem_attach _ _,e⟩
theorem zcx (a b i:Nat):hasR (sumC a b) i↔(∃l,hasR a l/\sumC l b=i)∨∃l,hasR b l/\sumC a l=i:=by
 rw[sumC,zad,List.mem_append,List.mem_map,List.mem_map];constructor
 ·rintro(⟨r,_,e⟩|⟨r,_,e⟩)
  ·exact .inl ⟨r.1,zaz.1 r.2,e⟩
  ·exact .inr ⟨r.1,zaz.1 r.2,e⟩
 ·rintro(⟨r,hr,e⟩|⟨r,hr,e⟩)
  ·exact .inl ⟨⟨r,zaz.2 hr⟩,List.mem_attach _ _,e⟩
  ·exact .inr ⟨⟨r,zaz.2 hr⟩,List.mem_attach _ _,e⟩
theorem yde (a b:Nat)(L R:List Nat)(hL:∀i,i∈L↔(∃l,hasL a l/\sumC l b=i)∨∃l,hasL b l/\sumC a l=i)(hR:∀i,i∈R↔(∃l,hasR a l/\sumC l b=i)∨∃l,hasR b l/\sumC a l=i):mkC L R=sumC a b :=
 zd1 (fun i=>by rw[zab,hL,zcy]) (fun i=>by rw[zad,hR,zcx])
theorem ydy (a:Nat)(L R:List Nat)(hL:∀i,i∈L↔∃r,hasR a r/\negC r=i)(hR:∀i,i∈R↔∃l,hasL a l/\negC l=i):mkC L R=negC a :=
 zd1 (fun i=>by rw[zab,hL,zhy]) (fun i=>by rw[zad,hR,zhx])
theorem zak {V V':List PL}(h:V <+: V'){x:Nat}(hx:x<V.length):(za0 V').getD x 0=(za0 V).getD x 0:=by
 obtain⟨t,ht⟩:=zeu h;rw[←ht];exact ze8 (by rw[za2];exact hx)
theorem zcu {V V':List PL}(h:V <+: V'){x:Nat}(hx:x<V.length):za6 V' x=za6 V x:=by
 obtain⟨t,rfl⟩:=h;unfold za6;rw[List.getD_eq_getElem?_getD,List.getD_eq_getElem?_getD,List.getElem?_append_left hx]
def RowC (V:List PL)(L cs:List Nat):Prop:=(∀x∈L,x<V.length)/\za1 (za0 V) L=cs
theorem RowC.nil (V:List PL):RowC V [] []:=⟨by simp,rfl⟩
theorem RowC.mono {V V':List PL}{L cs:List Nat}(h:RowC V L cs)(hp:V <+: V'):RowC V' L cs:=by
 refine⟨fun x hx=>Nat.lt_of_lt_of_le (h.1 x hx) hp.length_le,?_⟩;rw[←h.2];exact List.map_congr_left fun x hx=>zak hp (h.1 x hx)
theorem RowC.snoc {V:List PL}{L cs:List Nat}{x c:Nat}(h:RowC V L cs)(hx:x<V.length)(hc:(za0 V).getD x 0=c):RowC V (L ++ [x]) (cs ++ [c]):=by
 refine⟨fun y hy=>?_,?_⟩
 ·rcases List.mem_append.1 hy with hy|hy
  ·exact h.1 y hy
  ·rw[List.mem_singleton.1 hy];exact hx
 ·rw[←h.2,←hc]
  simp[za1]
theorem RowC.next {V:List PL}{L TL:List Nat}{x c j:Nat}(h:RowC V L (TL.take j))(hj:TL[j]?=some c)(hx:x<V.length)(hc:(za0 V).getD x 0=c):RowC V (L ++ [x]) (TL.take (j+1)):=by
 obtain⟨hl,e⟩:=List.getElem?_eq_some_iff.1 hj
 rw[List.take_succ_eq_append_getElem hl,e];exact h.snoc hx hc
theorem RowC.len {V:List PL}{L cs:List Nat}(h:RowC V L cs):L.length=cs.length:=by
 rw[←h.2];simp[za1]
theorem zer {V:List PL}{BV:List Nat}(h:PoolOK V BV){L R cs ds:List Nat}(hL:RowC V L cs)(hR:RowC V R ds) :
  PoolOK (za4 V BV L R).1 (za4 V BV L R).2.1/\V <+: (za4 V BV L R).1/\(za4 V BV L R).2.2<(za4 V BV L R).1.length/\(za0 (za4 V BV L R).1).getD (za4 V BV L R).2.2 0=mkC cs ds:=by
 obtain⟨p1,_,p3⟩:=zd6 V BV L R;exact⟨(zid h hL.1 hR.1).1,p3,p1,by rw[zpn h hL.1 hR.1,hL.2,hR.2]⟩
theorem ycx {C D:List Nat}{x y:PL}{a b:Nat}(hx:a=mkC (za1 C x.1) (za1 C x.2))(hy:b=mkC (za1 D y.1) (za1 D y.2)) :
  mkC ((za1 C x.1).map (fun l=>sumC l b)++(za1 D y.1).map fun l=>sumC a l) ((za1 C x.2).map (fun l=>sumC l b)++(za1 D y.2).map fun l=>sumC a l)=sumC a b:=by
 have e1:∀l,hasL a l↔l∈za1 C x.1:=fun l=>by rw[hx,zab]
 have e2:∀l,hasR a l↔l∈za1 C x.2:=fun l=>by rw[hx,zad]
 have e3:∀l,hasL b l↔l∈za1 D y.1:=fun l=>by rw[hy,zab]
 have e4:∀l,hasR b l↔l∈za1 D y.2:=fun l=>by rw[hy,zad]
 refine yde a b _ _ (fun i=>?_) fun i=>?_
 ·rw[List.mem_append,List.mem_map,List.mem_map]
  simp only[e1,e3]
 ·rw[List.mem_append,List.mem_map,List.mem_map]
  simp only[e2,e4]
theorem yd1 {C:List Nat}{x:PL}{a:Nat}(hx:a=mkC (za1 C x.1) (za1 C x.2)):mkC ((za1 C x.2).map negC) ((za1 C x.1).map negC)=negC a:=by
 have e1:∀l,hasL a l↔l∈za1 C x.1:=fun l=>by rw[hx,zab]
 have e2:∀l,hasR a l↔l∈za1 C x.2:=fun l=>by rw[hx,zad]
 refine ydy a _ _ (fun i=>?_) fun i=>?_
 ·rw[List.mem_map];simp only[e2]
 ·rw[List.mem_map];simp only[e1]
theorem zo8 {C A B:List Nat}{g:Nat→Nat}{k l:Nat}(h:A[k]?=some l):((za1 C A).map g++B)[k]?=some (g (C.getD l 0)):=by
 have hk:=(List.getElem?_eq_some_iff.1 h).1;rw[List.getElem?_append_left (by simpa [za1] using hk)];simp[za1,List.getElem?_map,h]
theorem zkf {C D A B:List Nat}{g g':Nat→Nat}{k l:Nat}(h:B[k]?=some l):((za1 C A).map g++(za1 D B).map g')[A.length+k]?=some (g' (D.getD l 0)):=by
 rw[List.getElem?_append_right (by simp[za1])];simp[za1,List.getElem?_map,h]
theorem ycv {C A:List Nat}{g:Nat→Nat}{k l:Nat}(h:A[k]?=some l):((za1 C A).map g)[k]?=some (g (C.getD l 0)):=by
 simp[za1,List.getElem?_map,h]
theorem zf1 {V:List PL}{BV:List Nat}(h:PoolOK V BV){U:List Nat}(hU:∀x,x<V.length→(za0 V).getD x 0∈U):V.length≤U.length:=by
 rw[←za2 V];refine h.book.nodup.length_le_of_subset fun c hc=>?_
 obtain⟨i,hi,rfl⟩:=zhn hc;exact hU i (by rw[←za2 V];exact hi)
theorem zgg {V:List PL}{BV:List Nat}{L R U:List Nat}(hU:∀x,x<V.length→(za0 V).getD x 0∈U)(hc:(za0 (za4 V BV L R).1).getD (za4 V BV L R).2.2 0∈U) :
  ∀x,x<(za4 V BV L R).1.length→(za0 (za4 V BV L R).1).getD x 0∈U:=by
 intro x hx;obtain⟨p1,p2,p3⟩:=zd6 V BV L R;by_cases h:x<V.length
 ·rw[zak p3 h];exact hU x h
 ·have e:x=(za4 V BV L R).2.2:=by
   unfold za4 at hx p1 ⊢;split
   ·rename_i hm;rw[if_pos hm]at hx;exact absurd hx h
   ·rename_i hm
    rw[if_neg hm]at hx;simp at hx ⊢;omega
  rw[e];exact hc
theorem zrb:∀(c:Nat) (V:List PL) (BV:List Nat),PoolOK V BV→∃V' BV' r,PoolOK V' BV'∧V <+: V'∧r<V'.length/\(za0 V').getD r 0=c:=by
 intro c;induction c using Nat.strongRecOn with
 | _ c ih =>
  have row:∀(L:List Nat),(∀l∈L,l<c)→∀(V:List PL) (BV:List Nat),PoolOK V BV→∃V' BV' A,PoolOK V' BV'∧V <+: V'∧RowC V' A L:=by
   intro L;induction L using zde with
   | h0=>intro _ V BV h;exact⟨V,BV,[],h,List.prefix_refl _,RowC.nil V⟩
   | h1 l a il =>
    intro hl V BV h;obtain⟨V1,B1,A,h1,p1,r1⟩:=il (fun x hx=>hl x (List.mem_append_left _ hx)) V BV h;obtain⟨V2,B2,r,h2,p2,hr,hc⟩:=ih a (hl a (by simp)) V1 B1 h1;exact⟨V2,B2,A ++ [r],h2,p1.trans p2,(r1.mono p2).snoc hr hc⟩
  intro V BV h;obtain⟨V1,B1,A1,h1,p1,r1⟩:=row (zig c) (fun l hl=>za5 (.inl (zb7.1 hl))) V BV h;obtain⟨V2,B2,A2,h2,p2,r2⟩:=row (zey c) (fun l hl=>za5 (.inr (zaz.1 hl))) V1 B1 h1;obtain⟨q1,q2,q3,q4⟩:=zer h2 (r1.mono p2) r2;exact⟨_,_,_,q1,(p1.trans p2).trans q2,q3,by rw[q4,ybh]⟩
theorem zzq (c:Nat):∃FN,FormC c FN:=by
 obtain⟨V,BV,r,h,_,hr,hc⟩:=zrb c [] [] PoolOK.nil;have:=h.form hr;rw[hc]at this
 exact⟨_,this⟩
noncomputable def zac (c:Nat):List PL:=Classical.choose (zzq c)
theorem zbi (c:Nat):FormC c (zac c):=Classical.choose_spec (zzq c)
theorem FormC.of {c:Nat}{FN:List PL}(h:FormC c FN):FN=zac c:=h.one (zbi c)
theorem zdh {V:List PL}{BV:List Nat}(h:PoolOK V BV){r c:Nat}(hr:r<V.length)(hc:(za0 V).getD r 0=c):zd3 V BV r=zac c:=by
 have:=h.form hr;rw[hc]at this
 exact this.of
theorem SubC.trans {a b c:Nat}(h:SubC a b)(h':SubC b c):SubC a c:=by
 induction h' with
 | root=>exact h
 | step _ ho ih=>exact ih.step ho
theorem zt4 {C A L:List Nat}(h:∀i∈L,i<A.length):za1 C (za1 A L)=za1 (za1 C A) L:=by
 unfold za1;rw[List.map_map];refine List.map_congr_left fun i hi=>?_
 have hl:=h i hi;simp[List.getD_eq_getElem?_getD,List.getElem?_map,List.getElem?_eq_getElem hl]
theorem RowC.at {V:List PL}{A cs L:List Nat}(h:RowC V A cs)(hL:∀i∈L,i<A.length):RowC V (za1 A L) (za1 cs L):=by
 refine⟨fun x hx=>?_,?_⟩
 ·obtain⟨i,hi,rfl⟩:=za8.1 hx
  exact h.1 _ (zcz (hL i hi))
 ·rw[zt4 hL,h.2]
theorem OptsOK.last {l:List PL}{a:PL}(ho:OptsOK (l ++ [a])):(∀i∈a.1,i<l.length)/\∀i∈a.2,i<l.length:=ho l.length a (by simp)
theorem zrm (Fs:List PL):OptsOK Fs→∀ {V:List PL}{BV:List Nat},PoolOK V BV→PoolOK (addB V BV Fs).1 (addB V BV Fs).2.1/\V <+: (addB V BV Fs).1/\RowC (addB V BV Fs).1 (addB V BV Fs).2.2 (za0 Fs) ∧
  ∀x,x<(addB V BV Fs).1.length→(za0 (addB V BV Fs).1).getD x 0∈za0 V++za0 Fs:=by
 induction Fs using zde with
 | h0 =>
  intro _ V BV h;exact⟨h,List.prefix_refl _,RowC.nil V,fun x hx=>List.mem_append_left _ (zcz (by rw[za2];exact hx))⟩
 | h1 l a ih =>
  intro ho V BV h;obtain⟨i1,i2,i3,i4⟩:=ih ho.cut h;obtain⟨o1,o2⟩:=ho.last;have hlen:(addB V BV l).2.2.length=l.length:=by rw[i3.len,za2]
  have r1:=i3.at (L:=a.1) (fun i hi=>by rw[hlen];exact o1 i hi);have r2:=i3.at (L:=a.2) (fun i hi=>by rw[hlen];exact o2 i hi);obtain⟨q1,q2,q3,q4⟩:=zer i1 r1 r2;have e:addB V BV (l ++ [a])=((za4 (addB V BV l).1 (addB V BV l).2.1 (za1 (addB V BV l).2.2 a.1) (za1 (addB V BV l).2.2 a.2)).1,(za4 (addB V BV l).1 (addB V BV l).2.1 (za1 (addB V BV l).2.2 a.1) (za1 (addB V BV l).2.2 a.2)).2.1,
    (addB V BV l).2.2 ++ [(za4 (addB V BV l).1 (addB V BV l).2.1 (za1 (addB V BV l).2.2 a.1) (za1 (addB V BV l).2.2 a.2)).2.2]):=by
   rw[zec,←zcd i1];rfl
  rw[e,zdn];refine⟨q1,i2.trans q2,(i3.mono q2).snoc q3 q4,?_⟩;refine zgg (fun x hx=>?_) ?_
  ·rcases List.mem_append.1 (i4 x hx)with h|h
   ·exact List.mem_append_left _ h
   ·exact List.mem_append_right _ (List.mem_append_left _ h)
  ·rw[q4]
   exact List.mem_append_right _ (List.mem_append_right _ (List.mem_singleton.2 rfl))
theorem zm5 {V:List PL}{BV:List Nat}(h:PoolOK V BV){r:Nat}(hr:r<V.length){a:Nat}(hs:SubC ((za0 V).getD r 0) a):a∈za0 V:=by
 obtain⟨x,_,hx,e⟩:=zm4 h.book hr hs;rw[←e];exact zcz (by rw[za2];exact hx)
def sumU (C:List Nat):List Nat:=C++C.flatMap fun a=>C.map fun b=>sumC a b
theorem ybm {C:List Nat}{a b:Nat}(ha:a∈C)(hb:b∈C):sumC a b∈sumU C:=List.mem_append_right _ (List.mem_flatMap.2 ⟨a,ha,List.mem_map.2 ⟨b,hb,rfl⟩⟩)
theorem ztb (C:List Nat):(sumU C).length=C.length+C.length*C.length:=by
 unfold sumU;rw[List.length_append];congr 1
 have:∀D:List Nat,(D.flatMap fun a=>C.map fun b=>sumC a b).length=D.length*C.length:=by
  intro D;induction D with
  | nil=>simp
  | cons a l ih=>rw[List.flatMap_cons,List.length_append,ih,List.length_map,List.length_cons,Nat.succ_mul,Nat.add_comm]
 exact this C
theorem zdi {V:List PL}{BV:List Nat}(h:PoolOK V BV):BookOK V BV:=by
 have hle:∀j,j<V.length→BV.getD j 0≤j:=by
  intro j;induction j using Nat.strongRecOn with
  | _ j ih =>
   intro hj;have e:=za7 hj;obtain⟨o1,o2⟩:=h.opts j _ e;rw[h.born j _ e,zdp,zdp];exact⟨⟨Nat.zero_le _,fun x hx=>by have:=o1 x hx;have:=ih x this (by omega);omega⟩,fun x hx=>by have:=o2 x hx;have:=ih x this (by omega);omega⟩
 exact⟨h.len,h.opts,fun j x hx=>by
  have hj:=(List.getElem?_eq_some_iff.1 hx).1;have:=hle j (by rw[←h.len];exact hj);rw[List.getD_eq_getElem?_getD,hx]at this
  exact this⟩
def ze1 (CF CG:List Nat):List Nat:=CF.flatMap fun a=>CG.map fun b=>sumC a b
theorem zv0 (CF CG:List Nat):(ze1 CF CG).length=CF.length*CG.length:=by
 unfold ze1;induction CF with
 | nil=>simp
 | cons a l ih=>rw[List.flatMap_cons,List.length_append,ih,List.length_map,List.length_cons,Nat.succ_mul,Nat.add_comm]
theorem zv1 {CF CG:List Nat}:∀ {i k:Nat},i<CF.length→k<CG.length→(ze1 CF CG)[i*CG.length+k]?=some (sumC (CF.getD i 0) (CG.getD k 0)):=by
 induction CF with
 | nil=>intro i k h;simp at h
 | cons a l ih =>
  intro i k hi hk;have e:ze1 (a::l) CG=(CG.map fun b=>sumC a b)++ze1 l CG:=by unfold ze1;rw[List.flatMap_cons]
  rw[e];cases i with
  | zero =>
   rw[Nat.zero_mul,Nat.zero_add,List.getElem?_append_left (by simpa using hk),List.getElem?_map,List.getElem?_eq_getElem hk,List.getD_eq_getElem?_getD (l:=CG),List.getElem?_eq_getElem hk];rfl
  | succ j =>
   rw[List.getElem?_append_right (by rw[List.length_map,Nat.succ_mul];omega),List.length_map];have:=ih (i:=j) (k:=k) (by simpa using hi) hk;rw[show(j+1)*CG.length+k-CG.length=j*CG.length+k from by rw[Nat.succ_mul];omega,this];rfl
theorem RowC.get {V:List PL}{A Tb:List Nat}{P p c:Nat}(h:RowC V A (Tb.take P))(hp:p<P)(hTb:Tb[p]?=some c):∃x,A[p]?=some x/\x<V.length/\(za0 V).getD x 0=c:=by
 have h1:(Tb.take P)[p]?=some c:=by rw[List.getElem?_take,if_pos hp];exact hTb
 rw[←h.2]at h1;unfold za1 at h1;rw[List.getElem?_map]at h1;cases hA:A[p]? with
 | none=>rw[hA]at h1;cases h1
 | some x =>
  rw[hA]at h1;exact⟨x,rfl,h.1 x (List.mem_of_getElem? hA),Option.some.inj h1⟩
theorem zf8 {Tb:List Nat}{p c:Nat}(h:Tb[p]?=some c):Tb.take p ++ [c]=Tb.take (p+1):=by
 obtain⟨hl,e⟩:=List.getElem?_eq_some_iff.1 h
 rw[List.take_succ_eq_append_getElem hl,e]
theorem FormRes.is {V:List PL}{BV:List Nat}{r:Nat}{ok:Bool}{FN:List PL}(h:PoolOK V BV)(hr:r<V.length)(hres:FormRes V BV r ok FN):ok=zam (zd3 V BV r)/\FN=if ok then zd3 V BV r else []:=by
 rcases hres with ⟨e1,e2,Q,hnd,hm,hl⟩|⟨Q,GN,O,_,e1,e2⟩
 ·obtain⟨Q0,O⟩:=zmx h hr
  have hlen:(zd3 V BV r).length=Q0.length:=by rw[O.nodes];simp
  have hle:Q.length≤Q0.length:=hnd.length_le_of_subset fun x hx=>(O.mem x).2 ((hm x).1 hx)
  have hf:zam (zd3 V BV r)=false:=decide_eq_false fun q=>by have:=q.1;omega
  rw[hf];exact⟨e1,by rw[e2,e1];rfl⟩
 ·have e:GN=zd3 V BV r:=FormC.one ⟨_,znr h.book h.births hr O⟩ (h.form hr)
  rw[←e];exact⟨e1,e2⟩
theorem zcg {Fs:List PL}(h:zbf (i2 Fs)):0<Fs.length/\Fs.length≤120/\(∀y∈Fs,y.1.length≤24/\y.2.length≤24)/\PoolOK Fs (zb9 Fs)/\addB [] [] Fs=(Fs,zb9 Fs,List.range Fs.length)/\zfa [] [] Fs=Fs.length-1:=by
 obtain⟨h1,ho,hu,hk,hr⟩:=(zi1 Fs).1 h;have hn:=zie ho hk;have hf:=h1;unfold zam at hf;rw[decide_eq_true_eq]at hf;have ha:=zri Fs ho hu hn;refine⟨by omega,hf.1,hf.2.2,zhg ho hu hn,ha,?_⟩;unfold zfa;rw[ha];show(List.range Fs.length).getD (Fs.length-1) 0=_
 rw[zib,if_pos (by omega)]
theorem zf4 {Fi:List (List Int × List Int)}(h:zbf Fi):∃Fs,Fi=i2 Fs:=by
 obtain⟨Fs,e,_⟩:=zkh h.2.1;exact⟨Fs,e⟩
def thrI:Option Nat→Int
 | some z=>(z:Int)
 | none=>-1
end Go.Proofs.YtghekfmfonoocaaGreatDoor
