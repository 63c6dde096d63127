import Derived.Test.YtlapkmhemepcaaaGreatDoorZmb
/- Lemmas. -/
namespace Go.Proofs.YtlapkmhemepcaaaGreatDoor
set_option linter.unusedVariables false
set_option linter.unusedSimpArgs false
open Go.RowKit
theorem zz7 (L:List Nat)(n:Nat)(h:∀x∈L,x<n):posN L n=L.length :=
 zpz L n L.length (Nat.le_refl _) (fun j x _ hx=>h x (List.mem_of_getElem? hx)) (fun x hx=>by simp at hx)
theorem zsb (L:List Nat)(n:Nat)(h:∀x∈L,x<n):putN L n=L ++ [n]:=by
 unfold putN;rw[zz7 L n h,if_neg (by simp)];simp
theorem zs4 (L:List Nat)(h:L.Pairwise (· < ·)):za8 L=L:=by
 suffices hs:∀(L A:List Nat),(A++L).Pairwise (· < ·)→L.foldl putN A=A++L by simpa [za8] using hs L [] (by simpa using h)
 intro L;induction L with
 | nil=>intro A _;simp
 | cons x l ih =>
  intro A h;have hx:∀y∈A,y<x:=fun y hy=>(List.pairwise_append.1 h).2.2 y hy x List.mem_cons_self
  rw[List.foldl_cons,zsb A x hx,ih _ (by simpa using h)];simp
theorem yat (A L:List Nat)(h:∀x∈L,A.getD x 0=x):za1 A L=L:=by
 unfold za1;exact(List.map_congr_left h).trans (List.map_id' L)
theorem rget (n k:Nat):(List.range n)[k]?=if k<n then some k else none:=by
 split
 ·exact List.getElem?_range (by assumption)
 ·exact List.getElem?_eq_none (by simp;omega)
theorem zhx (n k d:Nat):(List.range n).getD k d=if k<n then k else d:=by
 rw[List.getD_eq_getElem?_getD,rget];split <;> rfl
theorem ztm (BL:List Nat)(m:Nat)(L:List Nat):m≤za9 BL m L/\∀x∈L,BL.getD x 0+1≤za9 BL m L:=by
 unfold za9;induction L generalizing m with
 | nil=>exact⟨Nat.le_refl _,by simp⟩
 | cons y l ih =>
  rw[List.foldl_cons];obtain⟨h1,h2⟩:=ih (max m (BL.getD y 0+1));refine⟨by omega,fun x hx=>?_⟩;rcases List.mem_cons.1 hx with rfl|hx
  ·omega
  ·exact h2 x hx
def i2 (Fs:List PL):List (List Int × List Int):=Fs.map fun y=>(ints y.1,ints y.2)
theorem zfy (Fs:List PL):(i2 Fs).length=Fs.length:=by simp[i2]
theorem yb5 {Fs:List PL}{k:Nat}{y:List Int × List Int}(h:(i2 Fs)[k]?=some y):∃x,Fs[k]?=some x/\y=(ints x.1,ints x.2):=by
 unfold i2 at h;rw[List.getElem?_map]at h;cases hq:Fs[k]? with
 | none=>rw[hq]at h;cases h
 | some x=>rw[hq]at h;cases h;exact⟨x,rfl,rfl⟩
theorem zt8 {Fs G:List PL}(h:i2 Fs=i2 G):Fs=G:=by
 have hl:Fs.length=G.length:=by have:=congrArg List.length h;simpa [i2] using this
 refine List.ext_getElem hl fun k h1 h2=>?_
 have e:(i2 Fs)[k]?=(i2 G)[k]?:=by rw[h]
 unfold i2 at e;rw[List.getElem?_map,List.getElem?_map,List.getElem?_eq_getElem h1,List.getElem?_eq_getElem h2]at e;have e:=Option.some.inj e;have e1:=zo0 (congrArg Prod.fst e);have e2:=zo0 (congrArg Prod.snd e);exact Prod.ext e1 e2
theorem yb2 (hi:Nat)(L:List Nat):∀(p:Option Int),L.Pairwise (· < ·)→(∀x∈L,x<hi)→(∀y,p=some y→∀x∈L,y<(x:Int))→zah 0 ((hi:Int)-1) p (ints L)=true:=by
 induction L with
 | nil=>intro p _ _ _;cases p <;> rfl
 | cons x l ih =>
  intro p hL hb hp;have hx:=hb x List.mem_cons_self;have h1:betw (Int.ofNat x) 0 ((hi:Int)-1)=true:=by unfold betw;simp;omega
  have h2:=ih (some (Int.ofNat x)) (List.pairwise_cons.1 hL).2 (fun y hy=>hb y (List.mem_cons_of_mem _ hy)) (fun y e z hz=>by
   cases e
   have:=(List.pairwise_cons.1 hL).1 z hz;show((x:Nat):Int)<(z:Int)
   omega)
  cases p with
  | none =>
   show(betw (Int.ofNat x) 0 ((hi:Int)-1) && zah 0 ((hi:Int)-1) (some (Int.ofNat x)) (ints l))=true
   rw[h1,h2];rfl
  | some y =>
   have h3:=hp y rfl x List.mem_cons_self;show(betw (Int.ofNat x) 0 ((hi:Int)-1) && (decide (y<Int.ofNat x) && zah 0 ((hi:Int)-1) (some (Int.ofNat x)) (ints l)))=true
   rw[h1,h2,decide_eq_true (show y<Int.ofNat x from h3)];rfl
theorem zsa (hi:Nat)(L:List Int):∀(p:Option Int),zah 0 ((hi:Int)-1) p L=true→∃L':List Nat,L=ints L'∧L'.Pairwise (· < ·)/\(∀x∈L',x<hi)/\∀y,p=some y→∀x∈L',y<(x:Int):=by
 induction L with
 | nil=>intro p _;exact⟨[],rfl,List.Pairwise.nil,by simp,by simp⟩
 | cons x l ih =>
  intro p h;have h0:betw x 0 ((hi:Int)-1)=true/\(∀y,p=some y→y<x)/\zah 0 ((hi:Int)-1) (some x) l=true:=by
   cases p with
   | none =>
    have h:(betw x 0 ((hi:Int)-1) && zah 0 ((hi:Int)-1) (some x) l)=true:=h;rw[Bool.and_eq_true]at h;exact⟨h.1,by simp,h.2⟩
   | some y =>
    have h:(betw x 0 ((hi:Int)-1) && (decide (y<x) && zah 0 ((hi:Int)-1) (some x) l))=true:=h;rw[Bool.and_eq_true,Bool.and_eq_true]at h;exact⟨h.1,fun z e=>by cases e;exact of_decide_eq_true h.2.1,h.2.2⟩
  obtain⟨h1,h2,h3⟩:=h0;obtain⟨L',e,u,b,q⟩:=ih (some x) h3;have h1:0≤x/\x≤(hi:Int)-1:=of_decide_eq_true h1;refine⟨x.toNat::L',?_,List.pairwise_cons.2 ⟨fun z hz=>?_,u⟩,fun z hz=>?_,fun y hy z hz=>?_⟩
  ·rw[e]
   show x::ints L'=Int.ofNat x.toNat::ints L'
   rw[show Int.ofNat x.toNat=x from Int.toNat_of_nonneg h1.1]
  ·have:=q x rfl z hz;omega
  ·rcases List.mem_cons.1 hz with rfl|hz
   ·omega
   ·exact b z hz
  ·have h4:=h2 y hy
   rcases List.mem_cons.1 hz with rfl|hz
   ·omega
   ·have:=q x rfl z hz;omega
def risI (Fs:List (List Int × List Int))(k:Nat):Prop:=∀(j:Nat) (y:List Int × List Int),j<k→Fs[j]?=some y→zah 0 ((j:Int)-1) none y.1=true/\zah 0 ((j:Int)-1) none y.2=true
def zfh (Fs:List (List Int × List Int)):Prop:=zdh Fs=true/\risI Fs Fs.length/\∀Fs':List PL,Fs=i2 Fs'→zgi (addB [] [] Fs').1 (addB [] [] Fs').2.1 (zh7 [] [] Fs')=Fs'
theorem ziv {Fs:List (List Int × List Int)}(h:risI Fs Fs.length):∃Fs':List PL,Fs=i2 Fs'∧(∀(j:Nat) (y:PL),Fs'[j]?=some y→(∀i∈y.1,i<j)/\∀i∈y.2,i<j)/\∀(j:Nat) (y:PL),Fs'[j]?=some y→y.1.Pairwise (· < ·)/\y.2.Pairwise (· < ·):=by
 have key:∀(j:Nat) (y:List Int × List Int),Fs[j]?=some y→∃x:PL,y=(ints x.1,ints x.2)/\((∀i∈x.1,i<j)/\∀i∈x.2,i<j)/\x.1.Pairwise (· < ·)/\x.2.Pairwise (· < ·):=fun j y hy=>by
  obtain⟨h1,h2⟩:=h j y (List.getElem?_eq_some_iff.1 hy).1 hy;obtain⟨L1,e1,u1,b1,_⟩:=zsa j y.1 none h1;obtain⟨L2,e2,u2,b2,_⟩:=zsa j y.2 none h2;exact⟨(L1,L2),Prod.ext e1 e2,⟨b1,b2⟩,u1,u2⟩
 let f:List Int × List Int→PL:=fun y=>(y.1.map Int.toNat,y.2.map Int.toNat)
 have hf:∀x:PL,f (ints x.1,ints x.2)=x:=fun x=>by
  have e:∀L:List Nat,(ints L).map Int.toNat=L:=fun L=>by unfold ints;rw[List.map_map];exact(List.map_congr_left fun a _=>rfl).trans (List.map_id' L)
  exact Prod.ext (e _) (e _)
 have hg:∀(j:Nat) (y:PL),(Fs.map f)[j]?=some y→∃z,Fs[j]?=some z/\z=(ints y.1,ints y.2)/\((∀i∈y.1,i<j)/\∀i∈y.2,i<j)/\y.1.Pairwise (· < ·)/\y.2.Pairwise (· < ·):=fun j y hy=>by
  rw[List.getElem?_map]at hy;cases hq:Fs[j]? with
  | none=>rw[hq]at hy;cases hy
  | some z =>
   rw[hq]at hy;obtain⟨x,e,hx⟩:=key j z hq;have hy:=Option.some.inj hy;rw[e,hf]at hy;subst hy;exact⟨z,rfl,e,hx⟩
 refine⟨Fs.map f,?_,fun j y hy=>?_,fun j y hy=>?_⟩
 ·unfold i2
  rw[List.map_map];refine((List.map_congr_left fun z hz=>?_).trans (List.map_id' Fs)).symm;obtain⟨j,hj,rfl⟩:=List.getElem_of_mem hz;obtain⟨x,e,_⟩:=key j _ (List.getElem?_eq_getElem hj);show(ints (f Fs[j]).1,ints (f Fs[j]).2)=Fs[j]
  rw[e,hf]
 ·obtain⟨_,_,_,h,_⟩:=hg j y hy;exact h
 ·obtain⟨_,_,_,_,h⟩:=hg j y hy;exact h
theorem zo4 (Fs:List PL):zdh (i2 Fs)=zdh Fs:=by
 unfold zdh i2;rw[List.length_map];congr 1
 refine propext ⟨fun⟨h1,h2,h3⟩=>⟨h1,h2,fun y hy=>?_⟩,fun⟨h1,h2,h3⟩=>⟨h1,h2,fun y hy=>?_⟩⟩
 ·have:=h3 _ (List.mem_map.2 ⟨y,hy,rfl⟩);simpa [ints] using this
 ·obtain⟨x,hx,rfl⟩:=List.mem_map.1 hy
  simpa [ints] using h3 x hx
theorem zke {L:List Nat}{n:Nat}(hu:L.Pairwise (· < ·))(h:∀x∈L,x<n):L.length≤n:=by
 have hd:L.Nodup:=hu.imp fun hlt e=>by omega
 have:=hd.length_le_of_subset (l₂:=List.range n) (fun x hx=>List.mem_range.2 (h x hx));simpa using this
def BookUp (NL:List PL):Prop:=∀(j:Nat) (y:PL),NL[j]?=some y→y.1.Pairwise (· < ·)/\y.2.Pairwise (· < ·)
theorem BookUp.nil:BookUp []:=by intro j y h;simp at h
theorem BookUp.lens {NL:List PL}{BL:List Nat}(h:BookUp NL)(hOK:BookOK NL BL):∀y∈NL,y.1.length≤NL.length/\y.2.length≤NL.length:=by
 intro y hy;obtain⟨j,hj,rfl⟩:=List.getElem_of_mem hy;have e:=List.getElem?_eq_getElem hj
 obtain⟨o1,o2⟩:=hOK.opts j _ e;obtain⟨u1,u2⟩:=h j _ e;have:=zke u1 o1;have:=zke u2 o2;omega
theorem ybi {NL:List PL}{BL:List Nat}(h:BookUp NL)(L R:List Nat):BookUp (putB NL BL L R).1:=by
 unfold putB;simp only;split
 ·exact h
 ·intro j y hy
  by_cases hj:j<NL.length
  ·rw[List.getElem?_append_left hj]at hy;exact h j y hy
  ·rw[List.getElem?_append_right (by omega)]at hy
   cases hd:j-NL.length with
   | zero=>rw[hd]at hy;simp at hy;subst hy;exact⟨zdn L,zdn R⟩
   | succ d=>rw[hd]at hy;simp at hy
theorem ycy {NL:List PL}{BL:List Nat}(h:BookUp NL)(FL:List PL):BookUp (addB NL BL FL).1:=by
 suffices hs:∀n,n≤FL.length→BookUp (addB NL BL (FL.take n)).1 by
  have:=hs FL.length (Nat.le_refl _);rwa [List.take_length]at this
 intro n;induction n with
 | zero=>intro _;exact h
 | succ n ih =>
  intro hn;rw[List.take_succ_eq_append_getElem (by omega),ze7];exact ybi (ih (by omega)) _ _
theorem BookOK.nil:BookOK [] []:=⟨rfl,by simp,by simp⟩
structure GoodF (Fm:List PL):Prop where
 pos:0<Fm.length
 le:Fm.length≤120
 opts:∀(j:Nat) (y:PL),Fm[j]?=some y→(∀x∈y.1,x<j)/\∀x∈y.2,x<j
 lens:∀y∈Fm,y.1.length<1000/\y.2.length<1000
structure PoolOK (V:List PL) (BV:List Nat):Prop where
 len:BV.length=V.length
 opts:∀(j:Nat) (y:PL),V[j]?=some y→(∀i∈y.1,i<j)/\∀i∈y.2,i<j
 up:∀(j:Nat) (y:PL),V[j]?=some y→y.1.Pairwise (· < ·)/\y.2.Pairwise (· < ·)
 nodup:V.Nodup
 born:∀(j:Nat) (y:PL),V[j]?=some y→BV.getD j 0=za9 BV (za9 BV 0 y.1) y.2
theorem PoolOK.nil:PoolOK [] []:=⟨rfl,by simp,by simp,by simp,by simp⟩
theorem zbi (BV t:List Nat)(m:Nat)(L:List Nat)(h:∀x∈L,x<BV.length):za9 (BV++t) m L=za9 BV m L:=by
 unfold za9;induction L generalizing m with
 | nil=>rfl
 | cons x l ih =>
  have hx:=h x List.mem_cons_self;have e:(BV++t).getD x 0=BV.getD x 0:=by rw[List.getD_eq_getElem?_getD,List.getD_eq_getElem?_getD,List.getElem?_append_left hx]
  rw[List.foldl_cons,List.foldl_cons,e,ih _ (fun y hy=>h y (List.mem_cons_of_mem _ hy))]
theorem zf9 {α:Type}{V:List α}{x y:α}{j:Nat}(h:(V ++ [x])[j]?=some y):(j<V.length/\V[j]?=some y)∨(j=V.length/\y=x):=by
 by_cases hj:j<V.length
 ·rw[List.getElem?_append_left hj]at h;exact .inl ⟨hj,h⟩
 ·have hl:=(List.getElem?_eq_some_iff.1 h).1
  have hje:j=V.length:=by simp at hl;omega
  subst hje;exact .inr ⟨rfl,by simpa using h.symm⟩
theorem zhz {V:List PL}{BV:List Nat}(h:PoolOK V BV){L R:List Nat}(hL:∀x∈L,x<V.length)(hR:∀x∈R,x<V.length) :
  PoolOK (za3 V BV L R).1 (za3 V BV L R).2.1/\(za3 V BV L R).1[(za3 V BV L R).2.2]?=some (za8 L,za8 R):=by
 unfold za3;split
 ·rename_i hm
  refine⟨h,?_⟩;have hi:=List.idxOf_lt_length_of_mem hm;show V[V.idxOf (za8 L,za8 R)]?=_
  rw[List.getElem?_eq_getElem hi,List.getElem_idxOf]
 ·rename_i hm
  have h1:∀x∈za8 L,x<V.length:=fun x hx=>hL x ((zav L x).1 hx)
  have h2:∀x∈za8 R,x<V.length:=fun x hx=>hR x ((zav R x).1 hx)
  refine⟨⟨by simp[h.len],fun j y hy=>?_,fun j y hy=>?_,?_,fun j y hy=>?_⟩,by simp⟩
  ·rcases zf9 hy with ⟨_,hy⟩|⟨rfl,rfl⟩
   ·exact h.opts j y hy
   ·exact⟨h1,h2⟩
  ·rcases zf9 hy with ⟨_,hy⟩|⟨rfl,rfl⟩
   ·exact h.up j y hy
   ·exact⟨zdn L,zdn R⟩
  ·rw[List.nodup_append]
   refine⟨h.nodup,by simp,fun a ha b hb e=>?_⟩;rw[List.mem_singleton]at hb;subst e;subst hb;exact hm ha
  ·rcases zf9 hy with ⟨hj,hy⟩|⟨rfl,rfl⟩
   ·obtain⟨o1,o2⟩:=h.opts j y hy
    rw[zbi _ _ _ _ (fun x hx=>by have:=o2 x hx;rw[h.len];omega),zbi _ _ _ _ (fun x hx=>by have:=o1 x hx;rw[h.len];omega),←h.born j y hy,
     List.getD_eq_getElem?_getD,List.getD_eq_getElem?_getD,List.getElem?_append_left (by rw[h.len];exact hj)]
   ·rw[zbi _ _ _ _ (fun x hx=>by rw[h.len];exact h2 x hx),zbi _ _ _ _ (fun x hx=>by rw[h.len];exact h1 x hx),←h.len]
    simp[List.getD_eq_getElem?_getD]
theorem za6 {V:List PL}{x:Nat}(h:x<V.length):V[x]?=some (za5 V x):=by
 unfold za5;rw[List.getD_eq_getElem?_getD,List.getElem?_eq_getElem h];rfl
theorem PoolOK.reach {V:List PL}{BV R:List Nat}(h:PoolOK V BV)(hR:∀r∈R,r<V.length){x:Nat}(hx:ReachV V R x):x<V.length:=by
 induction hx with
 | root hr=>exact hR _ hr
 | @left x y _ hy ih=>have:=(h.opts x _ (za6 ih)).1 y hy;omega
 | @right x y _ hy ih=>have:=(h.opts x _ (za6 ih)).2 y hy;omega
theorem PoolOK.lower {V:List PL}{BV:List Nat}(h:PoolOK V BV){x:Nat}(hx:x<V.length):(∀y∈(za5 V x).1,BV.getD y 0<BV.getD x 0)/\∀y∈(za5 V x).2,BV.getD y 0<BV.getD x 0:=by
 rw[h.born x _ (za6 hx)];obtain⟨a1,a2⟩:=ztm BV 0 (za5 V x).1;obtain⟨b1,b2⟩:=ztm BV (za9 BV 0 (za5 V x).1) (za5 V x).2;exact⟨fun y hy=>by have:=a2 y hy;omega,fun y hy=>by have:=b2 y hy;omega⟩
theorem PoolOK.qok {V:List PL}{BV R Q:List Nat}(h:PoolOK V BV)(hR:∀r∈R,r<V.length)(hn:Q.Nodup)(hm:∀x,x∈Q↔ReachV V R x)(hs:Q.Pairwise fun a b=>BV.getD a 0≤BV.getD b 0):QOk V BV Q:=by
 have hl:∀x∈Q,x<V.length:=fun x hx=>h.reach hR ((hm x).1 hx)
 refine⟨hn,hs,fun x hx y hy=>⟨(hm y).2 (.left ((hm x).1 hx) hy),(h.lower (hl x hx)).1 y hy⟩,fun x hx y hy=>⟨(hm y).2 (.right ((hm x).1 hx) hy),(h.lower (hl x hx)).2 y hy⟩,fun x hx=>h.up x _ (za6 (hl x hx)),fun x hx y hy e=>?_⟩;have e1:=za6 (hl x hx);have e2:=za6 (hl y hy);rw[e]at e1;exact(List.getElem?_inj (hl x hx) h.nodup).1 (e1.trans e2.symm)
theorem PoolOK.lens {V:List PL}{BV:List Nat}(h:PoolOK V BV){n:Nat}(hn:V.length<n):∀y∈V,y.1.length<n/\y.2.length<n:=by
 intro y hy;obtain⟨j,hj,rfl⟩:=List.getElem_of_mem hy;have e:=List.getElem?_eq_getElem hj
 obtain⟨o1,o2⟩:=h.opts j _ e;obtain⟨u1,u2⟩:=h.up j _ e;have:=zke u1 o1;have:=zke u2 o2;omega
theorem zs6 (m:List Bool)(y x:Nat):(m.set y true).getD x false=true↔m.getD x false=true∨x=y/\x<m.length:=by
 rw[List.getD_eq_getElem?_getD,List.getD_eq_getElem?_getD,List.getElem?_set];by_cases e:y=x
 ·subst e
  by_cases h:y<m.length
  ·simp[h]
  ·simp[h]
 ·rw[if_neg e]
  constructor
  ·exact .inl
  ·rintro(h|⟨h,_⟩)
   ·exact h
   ·exact absurd h.symm e
theorem zsx (m:List Bool)(L:List Nat)(x:Nat):(zbe m L).getD x false=true↔m.getD x false=true∨x∈L/\x<m.length:=by
 unfold zbe;induction L generalizing m with
 | nil=>simp
 | cons y l ih =>
  rw[List.foldl_cons,ih,zs6,List.length_set,List.mem_cons];constructor
  ·rintro((h|h)|h)
   ·exact .inl h
   ·exact .inr ⟨.inl h.1,h.2⟩
   ·exact .inr ⟨.inr h.1,h.2⟩
  ·rintro(h|⟨h|h,h2⟩)
   ·exact .inl (.inl h)
   ·exact .inl (.inr ⟨h,h2⟩)
   ·exact .inr ⟨h,h2⟩
theorem zdq (V:List PL)(m:List Bool)(k x:Nat):(zcm V m k).getD x false=true↔m.getD x false=true∨m.getD k false=true/\(x∈(za5 V k).1∨x∈(za5 V k).2)/\x<m.length:=by
 unfold zcm za5;split
 ·rename_i h
  rw[zsx,zsx,zax];constructor
  ·rintro((h1|h1)|h1)
   ·exact .inl h1
   ·exact .inr ⟨h,.inl h1.1,h1.2⟩
   ·exact .inr ⟨h,.inr h1.1,h1.2⟩
  ·rintro(h1|⟨_,h1|h1,h2⟩)
   ·exact .inl (.inl h1)
   ·exact .inl (.inr ⟨h1,h2⟩)
   ·exact .inr ⟨h1,h2⟩
 ·rename_i h
  constructor
  ·exact .inl
  ·rintro(h1|h1)
   ·exact h1
   ·exact absurd h1.1 h
theorem zoh {V:List PL}{BV:List Nat}(h:PoolOK V BV){r:Nat}(hr:r<V.length)(n:Nat):∀(m:List Bool),n≤r+1→m.length=r+1→(∀x,m.getD x false=true→ReachV V [r] x)→m.getD r false=true →
  (∀x,n≤x→m.getD x false=true→∀y,y∈(za5 V x).1∨y∈(za5 V x).2→m.getD y false=true)→∀x,(zbu V n m).getD x false=true↔ReachV V [r] x:=by
 induction n with
 | zero =>
  intro m _ _ h1 h2 h3 x;refine⟨h1 x,fun hx=>?_⟩;induction hx with
  | root hx=>rw[List.mem_singleton]at hx;subst hx;exact h2
  | left _ hy ih=>exact h3 _ (Nat.zero_le _) ih _ (.inl hy)
  | right _ hy ih=>exact h3 _ (Nat.zero_le _) ih _ (.inr hy)
 | succ n ih =>
  intro m hn hl h1 h2 h3 x;unfold zbu;have hlow:∀(k y:Nat),k<V.length→(y∈(za5 V k).1∨y∈(za5 V k).2)→y<k:=fun k y hk hy=>by
   obtain⟨o1,o2⟩:=h.opts k _ (za6 hk);rcases hy with hy|hy
   ·exact o1 y hy
   ·exact o2 y hy
  refine ih _ (by omega) (by rw[zfc];exact hl) (fun y hy=>?_) ((zdq V m n r).2 (.inl h2)) (fun k hk hm y hy=>?_) x
  ·rcases (zdq V m n y).1 hy with hy|⟨hn1,hy,_⟩
   ·exact h1 y hy
   ·rcases hy with hy|hy
    ·exact .left (h1 n hn1) hy
    ·exact .right (h1 n hn1) hy
  ·have hmk:m.getD k false=true:=by
    rcases (zdq V m n k).1 hm with hm|⟨_,hm,_⟩
    ·exact hm
    ·have:=hlow n k (by omega) hm;omega
   have hkl:k<r+1:=by
    rcases Nat.lt_or_ge k (r+1)with q|q
    ·exact q
    ·rw[List.getD_eq_getElem?_getD,List.getElem?_eq_none (by omega)]at hmk;cases hmk
   rw[zdq];by_cases e:k=n
   ·subst e
    exact .inr ⟨hmk,hy,by have:=hlow k y (by omega) hy;omega⟩
   ·exact .inl (h3 k (by omega) hmk y hy)
theorem zkq {V:List PL}{BV:List Nat}(h:PoolOK V BV){r:Nat}(hr:r<V.length)(x:Nat):(zag V r).getD x false=true↔ReachV V [r] x:=by
 have h0:∀y,((List.replicate (r+1) false).set r true).getD y false=true↔y=r:=fun y=>by
  rw[zs6];constructor
  ·rintro(q|q)
   ·rw[List.getD_eq_getElem?_getD,List.getElem?_replicate]at q
    split at q <;> cases q
   ·exact q.1
  ·rintro rfl
   exact .inr ⟨rfl,by simp⟩
 refine zoh h hr (r+1) _ (Nat.le_refl _) (by simp) (fun y hy=>?_) ((h0 r).2 rfl) (fun k hk hm=>?_) x
 ·rw[(h0 y).1 hy];exact .root (by simp)
 ·have:=(h0 k).1 hm;omega
def grp (BV:List Nat)(need:List Bool)(n b:Nat):List Nat:=(List.range n).filter fun k=>decide (need.getD k false=true/\BV.getD k 0=b)
theorem ya2 (BV:List Nat)(need:List Bool)(n b:Nat):grp BV need (n+1) b=if need.getD n false=true/\BV.getD n 0=b then grp BV need n b ++ [n]else grp BV need n b:=by
 unfold grp;rw[List.range_succ,List.filter_append];split <;> simp_all
theorem ze1 {BV:List Nat}{need:List Bool}{n b x:Nat}:x∈grp BV need n b↔x<n/\need.getD x false=true/\BV.getD x 0=b:=by
 unfold grp;rw[List.mem_filter,List.mem_range,decide_eq_true_eq]
theorem zp0 (BV:List Nat)(need:List Bool)(n b:Nat):(grp BV need n b).Nodup:=List.nodup_range.filter _
theorem yce (key:Nat→PL)(K:List Nat)(k:Nat):insF (K.map key,K) (key k) k=((K.takeWhile (fun b=>zam (key b) (key k))++k::K.dropWhile (fun b=>zam (key b) (key k))).map key,K.takeWhile (fun b=>zam (key b) (key k))++k::K.dropWhile (fun b=>zam (key b) (key k))):=by
 have hp:posA (K.map key) (key k)=(K.takeWhile (fun b=>zam (key b) (key k))).length:=by
  unfold posA;rw[List.takeWhile_map,List.length_map];rfl
 have ht:K.take (posA (K.map key) (key k))=K.takeWhile (fun b=>zam (key b) (key k)):=by
  rw[hp];exact(List.prefix_iff_eq_take.1 (List.takeWhile_prefix _)).symm
 have hd:K.drop (posA (K.map key) (key k))=K.dropWhile (fun b=>zam (key b) (key k)):=by
  rw[hp];exact(congrArg (List.drop _) (List.takeWhile_append_dropWhile (p:=fun b=>zam (key b) (key k)) (l:=K)).symm).trans List.drop_left
 unfold insF;simp only[←List.map_take,←List.map_drop,ht,hd,List.map_append,List.map_cons]
theorem zuq (key:Nat→PL)(K:List Nat)(k:Nat)(h:K.Pairwise fun a b=>zam (key b) (key a)=false) :
  (K.takeWhile (fun b=>zam (key b) (key k))++k::K.dropWhile (fun b=>zam (key b) (key k))).Pairwise fun a b=>zam (key b) (key a)=false:=by
 have hs:=h;rw[←List.takeWhile_append_dropWhile (p:=fun b=>zam (key b) (key k)) (l:=K),List.pairwise_append]at hs;obtain⟨s1,s2,s3⟩:=hs;have hd:∀b∈K.dropWhile (fun b=>zam (key b) (key k)),zam (key b) (key k)=false:=by
  intro b hb;cases hl:K.dropWhile (fun b=>zam (key b) (key k))with
  | nil=>rw[hl]at hb;cases hb
  | cons b0 l =>
   have h0:=List.head_dropWhile_not (fun b=>zam (key b) (key k)) (l:=K) (by rw[hl];simp);simp only[hl,List.head_cons]at h0;rw[hl]at hb s2;rcases List.mem_cons.1 hb with rfl|hb
   ·simpa using h0
   ·have h1:=(List.pairwise_cons.1 s2).1 b hb
    cases hc:zam (key b) (key k)with
    | false=>rfl
    | true =>
     exfalso
     have h0:zam (key b0) (key k)=false:=by simpa using h0
     cases hk:zam (key k) (key b0)with
     | true=>rw[ziq hc hk]at h1;cases h1
     | false =>
      have e:=zn7 h0 hk;rw[e]at h1;rw[hc]at h1;cases h1
 refine List.pairwise_append.2 ⟨s1,List.pairwise_cons.2 ⟨hd,s2⟩,fun a ha b hb=>?_⟩;have h1:zam (key a) (key k)=true:=by
  exact List.all_eq_true.1 (List.all_takeWhile (p:=fun b=>zam (key b) (key k)) (l:=K)) a ha
 rcases List.mem_cons.1 hb with rfl|hb
 ·exact zir h1
 ·exact s3 a ha b hb
theorem zz8 (V:List PL)(BV:List Nat)(need:List Bool)(A:List Nat)(b n:Nat):∃K:List Nat,zds V BV need A b n=(K.map (fun k=>keyF A (za5 V k)),K)/\K.Perm (grp BV need n b)/\K.Pairwise fun x y=>zam (keyF A (za5 V y)) (keyF A (za5 V x))=false:=by
 induction n with
 | zero=>exact⟨[],rfl,by simp[grp],by simp⟩
 | succ n ih =>
  obtain⟨K,h1,h2,h3⟩:=ih;rw[zet,h1,ya2];unfold zf4;split
  ·refine⟨_,yce (fun k=>keyF A (za5 V k)) K n,?_,zuq (fun k=>keyF A (za5 V k)) K n h3⟩
   refine List.perm_middle.trans ?_
   rw[List.takeWhile_append_dropWhile];exact(List.Perm.cons n h2).trans (List.perm_append_singleton n _).symm
  ·exact⟨K,rfl,h2,h3⟩
theorem yc8 (K:List Nat):∀(LL:List PL) (s:List Nat × List PL),LL.length=K.length→K.Nodup→(∀x∈K,x<s.1.length) →
  ((LL.zip K).foldl layF s).2=s.2++LL/\(∀x,x ∉ K→((LL.zip K).foldl layF s).1.getD x 0=s.1.getD x 0)/\∀x∈K,((LL.zip K).foldl layF s).1.getD x 0=s.2.length+K.idxOf x:=by
 induction K with
 | nil =>
  intro LL s hl _ _;cases LL with
  | nil=>exact⟨by simp,fun _ _=>rfl,by simp⟩
  | cons y l=>simp at hl
 | cons k K ih =>
  intro LL s hl hn hlt;cases LL with
  | nil=>simp at hl
  | cons y l =>
   rw[List.nodup_cons]at hn;rw[List.zip_cons_cons,List.foldl_cons];obtain⟨i1,i2,i3⟩:=ih l (layF s (y,k)) (by simpa using hl) hn.2 (fun x hx=>by
    unfold layF;rw[List.length_set];exact hlt x (List.mem_cons_of_mem _ hx))
   have hk:=hlt k List.mem_cons_self;have hg:∀x,(layF s (y,k)).1.getD x 0=if x=k then s.2.length else s.1.getD x 0:=fun x=>by
    unfold layF;rw[List.getD_eq_getElem?_getD,List.getElem?_set];by_cases e:k=x
    ·subst e;simp[hk]
    ·rw[if_neg e,if_neg (fun q=>e q.symm),List.getD_eq_getElem?_getD]
   refine⟨by rw[i1];unfold layF;simp,fun x hx=>?_,fun x hx=>?_⟩
   ·rw[List.mem_cons,not_or]at hx
    rw[i2 x hx.2,hg,if_neg hx.1]
   ·by_cases e:x=k
    ·subst e
     rw[i2 x hn.1,hg,if_pos rfl];simp
    ·have hxK:=(List.mem_cons.1 hx).resolve_left e
     rw[i3 x hxK,List.idxOf_cons,show(k == x)=false from by simpa using fun q:k=x=>e q.symm];unfold layF;simp only[List.length_append,List.length_cons,List.length_nil,Bool.cond_false];omega
def grps (BV:List Nat)(need:List Bool)(r n:Nat):List Nat:=(List.range n).flatMap fun b=>grp BV need (r+1) b
theorem zhn (BV:List Nat)(need:List Bool)(r n:Nat):grps BV need r (n+1)=grps BV need r n++grp BV need (r+1) n:=by simp[grps,List.range_succ]
theorem ziz {BV:List Nat}{need:List Bool}{r n x:Nat}:x∈grps BV need r n↔x<r+1/\need.getD x false=true/\BV.getD x 0<n:=by
 unfold grps;rw[List.mem_flatMap];constructor
 ·rintro⟨b,hb,hx⟩
  obtain⟨h1,h2,h3⟩:=ze1.1 hx;exact⟨h1,h2,by rw[h3];exact List.mem_range.1 hb⟩
 ·rintro⟨h1,h2,h3⟩
  exact⟨_,List.mem_range.2 h3,ze1.2 ⟨h1,h2,rfl⟩⟩
theorem zrk (BV:List Nat)(need:List Bool)(r n:Nat):(grps BV need r n).Nodup/\(grps BV need r n).Pairwise fun a b=>BV.getD a 0≤BV.getD b 0:=by
 induction n with
 | zero=>simp[grps]
 | succ n ih =>
  rw[zhn];constructor
  ·rw[List.nodup_append]
   refine⟨ih.1,zp0 _ _ _ _,fun a ha b hb e=>?_⟩;subst e;have:=(ziz.1 ha).2.2;have:=(ze1.1 hb).2.2;omega
  ·refine List.pairwise_append.2 ⟨ih.2,List.pairwise_of_forall_mem_list fun a ha b hb=>?_,fun a ha b hb=>?_⟩
   ·rw[(ze1.1 ha).2.2,(ze1.1 hb).2.2];exact Nat.le_refl _
   ·have:=(ziz.1 ha).2.2
    have:=(ze1.1 hb).2.2;omega
theorem zrm (BV:List Nat) (need:List Bool) (r:Nat) {n N:Nat} (h:n≤N):grps BV need r n <+: grps BV need r N:=by
  induction N with
  | zero => have : n = 0 := by omega
            subst this;exact List.prefix_refl _
  | succ N ih =>
    rcases Nat.lt_or_ge N n with q | q
    · have : n = N + 1 := by omega
      subst this;exact List.prefix_refl _
    · rw [zhn];exact (ih q).trans (List.prefix_append _ _)
theorem zrn {V:List PL}{BV:List Nat}(h:PoolOK V BV){r:Nat}(hr:r<V.length):∃Q,OrderIs V BV [r] Q (zgi V BV r):=by
 obtain⟨need,hneed⟩:∃n,n=zag V r:=⟨_,rfl⟩;have hN:∀x,need.getD x false=true↔ReachV V [r] x:=fun x=>by rw[hneed];exact zkq h hr x
 have hle:∀x,ReachV V [r] x→x<r+1/\BV.getD x 0≤BV.getD r 0/\x<V.length:=by
  intro x hx;induction hx with
  | root hx=>rw[List.mem_singleton]at hx;subst hx;exact⟨Nat.lt_succ_self _,Nat.le_refl _,hr⟩
  | @left x y _ hy ih =>
   have h1:=(h.lower ih.2.2).1 y hy;have h2:=(h.opts x _ (za6 ih.2.2)).1 y hy;omega
  | @right x y _ hy ih =>
   have h1:=(h.lower ih.2.2).2 y hy;have h2:=(h.opts x _ (za6 ih.2.2)).2 y hy;omega
 obtain⟨N,hNN⟩:∃N,N=BV.getD r 0+1:=⟨_,rfl⟩;obtain⟨Q,hQ⟩:∃Q,Q=grps BV need r N:=⟨_,rfl⟩;have hQn:=zrk BV need r N;rw[←hQ]at hQn;have hQm:∀x,x∈Q↔ReachV V [r] x:=fun x=>by
  rw[hQ,ziz,hN];exact⟨fun q=>q.2.1,fun q=>⟨(hle x q).1,q,by have:=(hle x q).2.1;omega⟩⟩
 have q:QOk V BV Q:=h.qok (R:=[r]) (by simpa using hr) hQn.1 hQm hQn.2;have key:∀n,n≤N→∃A,GInv V BV Q A (grps BV need r n).length/\(zap V BV need r n).2=A.map (fun x=>zeg A (za5 V x))/\∀x∈A,(zap V BV need r n).1.getD x 0=A.idxOf x:=by
  intro n;induction n with
  | zero=>intro _;exact⟨[],GInv.start V BV Q,rfl,by simp⟩
  | succ n ih =>
   intro hn;obtain⟨A,hA,hF,hX⟩:=ih (by omega);have hpre:=zrm BV need r (n:=n+1) (N:=N) hn;rw[←hQ,zhn]at hpre;obtain⟨t,ht⟩:=hpre;have hdrop:Q.drop (grps BV need r n).length=grp BV need (r+1) n++t:=by rw[←ht,List.append_assoc,List.drop_left]
   obtain⟨K,hK,hKp,hKs⟩:=zz8 V BV need (zap V BV need r n).1 n (r+1);have hlen:=(zcs V BV need r n).1;have hKlt:∀x∈K,x<(zap V BV need r n).1.length:=fun x hx=>by
    rw[hlen];exact(ze1.1 ((hKp.mem_iff).1 hx)).1
   have hKn:K.Nodup:=(hKp.nodup_iff).2 (zp0 _ _ _ _);obtain⟨l1,l2,l3⟩:=yc8 K (K.map fun k=>keyF (zap V BV need r n).1 (za5 V k)) (zap V BV need r n) (by simp) hKn hKlt;have hstep:zap V BV need r (n+1)=((K.map fun k=>keyF (zap V BV need r n).1 (za5 V k)).zip K).foldl layF (zap V BV need r n):=by
    rw[zh0];unfold zy8;rw[hK]
   have hfl:(zap V BV need r n).2.length=A.length:=by rw[hF];simp
   rw[zhn,hstep];by_cases hm:grp BV need (r+1) n=[]
   ·have hK0:K=[]:=by rw[hm]at hKp;exact hKp.eq_nil
    subst hK0;rw[hm,List.append_nil];exact⟨A,hA,hF,hX⟩
   ·have hlt:(grps BV need r n).length<Q.length:=by
     rw[←ht];have:0<(grp BV need (r+1) n).length:=List.length_pos_iff.2 hm;simp only[List.length_append];omega
    have hQn0:BV.getD (Q.getD (grps BV need r n).length 0) 0=n:=by
     have e:Q.getD (grps BV need r n).length 0∈grp BV need (r+1) n:=by
      have e2:Q[(grps BV need r n).length]?=(grp BV need (r+1) n)[0]?:=by
       rw[←ht,List.append_assoc,List.getElem?_append_right (Nat.le_refl _),Nat.sub_self,List.getElem?_append_left (List.length_pos_iff.2 hm)]
      rw[List.getD_eq_getElem?_getD,e2,List.getElem?_eq_getElem (List.length_pos_iff.2 hm)];exact List.getElem_mem _
     exact(ze1.1 e).2.2
    have hgr:∀x∈grp BV need (r+1) n,x∈Q/\BV.getD x 0=BV.getD (Q.getD (grps BV need r n).length 0) 0:=fun x hx=>by
     obtain⟨g1,g2,g3⟩:=ze1.1 hx;exact⟨(hQm x).2 ((hN x).1 g2),by rw[hQn0,g3]⟩
    have hkey:∀x∈grp BV need (r+1) n,keyF (zap V BV need r n).1 (za5 V x)=zeg A (za5 V x):=fun x hx=>by
     obtain⟨g1,g2⟩:=q.group hA hlt (hgr x hx).1 (hgr x hx).2;have e:∀l:List Nat,(∀y∈l,y∈A)→za8 (za1 (zap V BV need r n).1 l)=zgs A l:=fun l hl=>by
      unfold zgs za1;rw[List.map_congr_left fun y hy=>hX y (hl y hy)]
     unfold keyF zeg;rw[e _ g1,e _ g2]
    have hstp:=GInv.step q hA (m:=(grp BV need (r+1) n).length) (G:=grp BV need (r+1) n) (G':=K) (List.length_pos_iff.2 hm) (by rw[←ht];simp only[List.length_append];omega)
     (by rw[hdrop,List.take_left]) (fun x hx=>(hgr x hx).2) (by
      rcases Nat.lt_or_ge ((grps BV need r n).length+(grp BV need (r+1) n).length) Q.length with q1|q1
      ·refine .inr ?_
       rw[hQn0];intro e;have hin:Q.getD ((grps BV need r n).length+(grp BV need (r+1) n).length) 0∈t:=by
        have e2:Q[(grps BV need r n).length+(grp BV need (r+1) n).length]?=t[0]?:=by
         rw[←ht,List.getElem?_append_right (by simp),List.length_append,Nat.sub_self]
        rw[List.getD_eq_getElem?_getD,e2];have hl:(grps BV need r n++grp BV need (r+1) n++t).length=Q.length:=by rw[ht]
        simp only[List.length_append]at hl;rw[List.getElem?_eq_getElem (by omega)];exact List.getElem_mem _
       have hnd:=hQn.1;rw[←ht,List.nodup_append]at hnd;have hxQ:Q.getD ((grps BV need r n).length+(grp BV need (r+1) n).length) 0∈Q:=by rw[←ht];exact List.mem_append_right _ (by rw[ht];exact hin)
       have hre:=(hQm _).1 hxQ;refine hnd.2.2 _ (List.mem_append_right _ (ze1.2 ⟨(hle _ hre).1,(hN _).2 hre,e⟩)) _ hin rfl
      ·exact .inl (by
        have hl:(grps BV need r n++grp BV need (r+1) n++t).length=Q.length:=by rw[ht]
        simp only[List.length_append]at hl;omega)) hKp (hKs.imp_of_mem fun {a b} ha hb hk=>by
      rw[hkey a ((hKp.mem_iff).1 ha),hkey b ((hKp.mem_iff).1 hb)]at hk;exact hk)
    have hAd:∀x∈A,x ∉ K:=fun x hx hxK=>by
     have h1:=(hA.mem x).1 hx;have h2:=(hKp.mem_iff).1 hxK;rw[←ht,List.append_assoc,List.take_left]at h1;have:=(ziz.1 h1).2.2;have:=(ze1.1 h2).2.2;omega
    refine⟨A++K,by rw[List.length_append];exact hstp,?_,fun x hx=>?_⟩
    ·rw[l1,hF,List.map_append]
     congr 1
     ·refine List.map_congr_left fun x hx=>?_
      exact(zeb (q.closed hA hx).1 (q.closed hA hx).2).symm
     ·refine List.map_congr_left fun x hx=>?_
      have hxg:=(hKp.mem_iff).1 hx;obtain⟨g1,g2⟩:=q.group hA hlt (hgr x hxg).1 (hgr x hxg).2;rw[hkey x hxg,zeb g1 g2]
    ·rw[List.idxOf_append]
     by_cases hxA:x∈A
     ·rw[if_pos hxA,l2 x (hAd x hxA),hX x hxA]
     ·have hxK:=(List.mem_append.1 hx).resolve_left hxA
      rw[if_neg hxA,l3 x hxK,hfl];omega
 obtain⟨A,hA,hF,_⟩:=key N (Nat.le_refl _);rw[←hQ]at hA;refine⟨A,?_⟩;have e:zgi V BV r=A.map fun x=>zeg A (za5 V x):=by
  unfold zgi;rw[←hneed,←hNN,hF]
 rw[e];exact hA.order hQn.1 hQm
theorem zda {α:Type}{P:List α→Prop}(h0:P [])(h1:∀l a,P l→P (l ++ [a])):∀l,P l:=fun l=>by
 have h:∀m:List α,P m.reverse:=fun m=>by
  induction m with
  | nil=>exact h0
  | cons a m ih=>rw[List.reverse_cons];exact h1 _ _ ih
 have:=h l.reverse;rwa [List.reverse_reverse]at this
def za0 (V:List PL):List Nat:=V.foldl (fun C y=>C ++ [mkC (za1 C y.1) (za1 C y.2)]) []
theorem zed (V:List PL)(y:PL):za0 (V ++ [y])=za0 V ++ [mkC (za1 (za0 V) y.1) (za1 (za0 V) y.2)]:=by simp[za0]
theorem za4 (V:List PL):(za0 V).length=V.length:=by
 induction V using zda with
 | h0=>rfl
 | h1 l a ih=>rw[zed,List.length_append,List.length_append,ih];rfl
theorem zci (C t L:List Nat)(h:∀x∈L,x<C.length):za1 (C++t) L=za1 C L:=by
 unfold za1;refine List.map_congr_left fun x hx=>?_
 rw[List.getD_eq_getElem?_getD,List.getD_eq_getElem?_getD,List.getElem?_append_left (h x hx)]
theorem ze5 {C t:List Nat}{j:Nat}(h:j<C.length):(C++t).getD j 0=C.getD j 0:=by
 rw[List.getD_eq_getElem?_getD,List.getD_eq_getElem?_getD,List.getElem?_append_left h]
theorem zei {V V':List PL}(h:V <+: V'):za0 V <+: za0 V':=by
 obtain⟨t,rfl⟩:=h;induction t using zda with
 | h0=>rw[List.append_nil];exact List.prefix_refl _
 | h1 l a ih=>rw[←List.append_assoc,zed];exact ih.trans (List.prefix_append _ _)
def OptsOK (V:List PL):Prop:=∀(j:Nat) (y:PL),V[j]?=some y→(∀i∈y.1,i<j)/\∀i∈y.2,i<j
theorem zcg (V:List PL):OptsOK V→∀(j:Nat) (x:PL),V[j]?=some x→(za0 V).getD j 0=mkC (za1 (za0 V) x.1) (za1 (za0 V) x.2):=by
 induction V using zda with
 | h0=>intro _ j x h;simp at h
 | h1 l a ih =>
  intro ho j x hx;have hol:OptsOK l:=fun j y hy=>ho j y (by rw[List.getElem?_append_left (List.getElem?_eq_some_iff.1 hy).1];exact hy)
  have hl:=za4 l;obtain⟨o1,o2⟩:=ho j x hx;rw[zed];rcases zf9 hx with ⟨hj,hx⟩|⟨rfl,rfl⟩
  ·rw[ze5 (by omega),zci _ _ _ (fun i hi=>by have:=o1 i hi;omega),zci _ _ _ (fun i hi=>by have:=o2 i hi;omega)]
   exact ih hol j x hx
  ·rw[zci _ _ _ (fun i hi=>by have:=o1 i hi;omega),zci _ _ _ (fun i hi=>by have:=o2 i hi;omega)]
   rw[List.getD_eq_getElem?_getD,←hl];simp
theorem zmc (BL:List Nat)(m:Nat)(L:List Nat):m≤za9 BL m L/\(∀x∈L,BL.getD x 0+1≤za9 BL m L)/\(za9 BL m L=m∨∃x∈L,za9 BL m L=BL.getD x 0+1):=zm5 (fun i=>BL.getD i 0+1) L m
theorem PoolOK.book {V:List PL}{BV:List Nat}(h:PoolOK V BV):BookC V (za0 V):=by
 have hc:=zcg V h.opts;have hl:=za4 V;refine⟨hl,h.opts,h.up,hc,?_⟩;have key:∀n i j,i+j<n→i<V.length→j<V.length→(za0 V).getD i 0=(za0 V).getD j 0→i=j:=by
  intro n;induction n with
  | zero=>intro i j h;omega
  | succ n ih =>
   intro i j hn hi hj e;have ei:=List.getElem?_eq_getElem hi
   have ej:=List.getElem?_eq_getElem hj
   obtain⟨p1,p2⟩:=h.opts i _ ei;obtain⟨q1,q2⟩:=h.opts j _ ej;obtain⟨u1,u2⟩:=h.up i _ ei;obtain⟨v1,v2⟩:=h.up j _ ej;rw[hc i _ ei,hc j _ ej]at e;have side:∀(a b:Nat) (l m:List Nat),a+b<n+1→a<V.length→b<V.length→(∀x∈l,x<a)→(∀x∈m,x<b)→(∀z,z∈za1 (za0 V) l→z∈za1 (za0 V) m)→∀x∈l,x∈m:=by
    intro a b l m hab ha hb hl' hm' hs x hx;obtain⟨y,hy,ey⟩:=mem_atAll.1 (hs _ (mem_atAll.2 ⟨x,hx,rfl⟩));have h1:=hl' x hx;have h2:=hm' y hy;rw[ih x y (by omega) (by omega) (by omega) ey.symm];exact hy
   have s1:∀z,z∈za1 (za0 V) V[i].1↔z∈za1 (za0 V) V[j].1:=fun z=>by rw[←zac _ (za1 (za0 V) V[i].2),e,zac]
   have s2:∀z,z∈za1 (za0 V) V[i].2↔z∈za1 (za0 V) V[j].2:=fun z=>by rw[←zaf (za1 (za0 V) V[i].1),e,zaf]
   have e1:V[i].1=V[j].1:=zgk u1 v1 fun x=>⟨side i j _ _ hn hi hj p1 q1 (fun z=>(s1 z).1) x,side j i _ _ (by omega) hj hi q1 p1 (fun z=>(s1 z).2) x⟩
   have e2:V[i].2=V[j].2:=zgk u2 v2 fun x=>⟨side i j _ _ hn hi hj p2 q2 (fun z=>(s2 z).1) x,side j i _ _ (by omega) hj hi q2 p2 (fun z=>(s2 z).2) x⟩
   exact(List.getElem_inj h.nodup).1 (Prod.ext e1 e2)
 refine List.nodup_iff_pairwise_ne.2 (List.pairwise_iff_getElem.2 fun i j hi hj hij e=>?_);have:=key (i+j+1) i j (by omega) (by omega) (by omega) (by rw[List.getD_eq_getElem?_getD,List.getD_eq_getElem?_getD,List.getElem?_eq_getElem hi,List.getElem?_eq_getElem hj,e]);omega
theorem PoolOK.births {V:List PL}{BV:List Nat}(h:PoolOK V BV):∀j,j<V.length→BV.getD j 0=bornC ((za0 V).getD j 0):=by
 intro j;induction j using Nat.strongRecOn with
 | _ j ih =>
  intro hj;have ej:=List.getElem?_eq_getElem hj
  obtain⟨o1,o2⟩:=h.opts j _ ej;rw[h.born j _ ej,zcg V h.opts j _ ej];obtain⟨a1,a2,a3⟩:=zmc BV 0 V[j].1;obtain⟨b1,b2,b3⟩:=zmc BV (za9 BV 0 V[j].1) V[j].2;have hopt:∀i,optC (mkC (za1 (za0 V) V[j].1) (za1 (za0 V) V[j].2)) i↔(∃x∈V[j].1,(za0 V).getD x 0=i)∨∃x∈V[j].2,(za0 V).getD x 0=i:=fun i=>by
   unfold optC;rw[zac,zaf,mem_atAll,mem_atAll]
  refine(yas (fun i hi=>?_) ?_).symm
  ·rcases (hopt i).1 hi with ⟨x,hx,rfl⟩|⟨x,hx,rfl⟩
   ·rw[←ih x (o1 x hx) (by have:=o1 x hx;omega)]
    have:=a2 x hx;omega
   ·rw[←ih x (o2 x hx) (by have:=o2 x hx;omega)]
    have:=b2 x hx;omega
  ·rcases b3 with b3|⟨x,hx,b3⟩
   ·rcases a3 with a3|⟨x,hx,a3⟩
    ·exact .inl (by omega)
    ·refine .inr ⟨_,(hopt _).2 (.inl ⟨x,hx,rfl⟩),?_⟩
     rw[←ih x (o1 x hx) (by have:=o1 x hx;omega)];omega
   ·refine .inr ⟨_,(hopt _).2 (.inr ⟨x,hx,rfl⟩),?_⟩
    rw[←ih x (o2 x hx) (by have:=o2 x hx;omega)];omega
theorem PoolOK.form {V:List PL}{BV:List Nat}(h:PoolOK V BV){r:Nat}(hr:r<V.length):FormC ((za0 V).getD r 0) (zgi V BV r):=by
 obtain⟨Q,O⟩:=zrn h hr;exact⟨_,zua h.book h.births hr O⟩
theorem zdi (BL:List Nat)(m K:Nat)(L:List Nat):za9 BL m L≤K↔m≤K/\∀x∈L,BL.getD x 0+1≤K:=by
 obtain⟨a1,a2,a3⟩:=zmc BL m L;constructor
 ·exact fun h=>⟨by omega,fun x hx=>by have:=a2 x hx;omega⟩
 ·rintro⟨h1,h2⟩
  rcases a3 with a3|⟨x,hx,a3⟩
  ·omega
  ·have:=h2 x hx;omega
theorem zy7 (BL:List Nat){L L' R R':List Nat}(h1:∀x,x∈L↔x∈L')(h2:∀x,x∈R↔x∈R'):za9 BL (za9 BL 0 L) R=za9 BL (za9 BL 0 L') R':=by
 have key:∀ {A A' B B':List Nat},(∀x,x∈A↔x∈A')→(∀x,x∈B↔x∈B')→za9 BL (za9 BL 0 A) B≤za9 BL (za9 BL 0 A') B':=by
  intro A A' B B' e1 e2;obtain⟨i1,i2⟩:=(zdi BL (za9 BL 0 A') _ B').1 (Nat.le_refl _);obtain⟨j1,j2⟩:=(zdi BL 0 _ A').1 i1;exact(zdi _ _ _ _).2 ⟨(zdi _ _ _ _).2 ⟨j1,fun x hx=>j2 x ((e1 x).1 hx)⟩,fun x hx=>i2 x ((e2 x).1 hx)⟩
 exact Nat.le_antisymm (key h1 h2) (key (fun x=>(h1 x).symm) fun x=>(h2 x).symm)
theorem zdz {V:List PL}{BV:List Nat}(h:PoolOK V BV)(L R:List Nat):putB V BV L R=za3 V BV L R:=by
 have hb:(zfn BV L R).1=za9 BV (za9 BV 0 (za8 L)) (za8 R):=zy7 BV (fun x=>(zav L x).symm) fun x=>(zav R x).symm
 have h2:(zfn BV L R).2=(za8 L,za8 R):=rfl;unfold putB za3;simp only[h2];by_cases hm:(za8 L,za8 R)∈V
 ·rw[if_pos hm]
  have hi:=List.idxOf_lt_length_of_mem hm;have ei:V[V.idxOf (za8 L,za8 R)]?=some (za8 L,za8 R):=by rw[List.getElem?_eq_getElem hi,List.getElem_idxOf]
  have e:zpy V BV (zfn BV L R).1 (za8 L,za8 R)=V.idxOf (za8 L,za8 R):=by
   refine zsc V BV _ _ _ hi h.len (fun j x y hj hx hy q=>?_) ?_ ei
   ·have hjl:=(List.getElem?_eq_some_iff.1 hx).1
    rw[q.2]at hx;obtain⟨_,ex⟩:=List.getElem?_eq_some_iff.1 hx
    have:V.idxOf V[j]=j:=List.Nodup.idxOf_getElem h.nodup j hjl;rw[ex]at this;omega
   ·have hbn:=h.born _ _ ei
    have hl:V.idxOf (za8 L,za8 R)<BV.length:=by rw[h.len];exact hi
    rw[List.getD_eq_getElem?_getD,List.getElem?_eq_getElem hl]at hbn;rw[List.getElem?_eq_getElem hl,hb,←hbn];rfl
  rw[e,if_pos hi]
 ·rw[if_neg hm]
  have e:=zmt V BV (zfn BV L R).1 (za8 L,za8 R) h.len (fun j x y hj hx hy q=>hm (by rw[←q.2];exact List.mem_of_getElem? hx));rw[if_neg e,hb]
theorem zok {V:List PL}{BV:List Nat}(h:PoolOK V BV){L R:List Nat}(hL:∀x∈L,x<V.length)(hR:∀x∈R,x<V.length) :
  (za0 (za3 V BV L R).1).getD (za3 V BV L R).2.2 0=mkC (za1 (za0 V) L) (za1 (za0 V) R):=by
 obtain⟨h1,h2⟩:=zhz h hL hR;obtain⟨_,_,hp⟩:=zdx V BV L R;have hl:=za4 V;rw[zcg _ h1.opts _ _ h2];obtain⟨t,ht⟩:=zei hp;rw[←ht];refine zxe (fun i=>?_) fun i=>?_
 ·rw[zci _ _ _ (fun x hx=>by rw[hl];exact hL x ((zav L x).1 hx)),mem_atAll,mem_atAll]
  exact⟨fun⟨x,hx,e⟩=>⟨x,(zav L x).1 hx,e⟩,fun⟨x,hx,e⟩=>⟨x,(zav L x).2 hx,e⟩⟩
 ·rw[zci _ _ _ (fun x hx=>by rw[hl];exact hR x ((zav R x).1 hx)),mem_atAll,mem_atAll]
  exact⟨fun⟨x,hx,e⟩=>⟨x,(zav R x).1 hx,e⟩,fun⟨x,hx,e⟩=>⟨x,(zav R x).2 hx,e⟩⟩
theorem zxh {b1 b2 b3:Nat}{x1 x2 x3:PL}(h:klt b1 x1 b2 x2)(h':klt b2 x2 b3 x3):klt b1 x1 b3 x3:=by
 rcases h with h|⟨e,h⟩
 ·rcases h' with h'|⟨e',_⟩
  ·exact .inl (by omega)
  ·exact .inl (by omega)
 ·rcases h' with h'|⟨e',h'⟩
  ·exact .inl (by omega)
  ·exact .inr ⟨by omega,ziq h h'⟩
theorem yc9 (b:Nat)(x:PL):¬klt b x b x:=fun h=>zoz h h
def zaz (Fs:List PL):List Nat:=Fs.foldl (fun B y=>B ++ [za9 B (za9 B 0 y.1) y.2]) []
theorem ze6 (Fs:List PL)(y:PL):zaz (Fs ++ [y])=zaz Fs ++ [za9 (zaz Fs) (za9 (zaz Fs) 0 y.1) y.2]:=by simp[zaz]
theorem zcu (Fs:List PL):(zaz Fs).length=Fs.length:=by
 induction Fs using zda with
 | h0=>rfl
 | h1 l a ih=>rw[ze6,List.length_append,List.length_append,ih];rfl
theorem OptsOK.cut {l:List PL}{a:PL}(ho:OptsOK (l ++ [a])):OptsOK l:=fun j z hz=>ho j z (by rw[List.getElem?_append_left (List.getElem?_eq_some_iff.1 hz).1];exact hz)
theorem BookUp.cut {l:List PL}{a:PL}(ho:BookUp (l ++ [a])):BookUp l:=fun j z hz=>ho j z (by rw[List.getElem?_append_left (List.getElem?_eq_some_iff.1 hz).1];exact hz)
theorem zmb (Fs:List PL):OptsOK Fs→∀(j:Nat) (y:PL),Fs[j]?=some y→(zaz Fs).getD j 0=za9 (zaz Fs) (za9 (zaz Fs) 0 y.1) y.2:=by
 induction Fs using zda with
 | h0=>intro _ j y h;simp at h
 | h1 l a ih =>
  intro ho j y hy;have hl:=zcu l;obtain⟨o1,o2⟩:=ho j y hy;rw[ze6];rcases zf9 hy with ⟨hj,hy⟩|⟨rfl,rfl⟩
  ·rw[zbi _ _ _ _ (fun x hx=>by have:=o2 x hx;omega),zbi _ _ _ _ (fun x hx=>by have:=o1 x hx;omega),ze5 (by omega)]
   exact ih ho.cut j y hy
  ·rw[zbi _ _ _ _ (fun x hx=>by have:=o2 x hx;omega),zbi _ _ _ _ (fun x hx=>by have:=o1 x hx;omega),List.getD_eq_getElem?_getD,←hl]
   simp
theorem zg8 {Fs:List PL}(ho:OptsOK Fs)(hu:BookUp Fs)(hn:Fs.Nodup):PoolOK Fs (zaz Fs):=⟨zcu Fs,ho,hu,hn,zmb Fs ho⟩
theorem zpf (Fs:List PL):OptsOK Fs→BookUp Fs→Fs.Nodup→addB [] [] Fs=(Fs,zaz Fs,List.range Fs.length):=by
 induction Fs using zda with
 | h0=>intro _ _ _;rfl
 | h1 l y ih =>
  intro ho hu hn;have hnl:l.Nodup:=(List.nodup_append.1 hn).1;have hnot:y ∉ l:=fun h=>(List.nodup_append.1 hn).2.2 y h y (by simp) rfl
  have hy:(l ++ [y])[l.length]?=some y:=by simp
  obtain⟨o1,o2⟩:=ho _ y hy;obtain⟨u1,u2⟩:=hu _ y hy;have hat:∀L:List Nat,(∀x∈L,x<l.length)→za1 (List.range l.length) L=L:=fun L hL=>yat _ _ fun x hx=>by rw[zhx,if_pos (hL x hx)]
  have hput:za3 l (zaz l) y.1 y.2=(l ++ [y],zaz (l ++ [y]),l.length):=by
   unfold za3;rw[zs4 _ u1,zs4 _ u2,if_neg hnot,ze6]
  rw[ze7,ih ho.cut hu.cut hnl];unfold zic;simp only[hat _ o1,hat _ o2,zdz (zg8 ho.cut hu.cut hnl),hput];simp[List.range_succ]
theorem zpg (Fs:List PL):OptsOK Fs→∀ {V:List PL}{BV:List Nat},PoolOK V BV→BookOK V BV→PoolOK (addB V BV Fs).1 (addB V BV Fs).2.1:=by
 induction Fs using zda with
 | h0=>intro _ V BV h _;exact h
 | h1 l y ih =>
  intro ho V BV h hb;obtain⟨k1,k2,k3,k4,k5⟩:=zid hb l ho.cut;have hp:=ih ho.cut h hb;have hy:(l ++ [y])[l.length]?=some y:=by simp
  obtain⟨o1,o2⟩:=ho _ y hy;rw[ze7];show PoolOK (putB _ _ _ _).1 (putB _ _ _ _).2.1
  rw[zdz hp];exact(zhz hp (zef k3 (fun x hx=>by rw[k2];exact o1 x hx)) (zef k3 (fun x hx=>by rw[k2];exact o2 x hx))).1
theorem zvs {V:List PL}{C:List Nat}(B:BookC V C){r:Nat}(hr:r<V.length){x:Nat}(h:ReachV V [r] x):SubC (C.getD r 0) (C.getD x 0):=by
 induction h with
 | root h=>simp at h;subst h;exact .root
 | left h hz ih=>exact .step ih (.inl (B.left (zf3 B (by simpa using hr) h) hz).2)
 | right h hz ih=>exact .step ih (.inr (B.right (zf3 B (by simpa using hr) h) hz).2)
theorem zkg {V:List PL}{C:List Nat}(B:BookC V C){r:Nat}(hr:r<V.length){c:Nat}(h:SubC (C.getD r 0) c):∃x,ReachV V [r] x/\x<V.length/\C.getD x 0=c:=by
 induction h with
 | root=>exact⟨r,.root (by simp),hr,rfl⟩
 | step _ ho ih =>
  obtain⟨y,hy,hyl,rfl⟩:=ih;rw[B.code y _ (B.getD hyl)]at ho;rcases ho with ho|ho
  ·rw[zac]at ho
   obtain⟨z,hz,rfl⟩:=mem_atAll.1 ho;have hr':=ReachV.left hy hz;exact⟨z,hr',zf3 B (by simpa using hr) hr',rfl⟩
  ·rw[zaf]at ho
   obtain⟨z,hz,rfl⟩:=mem_atAll.1 ho;have hr':=ReachV.right hy hz;exact⟨z,hr',zf3 B (by simpa using hr) hr',rfl⟩
def zgn (Fs:List PL):Prop:=∀(j:Nat) (x y:PL),Fs[j]?=some x→Fs[j+1]?=some y→klt ((zaz Fs).getD j 0) x ((zaz Fs).getD (j+1) 0) y
def zd6 (Fs:List PL):Prop:=∀x,x<Fs.length→(zag Fs (Fs.length-1)).getD x false=true
theorem zzp {Fs:List PL}(h:zgn Fs):∀(d i:Nat) (x y:PL),Fs[i]?=some x→Fs[i+d+1]?=some y→klt ((zaz Fs).getD i 0) x ((zaz Fs).getD (i+d+1) 0) y:=by
 intro d;induction d with
 | zero=>intro i x y hx hy;exact h i x y hx hy
 | succ d ih =>
  intro i x y hx hy;have hl:=(List.getElem?_eq_some_iff.1 hy).1;have hm:=List.getElem?_eq_getElem (l:=Fs) (i:=i+d+1) (by omega)
  exact zxh (ih i x _ hx hm) (h (i+d+1) _ y hm hy)
theorem zxb {Fs:List PL}(h:zgn Fs){i j:Nat}{x y:PL}(hij:i<j)(hx:Fs[i]?=some x)(hy:Fs[j]?=some y):klt ((zaz Fs).getD i 0) x ((zaz Fs).getD j 0) y:=by
 obtain⟨d,rfl⟩:∃d,j=i+d+1:=⟨j-i-1,by omega⟩;exact zzp h d i x y hx hy
theorem zga {Fs:List PL}(ho:OptsOK Fs)(h:zgn Fs):Fs.Nodup:=by
 refine List.nodup_iff_pairwise_ne.2 (List.pairwise_iff_getElem.2 fun i j hi hj hij e=>?_);have e1:=List.getElem?_eq_getElem hi
 have e2:=List.getElem?_eq_getElem hj
 have hk:=zxb h hij e1 e2;rw[zmb Fs ho i _ e1,zmb Fs ho j _ e2,e]at hk;exact yc9 _ _ hk
def zct (Fs:List PL):Nat:=(za0 Fs).getD (Fs.length-1) 0
theorem zx1 {Fs:List PL}{c:Nat}(h:FormC c Fs):0<Fs.length/\OptsOK Fs/\BookUp Fs/\zgn Fs/\zd6 Fs/\zct Fs=c:=by
 obtain⟨P,hA⟩:=h;have ho:OptsOK Fs:=hA.book.opts;have hu:BookUp Fs:=hA.book.up;have hPl:=hA.book.len;have hPC:∀j,j<Fs.length→P.getD j 0=(za0 Fs).getD j 0:=by
  intro j;induction j using Nat.strongRecOn with
  | _ j ih =>
   intro hj;have ej:=List.getElem?_eq_getElem hj
   obtain⟨o1,o2⟩:=ho j _ ej;have e1:∀L:List Nat,(∀x∈L,x<j)→za1 P L=za1 (za0 Fs) L:=fun L hL=>List.map_congr_left fun x hx=>ih x (hL x hx) (by have:=hL x hx;omega)
   rw[hA.book.code j _ ej,zcg Fs ho j _ ej,e1 _ o1,e1 _ o2]
 have hn:Fs.Nodup:=by
  refine List.nodup_iff_pairwise_ne.2 (List.pairwise_iff_getElem.2 fun i j hi hj hij e=>?_);have c1:=hA.book.code i _ (List.getElem?_eq_getElem hi);have c2:=hA.book.code j _ (List.getElem?_eq_getElem hj);rw[e]at c1;have:=zb5 hA.book.nodup (by omega) (by omega) (c1.trans c2.symm);omega
 have hP:=zg8 ho hu hn;obtain⟨k,hk,ek⟩:=zhc ((hA.sub c).2 .root);have hkl:k<Fs.length:=by omega
 have hreach:∀i,i<Fs.length→ReachV Fs [k] i:=fun i hi=>by
  have hs:=(hA.sub _).1 (zde (C:=P) (i:=i) (by omega));rw[←ek]at hs;obtain⟨x,hx,hxl,e⟩:=zkg hA.book hkl hs;rw[zb5 hA.book.nodup (by omega) (by omega) e]at hx;exact hx
 have hle:∀x,ReachV Fs [k] x→x≤k:=fun x hx=>by
  induction hx with
  | root h=>simp at h;omega
  | @left x y hx hy ih=>have:=(ho x _ (za6 (by omega))).1 y hy;omega
  | @right x y hx hy ih=>have:=(ho x _ (za6 (by omega))).2 y hy;omega
 have hke:k=Fs.length-1:=by have:=hle _ (hreach (Fs.length-1) (by omega));omega
 subst hke;refine⟨by omega,ho,hu,fun j x y hx hy=>?_,fun x hx=>(zkq hP hkl x).2 (hreach x hx),by unfold zct;rw[←hPC _ hkl,ek]⟩;have hk:=hA.up j (j+1) x y (Nat.lt_succ_self _) hx hy;have l1:=(List.getElem?_eq_some_iff.1 hx).1;have l2:=(List.getElem?_eq_some_iff.1 hy).1;rw[hPC j l1,hPC (j+1) l2,←hP.births j l1,←hP.births (j+1) l2]at hk;exact hk
theorem ybt {Fs:List PL}(ho:OptsOK Fs)(hp:0<Fs.length)(h:zgi (addB [] [] Fs).1 (addB [] [] Fs).2.1 (zh7 [] [] Fs)=Fs):zgn Fs/\zd6 Fs:=by
 have hP0:=zpg Fs ho PoolOK.nil BookOK.nil;have hroot:zh7 [] [] Fs<(addB [] [] Fs).1.length:=by
  obtain⟨k1,k2,k3,k4,k5⟩:=zid BookOK.nil Fs ho;unfold zh7;rw[List.getD_eq_getElem?_getD,List.getElem?_eq_getElem (by omega)];exact k3 _ (List.getElem_mem _)
 have hA:=hP0.form hroot;rw[h]at hA;obtain⟨_,_,_,h4,h5,_⟩:=zx1 hA;exact⟨h4,h5⟩
theorem zxt {Fs:List PL}(hp:0<Fs.length)(ho:OptsOK Fs)(hu:BookUp Fs)(hk:zgn Fs)(hr:zd6 Fs):FormC (zct Fs) Fs:=by
 have hn:=zga ho hk;have hP:=zg8 ho hu hn;have hlast:Fs.length-1<Fs.length:=by omega
 have hcl:=za4 Fs;refine⟨za0 Fs,hP.book,fun x=>⟨fun hx=>?_,fun hx=>?_⟩,fun i j x y hij hx hy=>?_⟩
 ·obtain⟨i,hi,rfl⟩:=zhc hx
  exact zvs hP.book hlast ((zkq hP hlast i).1 (hr i (by omega)))
 ·obtain⟨y,_,hy,rfl⟩:=zkg hP.book hlast hx
  exact zde (by omega)
 ·have h:=zxb hk hij hx hy
  rw[hP.births i (List.getElem?_eq_some_iff.1 hx).1,hP.births j (List.getElem?_eq_some_iff.1 hy).1]at h;exact h
theorem ycf {Fs:List PL}(hp:0<Fs.length)(ho:OptsOK Fs)(hu:BookUp Fs)(hk:zgn Fs)(hr:zd6 Fs):zgi (addB [] [] Fs).1 (addB [] [] Fs).2.1 (zh7 [] [] Fs)=Fs:=by
 have hn:=zga ho hk;have hP:=zg8 ho hu hn;have hlast:Fs.length-1<Fs.length:=by omega
 unfold zh7;rw[zpf Fs ho hu hn];show zgi Fs (zaz Fs) ((List.range Fs.length).getD (Fs.length-1) 0)=Fs
 rw[zhx,if_pos hlast];exact(hP.form hlast).one (zxt hp ho hu hk hr)
theorem zm4 (Fs:List PL):zfh (i2 Fs)↔zdh Fs=true/\OptsOK Fs/\BookUp Fs/\zgn Fs/\zd6 Fs:=by
 constructor
 ·rintro⟨h1,h2,h3⟩
  rw[zo4]at h1;obtain⟨Fs',e,ho,hu⟩:=ziv h2;obtain rfl:=zt8 e;have hp:0<Fs.length:=by unfold zdh at h1;rw[decide_eq_true_eq]at h1;omega
  obtain⟨k1,k2⟩:=ybt ho hp (h3 Fs rfl);exact⟨h1,ho,hu,k1,k2⟩
 ·rintro⟨h1,ho,hu,k1,k2⟩
  have hp:0<Fs.length:=by unfold zdh at h1;rw[decide_eq_true_eq]at h1;omega
  refine⟨by rw[zo4];exact h1,fun j y hj hy=>?_,fun Fs' e=>?_⟩
  ·obtain⟨x,hx,rfl⟩:=yb5 hy
   obtain⟨o1,o2⟩:=ho j x hx;obtain⟨u1,u2⟩:=hu j x hx;exact⟨yb2 j x.1 none u1 o1 (by simp),yb2 j x.2 none u2 o2 (by simp)⟩
  ·obtain rfl:=zt8 e
   exact ycf hp ho hu k1 k2
theorem zxq {Fs:List PL}(h:zfh (i2 Fs)):FormC (zct Fs) Fs:=by
 obtain⟨h1,ho,hu,k1,k2⟩:=(zm4 Fs).1 h;have hp:0<Fs.length:=by unfold zdh at h1;rw[decide_eq_true_eq]at h1;omega
 exact zxt hp ho hu k1 k2
def geC (a b:Nat):Bool:=((zkk a).attach.all fun r=>!geC b r.1) && ((zra b).attach.all fun l=>!geC l.1 a)
 termination_by a+b
 decreasing_by
  ·have:=zad (.inr (zc1.1 r.2));omega
  ·have:=zad (.inl (zcp.1 l.2));omega
theorem zeh (a b:Nat):geC a b=true↔(∀r,hasR a r→geC b r=false)/\∀l,hasL b l→geC l a=false:=by
 rw[geC,Bool.and_eq_true,List.all_eq_true,List.all_eq_true];constructor
 ·rintro⟨h1,h2⟩
  exact⟨fun r hr=>by simpa using h1 ⟨r,zc1.2 hr⟩ (List.mem_attach _ _),fun l hl=>by simpa using h2 ⟨l,zcp.2 hl⟩ (List.mem_attach _ _)⟩
 ·rintro⟨h1,h2⟩
  exact⟨fun r _=>by simpa using h1 r.1 (zc1.1 r.2),fun l _=>by simpa using h2 l.1 (zcp.1 l.2)⟩
def geV (C:List Nat)(x y:Nat):Bool:=geC (C.getD x 0) (C.getD y 0)
theorem zxs {V:List PL}{C:List Nat}(B:BookC V C){x y:Nat}(hx:x<V.length)(hy:y<V.length) :
  geV C x y=true↔(∀r∈(za5 V x).2,geV C y r=false)/\∀l∈(za5 V y).1,geV C l x=false:=by
 unfold geV;rw[zeh];have e1:=B.code x _ (za6 hx);have e2:=B.code y _ (za6 hy);constructor
 ·rintro⟨h1,h2⟩
  exact⟨fun r hr=>h1 _ (by rw[e1,zaf];exact mem_atAll.2 ⟨r,hr,rfl⟩),fun l hl=>h2 _ (by rw[e2,zac];exact mem_atAll.2 ⟨l,hl,rfl⟩)⟩
 ·rintro⟨h1,h2⟩
  refine⟨fun r hr=>?_,fun l hl=>?_⟩
  ·rw[e1,zaf]at hr
   obtain⟨z,hz,rfl⟩:=mem_atAll.1 hr;exact h1 z hz
  ·rw[e2,zac]at hl
   obtain⟨z,hz,rfl⟩:=mem_atAll.1 hl;exact h2 z hz
def domP (g:Nat→Nat→Bool)(L:List Nat)(k j:Nat):Bool:=decide (j≠k) && (g (L.getD k 0) (L.getD j 0) && (!g (L.getD j 0) (L.getD k 0) || decide (j<k)))
def domB (g:Nat→Nat→Bool)(L:List Nat):List Nat:=(List.range L.length).filter fun k=>(List.range L.length).any (domP g L k)
def zaa (L P:List Nat):List Nat:=(L.zipIdx.filter fun x=>!P.contains x.2).map (·.1)
def gL (C:List Nat)(a b:Nat):Bool:=geV C b a
def gR (C:List Nat)(a b:Nat):Bool:=geV C a b
theorem zie (L P:List Nat):(zaa L P).Sublist L:=by
 unfold zaa;have h:(L.zipIdx.filter fun x=>!P.contains x.2).Sublist L.zipIdx:=List.filter_sublist;have h2:=h.map (·.1);rwa [List.zipIdx_map_fst]at h2
theorem zbg {L P:List Nat}{x:Nat}(h:x∈zaa L P):x∈L:=(zie L P).subset h
theorem zcd (L P:List Nat):(zaa L P).length≤L.length:=(zie L P).length_le
theorem zh1 (L P:List Nat)(k:Nat)(hk:k<L.length):zaa (L.take (k+1)) P=if k∈P then zaa (L.take k) P else zaa (L.take k) P ++ [L[k]]:=by
 unfold zaa;rw[List.take_succ_eq_append_getElem hk,List.zipIdx_append,List.filter_append,List.map_append];have hl:(L.take k).length=k:=by simp;omega
 simp only[List.zipIdx_cons,List.zipIdx_nil,hl,Nat.zero_add,List.filter_cons,List.filter_nil];by_cases h:k∈P
 ·simp[h]
 ·simp[h]
theorem ych {α:Type}{GN:List (List α × List α)}(h1:GN.length≤120)(h2:1≤GN.length)(h3:∀(k:Nat) (y:List α × List α),GN[k]?=some y→y.1.length≤24/\y.2.length≤24):zdh GN=true :=
 decide_eq_true ⟨h1,h2,fun y hy=>by
  obtain⟨k,hk,rfl⟩:=List.getElem_of_mem hy;exact h3 k _ (List.getElem?_eq_getElem hk)⟩
def negC (a:Nat):Nat:=mkC ((zkk a).attach.map fun r=>negC r.1) ((zra a).attach.map fun l=>negC l.1)
 termination_by a
 decreasing_by
  ·exact zad (.inr (zc1.1 r.2))
  ·exact zad (.inl (zcp.1 l.2))
theorem zhm (a i:Nat):hasL (negC a) i↔∃r,hasR a r/\negC r=i:=by
 rw[negC,zac,List.mem_map];constructor
 ·rintro⟨r,_,e⟩;exact⟨r.1,zc1.1 r.2,e⟩
 ·rintro⟨r,hr,e⟩;exact⟨⟨r,zc1.2 hr⟩,List.mem_attach _ _,e⟩
theorem zhk (a i:Nat):hasR (negC a) i↔∃l,hasL a l/\negC l=i:=by
 rw[negC,zaf,List.mem_map];constructor
 ·rintro⟨r,_,e⟩;exact⟨r.1,zcp.1 r.2,e⟩
 ·rintro⟨r,hr,e⟩;exact⟨⟨r,zcp.2 hr⟩,List.mem_attach _ _,e⟩
theorem yc7 (a:Nat)(L R:List Nat)(hL:∀i,i∈L↔∃r,hasR a r/\negC r=i)(hR:∀i,i∈R↔∃l,hasL a l/\negC l=i):mkC L R=negC a :=
 zdt (fun i=>by rw[zac,hL,zhm]) (fun i=>by rw[zaf,hR,zhk])
theorem zak {V V':List PL}(h:V <+: V'){x:Nat}(hx:x<V.length):(za0 V').getD x 0=(za0 V).getD x 0:=by
 obtain⟨t,ht⟩:=zei h;rw[←ht];exact ze5 (by rw[za4];exact hx)
theorem ze0 {V V':List PL}(h:V <+: V'){x:Nat}(hx:x<V.length):za5 V' x=za5 V x:=by
 obtain⟨t,rfl⟩:=h;unfold za5;rw[List.getD_eq_getElem?_getD,List.getD_eq_getElem?_getD,List.getElem?_append_left hx]
def RowC (V:List PL)(L cs:List Nat):Prop:=(∀x∈L,x<V.length)/\za1 (za0 V) L=cs
theorem RowC.nil (V:List PL):RowC V [] []:=⟨by simp,rfl⟩
theorem RowC.mono {V V':List PL}{L cs:List Nat}(h:RowC V L cs)(hp:V <+: V'):RowC V' L cs:=by
 refine⟨fun x hx=>Nat.lt_of_lt_of_le (h.1 x hx) hp.length_le,?_⟩;rw[←h.2];exact List.map_congr_left fun x hx=>zak hp (h.1 x hx)
theorem RowC.snoc {V:List PL}{L cs:List Nat}{x c:Nat}(h:RowC V L cs)(hx:x<V.length)(hc:(za0 V).getD x 0=c):RowC V (L ++ [x]) (cs ++ [c]):=by
 refine⟨fun y hy=>?_,?_⟩
 ·rcases List.mem_append.1 hy with hy|hy
  ·exact h.1 y hy
  ·rw[List.mem_singleton.1 hy];exact hx
 ·rw[←h.2,←hc]
  simp[za1]
theorem RowC.next {V:List PL}{L TL:List Nat}{x c j:Nat}(h:RowC V L (TL.take j))(hj:TL[j]?=some c)(hx:x<V.length)(hc:(za0 V).getD x 0=c):RowC V (L ++ [x]) (TL.take (j+1)):=by
 obtain⟨hl,e⟩:=List.getElem?_eq_some_iff.1 hj
 rw[List.take_succ_eq_append_getElem hl,e];exact h.snoc hx hc
theorem RowC.len {V:List PL}{L cs:List Nat}(h:RowC V L cs):L.length=cs.length:=by
 rw[←h.2];simp[za1]
theorem zgt {V:List PL}{BV:List Nat}(h:PoolOK V BV){L R cs ds:List Nat}(hL:RowC V L cs)(hR:RowC V R ds) :
  PoolOK (za3 V BV L R).1 (za3 V BV L R).2.1/\V <+: (za3 V BV L R).1/\(za3 V BV L R).2.2<(za3 V BV L R).1.length/\(za0 (za3 V BV L R).1).getD (za3 V BV L R).2.2 0=mkC cs ds:=by
 obtain⟨p1,_,p3⟩:=zdx V BV L R;exact⟨(zhz h hL.1 hR.1).1,p3,p1,by rw[zok h hL.1 hR.1,hL.2,hR.2]⟩
theorem yd9 {C:List Nat}{x:PL}{a:Nat}(hx:a=mkC (za1 C x.1) (za1 C x.2)):mkC ((za1 C x.2).map negC) ((za1 C x.1).map negC)=negC a:=by
 have e1:∀l,hasL a l↔l∈za1 C x.1:=fun l=>by rw[hx,zac]
 have e2:∀l,hasR a l↔l∈za1 C x.2:=fun l=>by rw[hx,zaf]
 refine yc7 a _ _ (fun i=>?_) fun i=>?_
 ·rw[List.mem_map];simp only[e2]
 ·rw[List.mem_map];simp only[e1]
theorem yb1 {C A:List Nat}{g:Nat→Nat}{k l:Nat}(h:A[k]?=some l):((za1 C A).map g)[k]?=some (g (C.getD l 0)):=by
 simp[za1,List.getElem?_map,h]
theorem zkr {V:List PL}{BV:List Nat}(h:PoolOK V BV){U:List Nat}(hU:∀x,x<V.length→(za0 V).getD x 0∈U):V.length≤U.length:=by
 rw[←za4 V];refine h.book.nodup.length_le_of_subset fun c hc=>?_
 obtain⟨i,hi,rfl⟩:=zhc hc;exact hU i (by rw[←za4 V];exact hi)
theorem zi0 {V:List PL}{BV:List Nat}{L R U:List Nat}(hU:∀x,x<V.length→(za0 V).getD x 0∈U)(hc:(za0 (za3 V BV L R).1).getD (za3 V BV L R).2.2 0∈U) :
  ∀x,x<(za3 V BV L R).1.length→(za0 (za3 V BV L R).1).getD x 0∈U:=by
 intro x hx;obtain⟨p1,p2,p3⟩:=zdx V BV L R;by_cases h:x<V.length
 ·rw[zak p3 h];exact hU x h
 ·have e:x=(za3 V BV L R).2.2:=by
   unfold za3 at hx p1 ⊢;split
   ·rename_i hm;rw[if_pos hm]at hx;exact absurd hx h
   ·rename_i hm
    rw[if_neg hm]at hx;simp at hx ⊢;omega
  rw[e];exact hc
theorem zp9:∀(c:Nat) (V:List PL) (BV:List Nat),PoolOK V BV→∃V' BV' r,PoolOK V' BV'∧V <+: V'∧r<V'.length/\(za0 V').getD r 0=c:=by
 intro c;induction c using Nat.strongRecOn with
 | _ c ih =>
  have row:∀(L:List Nat),(∀l∈L,l<c)→∀(V:List PL) (BV:List Nat),PoolOK V BV→∃V' BV' A,PoolOK V' BV'∧V <+: V'∧RowC V' A L:=by
   intro L;induction L using zda with
   | h0=>intro _ V BV h;exact⟨V,BV,[],h,List.prefix_refl _,RowC.nil V⟩
   | h1 l a il =>
    intro hl V BV h;obtain⟨V1,B1,A,h1,p1,r1⟩:=il (fun x hx=>hl x (List.mem_append_left _ hx)) V BV h;obtain⟨V2,B2,r,h2,p2,hr,hc⟩:=ih a (hl a (by simp)) V1 B1 h1;exact⟨V2,B2,A ++ [r],h2,p1.trans p2,(r1.mono p2).snoc hr hc⟩
  intro V BV h;obtain⟨V1,B1,A1,h1,p1,r1⟩:=row (zra c) (fun l hl=>zad (.inl (zcp.1 hl))) V BV h;obtain⟨V2,B2,A2,h2,p2,r2⟩:=row (zkk c) (fun l hl=>zad (.inr (zc1.1 hl))) V1 B1 h1;obtain⟨q1,q2,q3,q4⟩:=zgt h2 (r1.mono p2) r2;exact⟨_,_,_,q1,(p1.trans p2).trans q2,q3,by rw[q4,zzu]⟩
theorem zxu (c:Nat):∃FN,FormC c FN:=by
 obtain⟨V,BV,r,h,_,hr,hc⟩:=zp9 c [] [] PoolOK.nil;have:=h.form hr;rw[hc]at this
 exact⟨_,this⟩
noncomputable def zb8 (c:Nat):List PL:=Classical.choose (zxu c)
theorem zhp (c:Nat):FormC c (zb8 c):=Classical.choose_spec (zxu c)
theorem FormC.of {c:Nat}{FN:List PL}(h:FormC c FN):FN=zb8 c:=h.one (zhp c)
theorem yaa {V:List PL}{BV:List Nat}(h:PoolOK V BV){r c:Nat}(hr:r<V.length)(hc:(za0 V).getD r 0=c):zgi V BV r=zb8 c:=by
 have:=h.form hr;rw[hc]at this
 exact this.of
theorem SubC.trans {a b c:Nat}(h:SubC a b)(h':SubC b c):SubC a c:=by
 induction h' with
 | root=>exact h
 | step _ ho ih=>exact ih.step ho
theorem zmd {C L:List Nat}(hC:C.Nodup)(hu:L.Pairwise (· < ·))(hl:∀x∈L,x<C.length):(za1 C L).Nodup:=by
 unfold za1;refine List.pairwise_map.2 (hu.imp_of_mem ?_);intro a b ha hb hab e;have:=zb5 hC (hl a ha) (hl b hb) e;omega
theorem zru {C A L:List Nat}(h:∀i∈L,i<A.length):za1 C (za1 A L)=za1 (za1 C A) L:=by
 unfold za1;rw[List.map_map];refine List.map_congr_left fun i hi=>?_
 have hl:=h i hi;simp[List.getD_eq_getElem?_getD,List.getElem?_map,List.getElem?_eq_getElem hl]
theorem RowC.at {V:List PL}{A cs L:List Nat}(h:RowC V A cs)(hL:∀i∈L,i<A.length):RowC V (za1 A L) (za1 cs L):=by
 refine⟨fun x hx=>?_,?_⟩
 ·obtain⟨i,hi,rfl⟩:=mem_atAll.1 hx
  exact h.1 _ (zde (hL i hi))
 ·rw[zru hL,h.2]
theorem OptsOK.last {l:List PL}{a:PL}(ho:OptsOK (l ++ [a])):(∀i∈a.1,i<l.length)/\∀i∈a.2,i<l.length:=ho l.length a (by simp)
theorem zye (Fs:List PL):OptsOK Fs→∀ {V:List PL}{BV:List Nat},PoolOK V BV→PoolOK (addB V BV Fs).1 (addB V BV Fs).2.1/\V <+: (addB V BV Fs).1/\RowC (addB V BV Fs).1 (addB V BV Fs).2.2 (za0 Fs) ∧
  ∀x,x<(addB V BV Fs).1.length→(za0 (addB V BV Fs).1).getD x 0∈za0 V++za0 Fs:=by
 induction Fs using zda with
 | h0 =>
  intro _ V BV h;exact⟨h,List.prefix_refl _,RowC.nil V,fun x hx=>List.mem_append_left _ (zde (by rw[za4];exact hx))⟩
 | h1 l a ih =>
  intro ho V BV h;obtain⟨i1,i2,i3,i4⟩:=ih ho.cut h;obtain⟨o1,o2⟩:=ho.last;have hlen:(addB V BV l).2.2.length=l.length:=by rw[i3.len,za4]
  have r1:=i3.at (L:=a.1) (fun i hi=>by rw[hlen];exact o1 i hi);have r2:=i3.at (L:=a.2) (fun i hi=>by rw[hlen];exact o2 i hi);obtain⟨q1,q2,q3,q4⟩:=zgt i1 r1 r2;have e:addB V BV (l ++ [a])=((za3 (addB V BV l).1 (addB V BV l).2.1 (za1 (addB V BV l).2.2 a.1) (za1 (addB V BV l).2.2 a.2)).1,(za3 (addB V BV l).1 (addB V BV l).2.1 (za1 (addB V BV l).2.2 a.1) (za1 (addB V BV l).2.2 a.2)).2.1,
    (addB V BV l).2.2 ++ [(za3 (addB V BV l).1 (addB V BV l).2.1 (za1 (addB V BV l).2.2 a.1) (za1 (addB V BV l).2.2 a.2)).2.2]):=by
   rw[ze7,←zdz i1];rfl
  rw[e,zed];refine⟨q1,i2.trans q2,(i3.mono q2).snoc q3 q4,?_⟩;refine zi0 (fun x hx=>?_) ?_
  ·rcases List.mem_append.1 (i4 x hx)with h|h
   ·exact List.mem_append_left _ h
   ·exact List.mem_append_right _ (List.mem_append_left _ h)
  ·rw[q4]
   exact List.mem_append_right _ (List.mem_append_right _ (List.mem_singleton.2 rfl))
theorem zvc {V:List PL}{BV:List Nat}(h:PoolOK V BV){r:Nat}(hr:r<V.length){a:Nat}(hs:SubC ((za0 V).getD r 0) a):a∈za0 V:=by
 obtain⟨x,_,hx,e⟩:=zkg h.book hr hs;rw[←e];exact zde (by rw[za4];exact hx)
theorem zk9 {V:List PL}{BV:List Nat}(h:PoolOK V BV):BookOK V BV:=by
 have hle:∀j,j<V.length→BV.getD j 0≤j:=by
  intro j;induction j using Nat.strongRecOn with
  | _ j ih =>
   intro hj;have e:=za6 hj;obtain⟨o1,o2⟩:=h.opts j _ e;rw[h.born j _ e,zdi,zdi];exact⟨⟨Nat.zero_le _,fun x hx=>by have:=o1 x hx;have:=ih x this (by omega);omega⟩,fun x hx=>by have:=o2 x hx;have:=ih x this (by omega);omega⟩
 exact⟨h.len,h.opts,fun j x hx=>by
  have hj:=(List.getElem?_eq_some_iff.1 hx).1;have:=hle j (by rw[←h.len];exact hj);rw[List.getD_eq_getElem?_getD,hx]at this
  exact this⟩
theorem RowC.get {V:List PL}{A Tb:List Nat}{P p c:Nat}(h:RowC V A (Tb.take P))(hp:p<P)(hTb:Tb[p]?=some c):∃x,A[p]?=some x/\x<V.length/\(za0 V).getD x 0=c:=by
 have h1:(Tb.take P)[p]?=some c:=by rw[List.getElem?_take,if_pos hp];exact hTb
 rw[←h.2]at h1;unfold za1 at h1;rw[List.getElem?_map]at h1;cases hA:A[p]? with
 | none=>rw[hA]at h1;cases h1
 | some x =>
  rw[hA]at h1;exact⟨x,rfl,h.1 x (List.mem_of_getElem? hA),Option.some.inj h1⟩
theorem zyp {Tb:List Nat}{p c:Nat}(h:Tb[p]?=some c):Tb.take p ++ [c]=Tb.take (p+1):=by
 obtain⟨hl,e⟩:=List.getElem?_eq_some_iff.1 h
 rw[List.take_succ_eq_append_getElem hl,e]
theorem zgy {Fs:List PL}(h:zfh (i2 Fs)):0<Fs.length/\Fs.length≤120/\(∀y∈Fs,y.1.length≤24/\y.2.length≤24)/\PoolOK Fs (zaz Fs)/\addB [] [] Fs=(Fs,zaz Fs,List.range Fs.length)/\zh7 [] [] Fs=Fs.length-1:=by
 obtain⟨h1,ho,hu,hk,hr⟩:=(zm4 Fs).1 h;have hn:=zga ho hk;have hf:=h1;unfold zdh at hf;rw[decide_eq_true_eq]at hf;have ha:=zpf Fs ho hu hn;refine⟨by omega,hf.1,hf.2.2,zg8 ho hu hn,ha,?_⟩;unfold zh7;rw[ha];show(List.range Fs.length).getD (Fs.length-1) 0=_
 rw[zhx,if_pos (by omega)]
theorem zp2 {Fi:List (List Int × List Int)}(h:zfh Fi):∃Fs,Fi=i2 Fs:=by
 obtain⟨Fs,e,_⟩:=ziv h.2.1;exact⟨Fs,e⟩
def thrI:Option Nat→Int
 | some z=>(z:Int)
 | none=>-1
end Go.Proofs.YtlapkmhemepcaaaGreatDoor
