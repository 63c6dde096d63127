import Derived.Test.YtlapkmhemepcaaaGreatDoorZmm
/- Lemmas. -/
namespace Go.Proofs.YtlapkmhemepcaaaGreatDoor
set_option linter.unusedVariables false
set_option linter.unusedSimpArgs false
open Go.RowKit
def IsNus (c a:Nat)(n:Int)(s:Nat):Prop:=valB a=true/\c=nusC a n s
def zmg (c:Nat):Prop:=∀a n s,¬IsNus c a n s
theorem IsNus.num {c a:Nat}{n:Int}{s:Nat}(h:IsNus c a n s):isNB a=true:=zd8 h.1
theorem IsNus.one {c a b:Nat}{n m:Int}{s t:Nat}(h:IsNus c a n s)(h':IsNus c b m t):a=b/\n=m/\s=t:=znh c a b n m s t h.num h'.num h.2 h'.2
theorem IsNus.self {c:Nat}(h:valB c=true):IsNus c c 0 0:=⟨h,rfl⟩
structure Sides (c:Nat) (A B:List Nat):Prop where
 l:∀x,hasL c x↔x∈A
 r:∀x,hasR c x↔x∈B
 nl:A.Nodup
 nr:B.Nodup
theorem zsz {A B:List Nat}(hA:A.Nodup)(hB:B.Nodup)(h:∀x,x∈A↔x∈B):A.length=B.length :=
 Nat.le_antisymm (hA.length_le_of_subset fun x hx=>(h x).1 hx) (hB.length_le_of_subset fun x hx=>(h x).2 hx)
theorem zi2 {a:Nat}(ha:isNB a=true)(s:Nat):((List.range s).map (nusC a 0)).Nodup:=by
 refine List.pairwise_map.2 (List.pairwise_lt_range.imp fun {i j} h e=>?_);have:=(znh _ a a 0 0 i j ha ha rfl e).2.2;omega
theorem zg9 {A:List Nat}{a:Nat}(hA:A.Nodup)(h:∀x,x∈A↔x=a):A.length=1:=by
 have:=zsz hA (show [a].Nodup by simp) (fun x=>(h x).trans (by simp));rw[this];rfl
theorem zsh {A:List Nat}{a b:Nat}(hA:A.Nodup)(hab:a≠b)(h:∀x,x∈A↔x=a∨x=b):A.length=2:=by
 have:=zsz hA (show [a,b].Nodup by simp[hab]) (fun x=>(h x).trans (by simp));rw[this];rfl
theorem zdf {c a s:Nat}{n:Int}{A B:List Nat}(S:Sides c A B)(h:IsNus c a n s)(hv:valB c=false) :
  (n=0/\0<s/\(∀x,x∈A↔∃k,k<s/\nusC a 0 k=x)/\(∀x,x∈B↔∃k,k<s/\nusC a 0 k=x)/\A.length=s/\B.length=s) ∨
  (0<n/\¬(n=1/\s=1)/\(∀x,x∈A↔x=a)/\(∀x,x∈B↔x=nusC a (n-1) (s ^^^ 1))/\A.length=1/\B.length=1/\nusC a (n-1) (s ^^^ 1)≠a) ∨
  (n=1/\s=1/\(∀x,x∈A↔x=a∨x=nusC a 0 1)/\(∀x,x∈B↔x=a)/\A.length=2/\B.length=1) ∨
  (n<0/\¬(n=-1/\s=1)/\(∀x,x∈A↔x=nusC a (n+1) (s ^^^ 1))/\(∀x,x∈B↔x=a)/\A.length=1/\B.length=1/\nusC a (n+1) (s ^^^ 1)≠a) ∨
  (n=-1/\s=1/\(∀x,x∈A↔x=a)/\(∀x,x∈B↔x=a∨x=nusC a 0 1)/\A.length=1/\B.length=2):=by
 have ha:=h.num;have hc:=h.2;have ne:∀ {m:Int}{t:Nat},¬(m=0/\t=0)→nusC a m t≠a:=fun {m t} q e=>by
  have:=zfq (a:=a) q;rw[e,ha]at this;cases this
 by_cases h0:n=0
 ·subst h0
  have hs:0<s:=Nat.pos_of_ne_zero fun q=>by
   subst q;rw[hc,zf5,h.1]at hv;cases hv
  obtain⟨hl,hr⟩:=zce (a:=a) hs;rw[←hc]at hl hr;have mA:∀x,x∈A↔∃k,k<s/\nusC a 0 k=x:=fun x=>(S.l x).symm.trans (hl x)
  have mB:∀x,x∈B↔∃k,k<s/\nusC a 0 k=x:=fun x=>(S.r x).symm.trans (hr x)
  have mem:∀x,x∈(List.range s).map (nusC a 0)↔∃k,k<s/\nusC a 0 k=x:=fun x=>by
   rw[List.mem_map];exact⟨fun⟨k,hk,e⟩=>⟨k,List.mem_range.1 hk,e⟩,fun⟨k,hk,e⟩=>⟨k,List.mem_range.2 hk,e⟩⟩
  have l1:=zsz S.nl (zi2 ha s) (fun x=>(mA x).trans (mem x).symm);have l2:=zsz S.nr (zi2 ha s) (fun x=>(mB x).trans (mem x).symm);rw[List.length_map,List.length_range]at l1 l2;exact .inl ⟨rfl,hs,mA,mB,l1,l2⟩
 ·by_cases hp:0<n
  ·by_cases h1:n=1/\s=1
   ·obtain⟨rfl,rfl⟩:=h1
    obtain⟨hl,hr⟩:=zbr a;rw[←hc]at hl hr;have mA:=fun x=>(S.l x).symm.trans (hl x)
    have mB:=fun x=>(S.r x).symm.trans (hr x)
    exact .inr (.inr (.inl ⟨rfl,rfl,mA,mB,zsh S.nl (ne (by omega)).symm mA,zg9 S.nr mB⟩))
   ·obtain⟨hl,hr⟩:=zf0 (a:=a) hp h1
    rw[←hc]at hl hr;have mA:=fun x=>(S.l x).symm.trans (hl x)
    have mB:=fun x=>(S.r x).symm.trans (hr x)
    exact .inr (.inl ⟨hp,h1,mA,mB,zg9 S.nl mA,zg9 S.nr mB,ne fun q=>h1 ⟨by omega,zen q.2⟩⟩)
  ·by_cases h1:n=-1/\s=1
   ·obtain⟨rfl,rfl⟩:=h1
    obtain⟨hl,hr⟩:=zbb a;rw[←hc]at hl hr;have mA:=fun x=>(S.l x).symm.trans (hl x)
    have mB:=fun x=>(S.r x).symm.trans (hr x)
    exact .inr (.inr (.inr (.inr ⟨rfl,rfl,mA,mB,zg9 S.nl mA,zsh S.nr (ne (by omega)).symm mB⟩)))
   ·obtain⟨hl,hr⟩:=zd4 (a:=a) (show n<0 by omega) h1
    rw[←hc]at hl hr;have mA:=fun x=>(S.l x).symm.trans (hl x)
    have mB:=fun x=>(S.r x).symm.trans (hr x)
    exact .inr (.inr (.inr (.inl ⟨by omega,h1,mA,mB,zg9 S.nl mA,zg9 S.nr mB,ne fun q=>h1 ⟨by omega,zen q.2⟩⟩)))
theorem zg0 {c d:Nat}{A B:List Nat}(S:Sides c A B)(hl:∀x,hasL d x↔x∈A)(hr:∀x,hasR d x↔x∈B):c=d :=
 zdt (fun x=>(S.l x).trans (hl x).symm) (fun x=>(S.r x).trans (hr x).symm)
theorem zng {c a s:Nat}{A B:List Nat}(S:Sides c A B)(ha:valB a=true)(hs:0<s)(hA:∀x,x∈A↔∃k,k<s/\nusC a 0 k=x)(hB:∀x,x∈B↔∃k,k<s/\nusC a 0 k=x):IsNus c a 0 s:=by
 obtain⟨hl,hr⟩:=zce (a:=a) hs;exact⟨ha,zg0 S (fun x=>(hl x).trans (hA x).symm) (fun x=>(hr x).trans (hB x).symm)⟩
theorem yb4 {c a s:Nat}{n:Int}{A B:List Nat}(S:Sides c A B)(ha:valB a=true)(hn:0≤n)(h1:¬(n=0/\s=0))(hA:∀x,x∈A↔x=a)(hB:∀x,x∈B↔x=nusC a n s):IsNus c a (n+1) (s ^^^ 1):=by
 obtain⟨hl,hr⟩:=zf0 (a:=a) (n:=n+1) (s:=s ^^^ 1) (by omega) (fun q=>h1 ⟨by omega,by rw[←xor1 s,q.2];rfl⟩);rw[show n+1-1=n from by omega,xor1]at hr;exact⟨ha,zg0 S (fun x=>(hl x).trans (hA x).symm) (fun x=>(hr x).trans (hB x).symm)⟩
theorem zsi {c a s:Nat}{n:Int}{A B:List Nat}(S:Sides c A B)(ha:valB a=true)(hn:n≤0)(h1:¬(n=0/\s=0))(hA:∀x,x∈A↔x=nusC a n s)(hB:∀x,x∈B↔x=a):IsNus c a (n-1) (s ^^^ 1):=by
 obtain⟨hl,hr⟩:=zd4 (a:=a) (n:=n-1) (s:=s ^^^ 1) (by omega) (fun q=>h1 ⟨by omega,by rw[←xor1 s,q.2];rfl⟩);rw[show n-1+1=n from by omega,xor1]at hl;exact⟨ha,zg0 S (fun x=>(hl x).trans (hA x).symm) (fun x=>(hr x).trans (hB x).symm)⟩
theorem zmu {c a:Nat}{A B:List Nat}(S:Sides c A B)(ha:valB a=true)(hA:∀x,x∈A↔x=a∨x=nusC a 0 1)(hB:∀x,x∈B↔x=a):IsNus c a 1 1:=by
 obtain⟨hl,hr⟩:=zbr a;exact⟨ha,zg0 S (fun x=>(hl x).trans (hA x).symm) (fun x=>(hr x).trans (hB x).symm)⟩
theorem zig {c a:Nat}{A B:List Nat}(S:Sides c A B)(ha:valB a=true)(hA:∀x,x∈A↔x=a)(hB:∀x,x∈B↔x=a∨x=nusC a 0 1):IsNus c a (-1) 1:=by
 obtain⟨hl,hr⟩:=zbb a;exact⟨ha,zg0 S (fun x=>(hl x).trans (hA x).symm) (fun x=>(hr x).trans (hB x).symm)⟩
def NusAt (c:Nat)(x:(Int × Nat) × Int × Nat):Prop:=∃a,IsNus c a x.2.1 x.2.2/\valD a=x.1
def SmallU (k:Nat)(x:(Int × Nat) × Int × Nat):Prop:=x.2.1.natAbs≤k/\x.2.2≤k
def Told (k c:Nat)(x:(Int × Nat) × Int × Nat)(ok:Bool):Prop:=(ok=true→NusAt c x/\SmallU k x)/\(ok=false→zmg c)
theorem zbp {a b:Nat}(ha:valB a=true)(hb:valB b=true)(h:valD a=valD b):a=b:=by
 have h1:=(zbz ha).1.2;have h2:=(zbz hb).1.2;rw[h1,h2,h]
theorem zkb (s:Nat):s ^^^ 1≤s+1:=by
 have h:(s ^^^ 1)/2=s/2:=by rw[Nat.xor_div_two];simp
 omega
theorem zhs (s:Nat)(h:s≤2000000):bits BinOp.xor IntKind.i64 (s:Int) 1=((s ^^^ 1:Nat):Int):=by
 have h1:=zkb s;show IntKind.i64.wrap (((BitVec.ofInt 64 (s:Int) ^^^ BitVec.ofInt 64 1).toNat:Nat):Int)=_
 rw[BitVec.toNat_xor,BitVec.toNat_ofInt,BitVec.toNat_ofInt];have e1:((s:Int)%((2^64:Nat):Int)).toNat=s:=by omega
 have e2:((1:Int)%((2^64:Nat):Int)).toNat=1:=by decide
 rw[e1,e2,IntKind.wrap_i64];omega
theorem NusAt.of {c a:Nat}{n:Int}{s:Nat}{x:(Int × Nat) × Int × Nat}(h:NusAt c x)(h':IsNus c a n s):x=(valD a,n,s):=by
 obtain⟨b,ib,db⟩:=h;obtain⟨e1,e2,e3⟩:=ib.one h';rw[←e1,←e2,←e3,db]
theorem znb {V:List PL}{C:List Nat}(B:BookC V C){x:Nat}(hx:x<V.length):Sides (C.getD x 0) (za1 C (za5 V x).1) (za1 C (za5 V x).2):=by
 obtain⟨oL,oR⟩:=zau B hx;obtain⟨u1,u2⟩:=B.up x _ (za6 hx);obtain⟨o1,o2⟩:=B.opts x _ (za6 hx);exact⟨fun z=>(oL z).trans mem_atAll.symm,fun z=>(oR z).trans mem_atAll.symm,zmd B.nodup u1 (fun y hy=>by have:=o1 y hy;have:=B.len;omega),zmd B.nodup u2 (fun y hy=>by have:=o2 y hy;have:=B.len;omega)⟩
def zae (L:List NX):NX:=L.getD 0 nx0
def zbs (L:List NX)(d:Int × Nat):Bool:=decide (0<L.length/\∀i,i<L.length→(true,d,(0:Int),i)∈L)
def zbn (L R:List NX):NX :=
 if L.length=0∨R.length=0∨(zae L).1=false∨(zae R).1=false∨(zae L).2.1≠(zae R).2.1 then nx0
 else if zbs L (zae L).2.1=false then nx0
 else if L.length=R.length/\zbs R (zae L).2.1=true then (true,(zae L).2.1,0,L.length)
 else if L.length=2/\R.length=1/\zae R=(true,(zae L).2.1,0,0)then (true,(zae L).2.1,1,1)
 else if L.length=1/\R.length=1/\0≤(zae R).2.2.1 then (true,(zae L).2.1,(zae R).2.2.1+1,(zae R).2.2.2 ^^^ 1)
 else nx0
def zu5 (g:Bool)(d:Int × Nat)(L R:List NX):NX :=
 if g=true then (true,d,0,0)
 else if (zbn L R).1=false/\(zbn (zbq R) (zbq L)).1=true then zh3 (zbn (zbq R) (zbq L))else zbn L R
open Classical in
noncomputable def nusX (c:Nat):NX:=if h:∃x:(Int × Nat) × Int × Nat,NusAt c x then (true,Classical.choose h)else nx0
theorem NusAt.same {c:Nat}{x y:(Int × Nat) × Int × Nat}(h:NusAt c x)(h':NusAt c y):x=y:=by
 obtain⟨a,ia,da⟩:=h';rw[h.of ia,da]
theorem zix {c:Nat}{x:(Int × Nat) × Int × Nat}(h:NusAt c x):nusX c=(true,x):=by
 have hx:∃x:(Int × Nat) × Int × Nat,NusAt c x:=⟨x,h⟩;unfold nusX;rw[dif_pos hx,(Classical.choose_spec hx).same h]
theorem zx3 {c:Nat}(h:zmg c):nusX c=nx0:=by
 unfold nusX;rw[dif_neg];rintro⟨x,a,ia,_⟩;exact h a _ _ ia
theorem znk (c:Nat):(∃x,NusAt c x/\nusX c=(true,x))∨(zmg c/\nusX c=nx0):=by
 by_cases h:∃x,NusAt c x
 ·obtain⟨x,hx⟩:=h
  exact .inl ⟨x,hx,zix hx⟩
 ·have hn:zmg c:=fun a n s q=>h ⟨(valD a,n,s),a,q,rfl⟩
  exact .inr ⟨hn,zx3 hn⟩
theorem zc8 {c a s:Nat}{n:Int}(h:IsNus c a n s):nusX c=(true,valD a,n,s):=zix ⟨a,h,rfl⟩
theorem zi1 {c:Nat}{x:(Int × Nat) × Int × Nat}(h:nusX c=(true,x)):NusAt c x:=by
 rcases znk c with ⟨y,hy,e⟩|⟨_,e⟩
 ·rw[h]at e
  cases e;exact hy
 ·rw[h]at e
  cases e
theorem zf1 (x:NX):zh3 (zh3 x)=x:=by
 obtain⟨a,⟨b,c⟩,d,e⟩:=x;simp[zh3]
theorem zov {L:List NX}{x:NX}:x∈zbq L↔zh3 x∈L:=by
 unfold zbq;rw[List.mem_map];constructor
 ·rintro⟨y,hy,rfl⟩
  rw[zf1];exact hy
 ·exact fun h=>⟨_,h,zf1 x⟩
theorem zbh (L:List NX):(zbq L).length=L.length:=List.length_map ..
theorem zg5 (L:List NX)(d:Int × Nat):zbs (zbq L) d=zbs L (-d.1,d.2):=by
 unfold zbs;rw[zbh];congr 1
 refine propext (and_congr_right fun _=>forall_congr' fun i=>imp_congr_right fun _=>?_);rw[zov];simp[zh3]
theorem zt9 {L:List NX}(h:L.length≠0):zae L∈L:=by
 cases L with
 | nil=>exact absurd rfl h
 | cons x L=>exact List.mem_cons_self ..
theorem zb7 (L:List NX):zae (zbq L)=zh3 (zae L):=by
 cases L with
 | nil=>rfl
 | cons x L=>rfl
theorem zh4 {A:List Nat}(hA:A.Nodup){d:Int × Nat}(h:zbs (A.map nusX) d=true):∃a,valB a=true/\valD a=d/\0<A.length/\∀x,x∈A↔∃k,k<A.length/\nusC a 0 k=x:=by
 obtain⟨h0,h1⟩:=of_decide_eq_true h;rw[List.length_map]at h0 h1;have get:∀i,i<A.length→∃e,e∈A/\NusAt e (d,0,i):=fun i hi=>by
  obtain⟨e,he,e1⟩:=List.mem_map.1 (h1 i hi);exact⟨e,he,zi1 e1⟩
 obtain⟨e0,_,a,ia,da⟩:=get 0 h0;have ha:=ia.1;have sub:∀k,k<A.length→nusC a 0 k∈A:=fun k hk=>by
  obtain⟨e,he,b,ib,db⟩:=get k hk;have hb:=zbp ib.1 ha (db.trans da.symm);have h2:=ib.2;rw[hb]at h2;rw[←h2];exact he
 refine⟨a,ha,da,h0,fun x=>⟨fun hx=>?_,fun⟨k,hk,e⟩=>e ▸ sub k hk⟩⟩;refine Classical.byContradiction fun hn=>?_
 have hnd:(x::(List.range A.length).map (nusC a 0)).Nodup:=List.nodup_cons.2 ⟨fun hm=>by
  obtain⟨k,hk,e⟩:=List.mem_map.1 hm;exact hn ⟨k,List.mem_range.1 hk,e⟩,zi2 (zd8 ha) _⟩
 have:=hnd.length_le_of_subset (l₂:=A) (fun y hy=>by
  rcases List.mem_cons.1 hy with e|hy
  ·rw[e];exact hx
  ·obtain⟨k,hk,e⟩:=List.mem_map.1 hy
   rw[←e];exact sub k (List.mem_range.1 hk))
 rw[List.length_cons,List.length_map,List.length_range]at this
 omega
theorem ze9 {A:List Nat}{a:Nat}(h0:0<A.length)(ha:valB a=true)(h:∀k,k<A.length→nusC a 0 k∈A):zbs (A.map nusX) (valD a)=true:=by
 refine decide_eq_true ⟨by rw[List.length_map];exact h0,fun i hi=>?_⟩;rw[List.length_map]at hi;exact List.mem_map.2 ⟨_,h i hi,zc8 ⟨ha,rfl⟩⟩
theorem zzn {L R:List NX}(h:(zbn L R).1=false):zbn L R=nx0:=by
 unfold zbn at h ⊢;split at h
 ·rename_i q;rw[if_pos q]
 ·rename_i q;rw[if_neg q]
  split at h
  ·rename_i q;rw[if_pos q]
  ·rename_i q;rw[if_neg q]
   split at h
   ·cases h
   ·rename_i q;rw[if_neg q]
    split at h
    ·cases h
    ·rename_i q;rw[if_neg q]
     split at h
     ·cases h
     ·rename_i q;rw[if_neg q]
theorem zot {L R:List NX}(h:(zbn L R).1=true):L.length≠0/\R.length≠0/\(zae L).1=true/\(zae R).1=true/\(zae L).2.1=(zae R).2.1/\zbs L (zae L).2.1=true ∧
  ((L.length=R.length/\zbs R (zae L).2.1=true/\zbn L R=(true,(zae L).2.1,0,L.length)) ∨
  (L.length=2/\R.length=1/\zae R=(true,(zae L).2.1,0,0)/\zbn L R=(true,(zae L).2.1,1,1)) ∨
  (¬(L.length=R.length/\zbs R (zae L).2.1=true)/\L.length=1/\R.length=1/\0≤(zae R).2.2.1/\zbn L R=(true,(zae L).2.1,(zae R).2.2.1+1,(zae R).2.2.2 ^^^ 1))):=by
 unfold zbn at h ⊢;split at h
 ·cases h
 ·rename_i q1
  rw[if_neg q1];have p1:L.length≠0:=fun e=>q1 (.inl e)
  have p2:R.length≠0:=fun e=>q1 (.inr (.inl e))
  have p3:(zae L).1=true:=eq_true_of_ne_false fun e=>q1 (.inr (.inr (.inl e)))
  have p4:(zae R).1=true:=eq_true_of_ne_false fun e=>q1 (.inr (.inr (.inr (.inl e))))
  have p5:(zae L).2.1=(zae R).2.1:=Classical.byContradiction fun e=>q1 (.inr (.inr (.inr (.inr e))))
  split at h
  ·cases h
  ·rename_i q2
   rw[if_neg q2];refine⟨p1,p2,p3,p4,p5,eq_true_of_ne_false q2,?_⟩;split at h
   ·rename_i q3
    rw[if_pos q3];exact .inl ⟨q3.1,q3.2,rfl⟩
   ·rename_i q3
    rw[if_neg q3];split at h
    ·rename_i q4
     rw[if_pos q4];exact .inr (.inl ⟨q4.1,q4.2.1,q4.2.2,rfl⟩)
    ·rename_i q4
     rw[if_neg q4];split at h
     ·rename_i q5
      rw[if_pos q5];exact .inr (.inr ⟨q3,q5.1,q5.2.1,q5.2.2,rfl⟩)
     ·cases h
section
variable {c:Nat}{A B:List Nat}
theorem zh2 {a:Nat}{x:Nat}:(∃k,k<2/\nusC a 0 k=x)↔x=a∨x=nusC a 0 1:=by
 constructor
 ·rintro⟨k,hk,e⟩
  rcases (show k=0∨k=1 by omega)with rfl|rfl
  ·exact .inl e.symm
  ·exact .inr e.symm
 ·rintro(e|e)
  ·exact⟨0,by omega,e.symm⟩
  ·exact⟨1,by omega,e.symm⟩
theorem zop {a:Nat}{x:Nat}:(∃k,k<1/\nusC a 0 k=x)↔x=a:=by
 constructor
 ·rintro⟨k,hk,e⟩
  obtain rfl:k=0:=by omega
  exact e.symm
 ·exact fun e=>⟨0,by omega,e.symm⟩
theorem zh9 {A:List Nat}(h:A.length=1):∃e,A=[e]:=by
 match A,h with
 | [e],_=>exact⟨e,rfl⟩
theorem yby (S:Sides c A B)(h:(zbn (A.map nusX) (B.map nusX)).1=true):NusAt c (zbn (A.map nusX) (B.map nusX)).2:=by
 obtain⟨p1,p2,p3,p4,p5,p6,h'⟩:=zot h;obtain⟨a,ha,da,h0,hA⟩:=zh4 S.nl p6;rw[←da]at h' p5;rcases h' with ⟨e1,e2,e⟩|⟨e1,e2,e3,e⟩|⟨e0,e1,e2,e3,e⟩
 ·rw[e]
  obtain⟨b,hb,db,_,hB⟩:=zh4 S.nr e2;rw[zbp hb ha db]at hB;rw[List.length_map,List.length_map]at e1;rw[←e1]at hB;rw[List.length_map];exact⟨a,zng S ha h0 hA hB,rfl⟩
 ·rw[e]
  rw[List.length_map]at e1 e2;obtain⟨r,rfl⟩:=zh9 e2;rw[e1]at hA;obtain⟨b,ib,db⟩:=zi1 (show nusX r=(true,valD a,0,0)from e3);have er:=ib.2;rw[zbp ib.1 ha db]at er;exact⟨a,zmu S ha (fun x=>(hA x).trans zh2) (fun x=>by rw[List.mem_singleton,er];rfl),rfl⟩
 ·rw[e]
  rw[List.length_map]at e1 e2;obtain⟨r,rfl⟩:=zh9 e2;rw[e1]at hA;have hr:zae ([r].map nusX)=nusX r:=rfl;rw[hr]at e3 p4 p5 ⊢;obtain⟨b,ib,db⟩:=zi1 (show nusX r=(true,(nusX r).2)from Prod.ext p4 rfl);have eb:=zbp ib.1 ha (db.trans p5.symm);rw[eb]at ib;have er:=ib.2;refine⟨a,yb4 S ha e3 (fun q=>e0 ⟨by rw[List.length_map,List.length_map,e1];rfl,ze9 (by simp) ha fun k hk=>?_⟩) (fun x=>(hA x).trans zop) (fun x=>List.mem_singleton.trans ⟨fun h=>h.trans er,fun h=>h.trans er.symm⟩),rfl⟩;have hk:k=0:=by simp at hk;exact hk
  rw[hk,List.mem_singleton];rw[q.1,q.2]at er;exact er.symm
theorem ybb (S:Sides c A B)(h:(zbn (zbq (B.map nusX)) (zbq (A.map nusX))).1=true):NusAt c (zh3 (zbn (zbq (B.map nusX)) (zbq (A.map nusX)))).2:=by
 obtain⟨p1,p2,p3,p4,p5,p6,h'⟩:=zot h;obtain⟨d,hd⟩:∃d,d=(zae (zbq (B.map nusX))).2.1:=⟨_,rfl⟩;rw[←hd]at h' p5 p6;rw[zg5]at p6;obtain⟨a,ha,da,h0,hB⟩:=zh4 S.nr p6;rw[zbh,zbh,List.length_map,List.length_map,zb7 (A.map nusX),zg5]at h';rcases h' with ⟨e1,e2,e⟩|⟨e1,e2,e3,e⟩|⟨e0,e1,e2,e3,e⟩
 ·rw[e]
  obtain⟨b,hb,db,_,hA⟩:=zh4 S.nl e2;rw[zbp hb ha (db.trans da.symm),←e1]at hA;exact⟨a,zng S ha h0 hA hB,da⟩
 ·rw[e]
  obtain⟨l,rfl⟩:=zh9 e2;rw[e1]at hB;have hl:zae ([l].map nusX)=nusX l:=rfl;rw[hl]at e3;have e4:nusX l=(true,(-d.1,d.2),0,0):=by rw[←zf1 (nusX l),e3];simp[zh3]
  obtain⟨b,ib,db⟩:=zi1 e4;have el:=ib.2;rw[zbp ib.1 ha (db.trans da.symm)]at el;exact⟨a,zig S ha (fun x=>by rw[List.mem_singleton,el];rfl) (fun x=>(hB x).trans zh2),da⟩
 ·rw[e]
  obtain⟨l,rfl⟩:=zh9 e2;rw[e1]at hB;have hl:zae ([l].map nusX)=nusX l:=rfl;rw[hl]at e3 ⊢;rw[zb7,hl]at p4 p5;have p4':(nusX l).1=true:=p4;obtain⟨b,ib,db⟩:=zi1 (show nusX l=(true,(nusX l).2)from Prod.ext p4' rfl);have p5':d=(-(nusX l).2.1.1,(nusX l).2.1.2):=p5;have eb:=zbp ib.1 ha (db.trans (by rw[da,p5'];simp));rw[eb]at ib;have el:=ib.2;have e3':0≤-(nusX l).2.2.1:=e3;have hn:=zsi S ha (show(nusX l).2.2.1≤0 by omega) (fun(q:(nusX l).2.2.1=0/\(nusX l).2.2.2=0)=>e0 ⟨by rw[e1];rfl,by
   rw[←da];refine ze9 (by simp) ha fun k hk=>?_
   have hk:k=0:=by simp at hk;exact hk
   rw[hk,List.mem_singleton];rw[q.1,q.2]at el;exact el.symm⟩) (fun x=>List.mem_singleton.trans ⟨fun h=>h.trans el,fun h=>h.trans el.symm⟩) (fun x=>(hB x).trans zop)
  refine⟨a,?_,da⟩;show IsNus c a (-(-(nusX l).2.2.1+1)) _
  rw[show -(-(nusX l).2.2.1+1)=(nusX l).2.2.1-1 by omega];exact hn
theorem zft {L R:List NX}(h1:L.length≠0)(h2:R.length≠0)(h3:(zae L).1=true)(h4:(zae R).1=true)(h5:(zae L).2.1=(zae R).2.1)(h6:zbs L (zae L).2.1=true)
  (h:(L.length=R.length/\zbs R (zae L).2.1=true)∨(L.length=2/\R.length=1/\zae R=(true,(zae L).2.1,0,0))∨(L.length=1/\R.length=1/\0≤(zae R).2.2.1)):(zbn L R).1=true:=by
 unfold zbn;rw[if_neg (by
  rintro(e|e|e|e|e)
  ·exact h1 e
  ·exact h2 e
  ·rw[h3]at e;cases e
  ·rw[h4]at e;cases e
  ·exact e h5),if_neg (by rw[h6];decide)]
 by_cases q3:L.length=R.length/\zbs R (zae L).2.1=true
 ·rw[if_pos q3]
 ·rw[if_neg q3]
  by_cases q4:L.length=2/\R.length=1/\zae R=(true,(zae L).2.1,0,0)
  ·rw[if_pos q4]
  ·rw[if_neg q4]
   rcases h with h|h|h
   ·exact absurd h q3
   ·exact absurd h q4
   ·rw[if_pos h]
theorem zhi {A:List Nat}{a:Nat}(ha:valB a=true)(h0:A.length≠0)(h:∀x,x∈A→∃k,nusC a 0 k=x):(zae (A.map nusX)).1=true/\(zae (A.map nusX)).2.1=valD a:=by
 obtain⟨e,he,e1⟩:=List.mem_map.1 (zt9 (L:=A.map nusX) (by rw[List.length_map];exact h0));obtain⟨k,hk⟩:=h e he;rw[←e1,zc8 ⟨ha,hk.symm⟩];exact⟨rfl,rfl⟩
theorem zzm (S:Sides c A B)(hv:valB c=false){a s:Nat}{n:Int}(q:IsNus c a n s):(zbn (A.map nusX) (B.map nusX)).1=true∨(zbn (zbq (B.map nusX)) (zbq (A.map nusX))).1=true:=by
 have ha:=q.1;have one:∀ {e:Nat}{L:List Nat},L.length=1→(∀x,x∈L↔x=e)→L=[e]:=fun {e L} hl hm=>by
  obtain⟨r,rfl⟩:=zh9 hl;rw[(hm r).1 (by simp)]
 rcases zdf S q hv with h'|h'|h'|h'|h'
 ·obtain⟨_,hs,m1,m2,l1,l2⟩:=h'
  have hA:=zhi (A:=A) ha (by omega) (fun x hx=>let ⟨k,_,e⟩:=(m1 x).1 hx;⟨k,e⟩);have hB:=zhi (A:=B) ha (by omega) (fun x hx=>let ⟨k,_,e⟩:=(m2 x).1 hx;⟨k,e⟩);have sA:=ze9 (A:=A) (by omega) ha (fun k hk=>(m1 _).2 ⟨k,by omega,rfl⟩);have sB:=ze9 (A:=B) (by omega) ha (fun k hk=>(m2 _).2 ⟨k,by omega,rfl⟩);refine .inl (zft (by rw[List.length_map];omega) (by rw[List.length_map];omega) hA.1 hB.1 (hA.2.trans hB.2.symm) (by rw[hA.2];exact sA) (.inl ⟨by rw[List.length_map,List.length_map];omega,by rw[hA.2];exact sB⟩))
 ·obtain⟨hn,_,m1,m2,l1,l2,_⟩:=h'
  obtain rfl:=one l1 m1;obtain rfl:=one l2 m2;have e1:zae ([a].map nusX)=(true,valD a,0,0):=zc8 (IsNus.self ha);have e2:zae ([nusC a (n-1) (s ^^^ 1)].map nusX)=(true,valD a,n-1,s ^^^ 1):=zc8 ⟨ha,rfl⟩;refine .inl (zft (by simp) (by simp) (by rw[e1]) (by rw[e2]) (by rw[e1,e2]) ?_ (.inr (.inr ⟨rfl,rfl,by rw[e2];show 0≤n-1;omega⟩)));rw[e1];exact ze9 (by simp) ha fun k hk=>by
   have hk:k=0:=by simp at hk;exact hk
   rw[hk,List.mem_singleton];rfl
 ·obtain⟨_,_,m1,m2,l1,l2⟩:=h'
  obtain rfl:=one l2 m2;have hA:=zhi (A:=A) ha (by omega) (fun x hx=>((m1 x).1 hx).elim (fun e=>⟨0,e.symm⟩) (fun e=>⟨1,e.symm⟩));have e2:zae ([a].map nusX)=(true,valD a,0,0):=zc8 (IsNus.self ha);have sA:=ze9 (A:=A) (by omega) ha (fun k hk=>(m1 _).2 (zh2.1 ⟨k,by omega,rfl⟩));exact .inl (zft (by rw[List.length_map];omega) (by simp) hA.1 (by rw[e2]) (by rw[e2,hA.2]) (by rw[hA.2];exact sA) (.inr (.inl ⟨by rw[List.length_map];exact l1,rfl,by rw[e2,hA.2]⟩)))
 ·obtain⟨hn,_,m1,m2,l1,l2,_⟩:=h'
  obtain rfl:=one l1 m1;obtain rfl:=one l2 m2;have e1:zae ([a].map nusX)=(true,valD a,0,0):=zc8 (IsNus.self ha);have e2:zae ([nusC a (n+1) (s ^^^ 1)].map nusX)=(true,valD a,n+1,s ^^^ 1):=zc8 ⟨ha,rfl⟩;refine .inr (zft (by simp[zbq]) (by simp[zbq]) (by rw[zb7,e1];rfl) (by rw[zb7,e2];rfl) (by rw[zb7,zb7,e1,e2];rfl) ?_ (.inr (.inr ⟨rfl,rfl,by rw[zb7,e2];show 0≤-(n+1);omega⟩)));rw[zb7,e1,zg5];show zbs _ (- -(valD a).1,(valD a).2)=true
  rw[Int.neg_neg];exact ze9 (by simp) ha fun k hk=>by
   have hk:k=0:=by simp at hk;exact hk
   rw[hk,List.mem_singleton];rfl
 ·obtain⟨_,_,m1,m2,l1,l2⟩:=h'
  obtain rfl:=one l1 m1;have hB:=zhi (A:=B) ha (by omega) (fun x hx=>((m2 x).1 hx).elim (fun e=>⟨0,e.symm⟩) (fun e=>⟨1,e.symm⟩));have e1:zae ([a].map nusX)=(true,valD a,0,0):=zc8 (IsNus.self ha);have sB:=ze9 (A:=B) (by omega) ha (fun k hk=>(m2 _).2 (zh2.1 ⟨k,by omega,rfl⟩));have et:(zh3 (zae (B.map nusX))).2.1=(-(valD a).1,(valD a).2):=by rw[←hB.2];rfl
  refine .inr (zft (by rw[zbh,List.length_map];omega) (by simp[zbq]) (by rw[zb7];exact hB.1) (by rw[zb7,e1];rfl) (by rw[zb7,zb7,e1,et];rfl) ?_ (.inr (.inl ⟨by rw[zbh,List.length_map];exact l2,rfl,?_⟩)))
  ·rw[zb7,et,zg5]
   show zbs _ (- -(valD a).1,(valD a).2)=true
   rw[Int.neg_neg];exact sB
  ·rw[zb7,zb7,et,e1];rfl
theorem zyr (S:Sides c A B):zu5 (valB c) (valD c) (A.map nusX) (B.map nusX)=nusX c:=by
 unfold zu5;cases hv:valB c with
 | true=>rw[if_pos rfl,zc8 (IsNus.self hv)]
 | false =>
  rw[if_neg (by decide)];by_cases h1:(zbn (A.map nusX) (B.map nusX)).1=true
  ·rw[if_neg (by rw[h1];rintro⟨e,_⟩;cases e),zix (yby S h1)]
   exact Prod.ext h1 rfl
  ·have h1':=eq_false_of_ne_true h1
   by_cases h2:(zbn (zbq (B.map nusX)) (zbq (A.map nusX))).1=true
   ·rw[if_pos ⟨h1',h2⟩,zix (ybb S h2)]
    exact Prod.ext h2 rfl
   ·rw[if_neg (fun q=>h2 q.2),zzn h1',zx3]
    exact fun a n s q=>(zzm S hv q).elim h1 h2
end
theorem zx2 {V:List PL}{C:List Nat}(B:BookC V C):∀j,j<V.length→SmallU j (nusX (C.getD j 0)).2:=by
 intro j;induction j using Nat.strongRecOn with
 | _ j ih =>
  intro hj;rcases znk (C.getD j 0)with ⟨x,⟨a,ia,da⟩,e⟩|⟨_,e⟩
  ·rw[zc8 ia]
   cases hv:valB (C.getD j 0)with
   | true =>
    obtain⟨_,e1,e2⟩:=ia.one (IsNus.self hv);show(x.2.1).natAbs≤j/\x.2.2≤j
    rw[e1,e2];exact⟨Nat.zero_le _,Nat.zero_le _⟩
   | false =>
    have S:=znb B hj;obtain⟨u1,u2⟩:=B.up j _ (za6 hj);obtain⟨o1,o2⟩:=B.opts j _ (za6 hj);have few:∀L:List Nat,L.Pairwise (· < ·)→(∀i∈L,i<j)→(za1 C L).length≤j:=fun L hu ho=>by
     have hd:L.Nodup:=hu.imp (fun h=>Nat.ne_of_lt h);have h1:=List.Nodup.length_le_of_subset (l₂:=List.range j) hd (fun i hi=>List.mem_range.2 (ho i hi));rw[List.length_range]at h1;rw[show(za1 C L).length=L.length from List.length_map ..];exact h1
    have f1:=few _ u1 o1;have f2:=few _ u2 o2;have low:∀(L:List Nat) (y:Nat),(∀i∈L,i<j)→y∈za1 C L→∃i,i<j/\C.getD i 0=y:=fun L y ho hy=>by
     obtain⟨i,hi,e⟩:=mem_atAll.1 hy;exact⟨i,ho i hi,e⟩
    show(x.2.1).natAbs≤j/\x.2.2≤j
    rcases zdf S ia hv with h'|h'|h'|h'|h'
    ·obtain⟨e1,_,_,_,l1,_⟩:=h'
     rw[e1];exact⟨Nat.zero_le _,by omega⟩
    ·obtain⟨hn,_,_,m2,_,_,_⟩:=h'
     obtain⟨i,hi,e2⟩:=low _ _ o2 ((m2 _).2 rfl);have h3:=ih i hi (by omega);rw[zc8 (show IsNus (C.getD i 0) a _ _ from⟨ia.1,e2⟩)]at h3;have h4:(x.2.1-1).natAbs≤i/\x.2.2 ^^^ 1≤i:=h3;have h5:=zkb (x.2.2 ^^^ 1);rw[xor1]at h5;omega
    ·obtain⟨e1,e2,_,_,l1,_⟩:=h'
     rw[e1,e2];omega
    ·obtain⟨hn,_,m1,_,_,_,_⟩:=h'
     obtain⟨i,hi,e2⟩:=low _ _ o1 ((m1 _).2 rfl);have h3:=ih i hi (by omega);rw[zc8 (show IsNus (C.getD i 0) a _ _ from⟨ia.1,e2⟩)]at h3;have h4:(x.2.1+1).natAbs≤i/\x.2.2 ^^^ 1≤i:=h3;have h5:=zkb (x.2.2 ^^^ 1);rw[xor1]at h5;omega
    ·obtain⟨e1,e2,_,_,_,l2⟩:=h'
     rw[e1,e2];omega
  ·rw[e];exact⟨Nat.zero_le _,Nat.zero_le _⟩
theorem yd5 (c:Nat):(nusX c).2.1.1.natAbs≤1000000/\(nusX c).2.1.2≤16:=by
 rcases znk c with ⟨x,⟨a,ia,da⟩,e⟩|⟨_,e⟩
 ·rw[zc8 ia]
  have h:=(zbz ia.1).2;obtain⟨h1,h2,_⟩:=h;show(valD a).1.natAbs≤_/\(valD a).2≤_
  omega
 ·rw[e];exact⟨by decide,by decide⟩
noncomputable def allX (C:List Nat)(k:Nat):List NX:=(List.range k).map fun j=>nusX (C.getD j 0)
theorem zo7 (C:List Nat)(k:Nat):(allX C k).length=k:=by unfold allX;rw[List.length_map,List.length_range]
theorem ztn (C:List Nat){k j:Nat}(h:j<k):(allX C k)[j]?=some (nusX (C.getD j 0)):=by unfold allX;rw[List.getElem?_map,List.getElem?_range h];rfl
theorem zyc (C:List Nat)(k:Nat):allX C (k+1)=allX C k ++ [nusX (C.getD k 0)]:=by unfold allX;rw[List.range_succ,List.map_append];rfl
theorem zme (C:List Nat)(k:Nat)(L:List Nat)(h:∀x∈L,x<k):zfi (allX C k) L=(za1 C L).map nusX:=by
 unfold zfi za1;rw[List.map_map];refine List.map_congr_left fun x hx=>?_
 rw[List.getD_eq_getElem?_getD,ztn C (h x hx)];rfl
theorem ybc {V:List PL}{C:List Nat}(B:BookC V C){k:Nat}(hk:k<V.length):zu5 (valB (C.getD k 0)) (valD (C.getD k 0)) (zfi (allX C k) (za5 V k).1) (zfi (allX C k) (za5 V k).2)=nusX (C.getD k 0):=by
 obtain⟨o1,o2⟩:=B.opts k _ (za6 hk);rw[zme C k _ o1,zme C k _ o2];exact zyr (znb B hk)
end Go.Proofs.YtlapkmhemepcaaaGreatDoor
