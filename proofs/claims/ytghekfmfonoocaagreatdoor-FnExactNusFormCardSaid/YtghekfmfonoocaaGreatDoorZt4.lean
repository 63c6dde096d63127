import Derived.Test.YtghekfmfonoocaaGreatDoorZtk
import Derived.Test.YtghekfmfonoocaaGreatDoorShelfS
/- Lemmas. -/
namespace Go.Proofs.YtghekfmfonoocaaGreatDoor
set_option linter.unusedVariables false
set_option linter.unusedSimpArgs false
open Go.RowKit
abbrev PL:=List Nat × List Nat
def posA (LL:List PL)(x:PL):Nat:=(LL.takeWhile fun y=>zan y x).length
def keyF (A:List Nat)(y:PL):PL:=(zaf (za1 A y.1),zaf (za1 A y.2))
def insF (s:List PL × List Nat)(x:PL)(k:Nat):List PL × List Nat :=
 (s.1.take (posA s.1 x)++x::s.1.drop (posA s.1 x),s.2.take (posA s.1 x)++k::s.2.drop (posA s.1 x))
def zfc (NL:List PL)(BL:List Nat)(need:List Bool)(A:List Nat)(born:Nat)(s:List PL × List Nat)(k:Nat):List PL × List Nat :=
 if need.getD k false=true/\BL.getD k 0=born then insF s (keyF A (NL.getD k ([],[]))) k else s
def zdv (NL:List PL)(BL:List Nat)(need:List Bool)(A:List Nat)(born n:Nat):List PL × List Nat:=(List.range n).foldl (zfc NL BL need A born) ([],[])
def layF (s:List Nat × List PL)(p:PL × Nat):List Nat × List PL:=(s.1.set p.2 s.2.length,s.2 ++ [p.1])
def yaa (NL:List PL)(BL:List Nat)(need:List Bool)(root:Nat)(s:List Nat × List PL)(born:Nat):List Nat × List PL :=
 (List.zip (zdv NL BL need s.1 born (root+1)).1 (zdv NL BL need s.1 born (root+1)).2).foldl layF s
def zay (NL:List PL)(BL:List Nat)(need:List Bool)(root n:Nat):List Nat × List PL:=(List.range n).foldl (yaa NL BL need root) (List.replicate (root+1) 0,[])
def zd3 (NL:List PL)(BL:List Nat)(root:Nat):List PL:=(zay NL BL (zap NL root) root (BL.getD root 0+1)).2
theorem zf2 (NL:List PL)(BL:List Nat)(need:List Bool)(A:List Nat)(born n:Nat):zdv NL BL need A born (n+1)=zfc NL BL need A born (zdv NL BL need A born n) n:=by simp[zdv,List.range_succ]
theorem zh7 (NL:List PL)(BL:List Nat)(need:List Bool)(root n:Nat):zay NL BL need root (n+1)=yaa NL BL need root (zay NL BL need root n) n:=by simp[zay,List.range_succ]
theorem zfn (NL:List PL)(m:List Bool)(k:Nat):(zct NL m k).length=m.length:=by
 unfold zct;split
 ·rw[zb5,zb5]
 ·rfl
theorem zfp (NL:List PL)(n:Nat)(m:List Bool):(zc9 NL n m).length=m.length:=by
 induction n generalizing m with
 | zero=>rfl
 | succ n ih=>unfold zc9;rw[ih,zfn]
theorem zhf (NL:List PL)(root:Nat):(zap NL root).length=root+1:=by unfold zap;rw[zfp];simp
theorem ydk (LL:List PL)(x:PL):posA LL x≤LL.length:=(List.takeWhile_sublist _).length_le
theorem ydm (LL:List PL)(x:PL)(k:Nat)(hk:k≤LL.length)(hb:∀j y,j<k→LL[j]?=some y→zan y x=true)(he:∀y,LL[k]?=some y→zan y x=false):posA LL x=k:=by
 induction LL generalizing k with
 | nil=>simp at hk;subst hk;rfl
 | cons a l ih =>
  cases k with
  | zero=>have:=he a rfl;simp[posA,List.takeWhile_cons,this]
  | succ k =>
   have h0:=hb 0 a (by omega) rfl;have:=ih k (by simpa using hk) (fun j y hj hy=>hb (j+1) y (by omega) (by simpa using hy)) (fun y hy=>he y (by simpa using hy));simp only[posA,List.takeWhile_cons,h0,if_true,List.length_cons]at this ⊢
   omega
theorem zsn (s:List PL × List Nat)(x:PL)(k:Nat)(h:s.1.length=s.2.length):(insF s x k).1.length=s.1.length+1/\(insF s x k).2.length=s.2.length+1:=by
 have:=ydk s.1 x;simp only[insF,List.length_append,List.length_take,List.length_cons,List.length_drop];omega
theorem zfx (NL:List PL)(BL:List Nat)(need:List Bool)(A:List Nat)(born n:Nat):(zdv NL BL need A born n).1.length=(zdv NL BL need A born n).2.length/\(zdv NL BL need A born n).1.length≤n:=by
 induction n with
 | zero=>simp[zdv]
 | succ n ih =>
  rw[zf2];unfold zfc;split
  ·have:=zsn _ (keyF A (NL.getD n ([],[]))) n ih.1
   omega
  ·omega
theorem ybt (s:List PL × List Nat)(x:PL)(k y:Nat):y∈(insF s x k).2↔y∈s.2∨y=k:=by
 simp only[insF,List.mem_append,List.mem_cons];constructor
 ·rintro(h|h|h)
  ·exact .inl (List.mem_of_mem_take h)
  ·exact .inr h
  ·exact .inl (List.mem_of_mem_drop h)
 ·rintro(h|h)
  ·rw[←List.take_append_drop (posA s.1 x) s.2,List.mem_append]at h
   rcases h with h|h
   ·exact .inl h
   ·exact .inr (.inr h)
  ·exact .inr (.inl h)
theorem zts (NL:List PL)(BL:List Nat)(need:List Bool)(A:List Nat)(born n:Nat):∀y∈(zdv NL BL need A born n).2,y<n:=by
 induction n with
 | zero=>simp[zdv]
 | succ n ih =>
  rw[zf2];unfold zfc;intro y hy;split at hy
  ·rcases (ybt _ _ _ _).1 hy with h|h
   ·have:=ih y h;omega
   ·omega
  ·have:=ih y hy;omega
theorem zd8 (l:List (PL × Nat))(s:List Nat × List PL):(l.foldl layF s).1.length=s.1.length/\(l.foldl layF s).2.length=s.2.length+l.length:=by
 induction l generalizing s with
 | nil=>simp
 | cons x l ih =>
  rw[List.foldl_cons];have:=ih (layF s x);simp only[layF,List.length_set,List.length_append,List.length_cons,List.length_nil]at this ⊢
  omega
theorem zd0 (NL:List PL)(BL:List Nat)(need:List Bool)(root n:Nat):(zay NL BL need root n).1.length=root+1/\(zay NL BL need root n).2.length≤n*(root+1):=by
 induction n with
 | zero=>simp[zay]
 | succ n ih =>
  rw[zh7];unfold yaa;have h:=zd8 (List.zip (zdv NL BL need (zay NL BL need root n).1 n (root+1)).1 (zdv NL BL need (zay NL BL need root n).1 n (root+1)).2) (zay NL BL need root n);have h2:=zfx NL BL need (zay NL BL need root n).1 n (root+1);rw[List.length_zip]at h;rw[Nat.succ_mul];omega
def NodeRow (T:Nat→Prop) (base:Nat) (w:World) (v:Value) (LL:List PL):Prop :=
  ∃ NV : List (Value × Value), w.ownsRow base 85 2 v NV.length (zb8 NV) ∧ NV.length = LL.length ∧
    ∀ (j:Nat) (x:Value × Value) (y:PL),NV[j]?=some x→LL[j]?=some y→Nats w x.1 y.1∧Nats w x.2 y.2∧(y.1≠[]→∀ q,x.1.ownBlock=some q→T q)∧(y.2≠[]→∀ q,x.2.ownBlock=some q→T q)
section
variable {T:Nat→Prop}{base:Nat}{w w':World}{v:Value}{LL:List PL}
theorem NodeRow.fr {M:Nat→Prop}(h:NodeRow T base w v LL)(hf:Fr M w w')(hv:∀b,v.ownBlock=some b→¬M b)(hT:∀b,T b→¬M b):NodeRow T base w' v LL:=by
 obtain⟨NV,h1,h2,h3⟩:=h;refine⟨NV,za3 h1 hf hv,h2,fun j x y hx hy=>?_⟩;obtain⟨s1,s2,t1,t2⟩:=h3 j x y hx hy;exact⟨s1.fr hf (fun hne q hq=>hT q (t1 hne q hq)),s2.fr hf (fun hne q hq=>hT q (t2 hne q hq)),t1,t2⟩
theorem NodeRow.fr0 (h:NodeRow T base w v LL)(hf:Fr NoM w w'):NodeRow T base w' v LL:=h.fr hf (fun _ _ q=>q) (fun _ _ q=>q)
theorem NodeRow.mono {T':Nat→Prop}(h:NodeRow T base w v LL)(ht:∀b,T b→b<w.heap.size→T' b):NodeRow T' base w v LL:=by
 obtain⟨NV,h1,h2,h3⟩:=h;refine⟨NV,h1,h2,fun j x y hx hy=>?_⟩;obtain⟨s1,s2,t1,t2⟩:=h3 j x y hx hy;refine⟨s1,s2,fun hne q hq=>ht q (t1 hne q hq) ?_,fun hne q hq=>ht q (t2 hne q hq) ?_⟩
 ·obtain⟨b,hb,hl⟩:=s1.block hne;rw[hq]at hb;cases hb;exact hl
 ·obtain⟨b,hb,hl⟩:=s2.block hne;rw[hq]at hb;cases hb;exact hl
theorem NodeRow.nodeL {R:Nat→Prop}(h:NodeRow T base w v LL)(hR:∀b,base≤b→R b)(hT:∀b,T b→R b):NodeL R encN w v LL:=by
 obtain⟨NV,h1,h2,h3⟩:=h;have hb:=fun b hb=>(h1.lt b hb).1
 obtain⟨a,c,rfl,h4,h5,h6⟩:=Pairs.of_owns h1;rw[h2]at h4 hb ⊢;refine⟨a,c,rfl,h4,h5,fun j y hy=>?_⟩;have hj:=(List.getElem?_eq_some_iff.1 hy).1;obtain⟨x,hx⟩:∃x,NV[j]?=some x:=⟨NV[j]'(by rw[h2];exact hj),List.getElem?_eq_getElem _⟩;obtain⟨b,off,rfl,c1,c2⟩:=h6 j x hx;obtain⟨s1,s2,t1,t2⟩:=h3 j x y hx hy;exact⟨b,off,x.1,x.2,rfl,hR b (hb b rfl),c1,c2,s1,s2,fun hne q hq=>hT q (t1 hne q hq),fun hne q hq=>hT q (t2 hne q hq)⟩
def NodeOwn (D:Nat)(w:World)(v:Value)(LL:List PL):Prop:=∃(T:Nat→Prop) (base:Nat),NodeRow T base w v LL/\D≤base/\(∀q,T q→D≤q)/\∀q,v.ownBlock=some q→¬T q
theorem NodeOwn.nodeL {D:Nat}(h:NodeOwn D w v LL):NodeL (fun b=>D≤b) encN w v LL:=by
 obtain⟨T,base,h1,h2,h3,_⟩:=h;exact h1.nodeL (fun b hb=>Nat.le_trans h2 hb) h3
theorem NodeOwn.fr {M:Nat→Prop}{D:Nat}(h:NodeOwn D w v LL)(hf:Fr M w w')(hM:∀q,D≤q→¬M q):NodeOwn D w' v LL:=by
 obtain⟨T,base,h1,h2,h3,h4⟩:=h;have hb:∀b,v.ownBlock=some b→base≤b:=by
  obtain⟨NV,o,_⟩:=h1;exact fun b hb=>(o.lt b hb).1
 exact⟨T,base,h1.fr hf (fun b e=>hM b (Nat.le_trans h2 (hb b e))) (fun b e=>hM b (h3 b e)),h2,h3,h4⟩
theorem NodeOwn.mono {D D':Nat}(h:NodeOwn D w v LL)(hD:D'≤D):NodeOwn D' w v LL:=by
 obtain⟨T,base,h1,h2,h3,h4⟩:=h;exact⟨T,base,h1,Nat.le_trans hD h2,fun q hq=>Nat.le_trans hD (h3 q hq),h4⟩
end
theorem zgc {P:Program}{w:World}{ops:Array Oper}{o:Oper}{a:Act}{K:Act→World→Prop}{Q:Exit→Act→World→Prop}{E:Prop}(base:Nat)(hb:base≤w.heap.size)(hg:o.guard=none)(s x:Operand)(t:TypeId)
  (hop:o.op=Op.call { callee:=Callee.builtin Builtin.append,args:=#[s,x],argTypes:=#[t,t] }) (e:TypeId) (z:Value) (bytes:Nat) (ht:P.underlying t=some (.slice e))
  (hi:(P.info? e).map (fun i=>(i.zero,i.size,i.bytes))=some (some z,2,bytes)) (hz:z.cells.size=2) (v:Value) (XV:List (Value × Value)) (hs:a.eval s=v) (hown:w.ownsRow base e 2 v XV.length (zb8 XV))
  (xv:Value) (hx:a.eval x=xv) (NV:List (Value × Value)) (hsrc:Pairs w xv NV) (h1:∀x∈NV,x.1.oneCell'=true/\x.2.oneCell'=true) (hn:(XV.length+NV.length)*bytes≤140737488355328) (hb1:0<bytes)
  (hK:∀(v':Value) (w':World),w'.ownsRow base e 2 v' (XV++NV).length (zb8 (XV++NV))→Fr (Own1 v) w w'→(v'.ownBlock=v.ownBlock∨∃b,v'.ownBlock=some b/\w.heap.size≤b)→K (a.put o.dst v') w') :
  if Region.wanted o (yielded ops a.tmps)=true then Oper.wp P o a w K Q else E:=by
 have hw:Region.wanted o (yielded ops a.tmps)=true:=by simp[Region.wanted,hg]
 rw[if_pos hw];obtain⟨v',w',hr,h2,h3,h4⟩:=zfs (P:=P) w t o.type base e z bytes ht hi hz v XV hown xv NV hsrc h1 hn hb1 hb;unfold Oper.wp execOp;simp only[hop,resolve,invoke,builtin,Sem.run_bind,Sem.run_pure,Result.andThen_ok,List.map_toArray,List.map_cons,List.map_nil,hs,hx,hr];exact hK v' w' h2 h3 h4
theorem zzd {α:Type}(l:List α)(a:α)(j i:Nat)(hj:j≤l.length):(l.take j++a::l.drop j)[i]?=if i<j then l[i]? else if i=j then some a else l[i-1]?:=by
 have ht:(l.take j).length=j:=by simp;omega
 by_cases h1:i<j
 ·rw[if_pos h1,List.getElem?_append_left (by omega),List.getElem?_take,if_pos h1]
 ·rw[if_neg h1,List.getElem?_append_right (by omega),ht]
  by_cases h2:i=j
  ·subst h2;simp
  ·rw[if_neg h2,show i-j=(i-j-1)+1 from by omega,List.getElem?_cons_succ,List.getElem?_drop]
   congr 1;omega
theorem zmk {T:Nat→Prop}{base:Nat}{w:World}{v:Value}{LL:List PL}{NV:List (Value × Value)}{x:PL}{xv:Value × Value}{j:Nat}(h:w.ownsRow base 85 2 v (NV.take j++xv::NV.drop j).length (zb8 (NV.take j++xv::NV.drop j)))
  (hl:NV.length=LL.length) (hj:j≤LL.length)
  (hV:∀(i:Nat) (x:Value × Value) (y:PL),NV[i]?=some x→LL[i]?=some y→Nats w x.1 y.1/\Nats w x.2 y.2/\(y.1≠[]→∀q,x.1.ownBlock=some q→T q)/\(y.2≠[]→∀q,x.2.ownBlock=some q→T q))
  (hx:Nats w xv.1 x.1/\Nats w xv.2 x.2/\(x.1≠[]→∀q,xv.1.ownBlock=some q→T q)/\(x.2≠[]→∀q,xv.2.ownBlock=some q→T q)):NodeRow T base w v (LL.take j++x::LL.drop j):=by
 refine⟨_,h,by simp;omega,fun i a b ha hb=>?_⟩;rw[zzd NV xv j i (by omega)]at ha;rw[zzd LL x j i hj]at hb;by_cases h1:i<j
 ·rw[if_pos h1]at ha hb;exact hV i a b ha hb
 ·rw[if_neg h1]at ha hb
  by_cases h2:i=j
  ·rw[if_pos h2]at ha hb;cases ha;cases hb;exact hx
  ·rw[if_neg h2]at ha hb;exact hV _ a b ha hb
theorem zpx {T:Nat→Prop}{base:Nat}{w:World}{v:Value}{LL:List PL}{NV:List (Value × Value)}{x:PL}{xv:Value × Value}(h:w.ownsRow base 85 2 v (NV ++ [xv]).length (zb8 (NV ++ [xv])))
  (hl:NV.length=LL.length)
  (hV:∀(i:Nat) (x:Value × Value) (y:PL),NV[i]?=some x→LL[i]?=some y→Nats w x.1 y.1/\Nats w x.2 y.2/\(y.1≠[]→∀q,x.1.ownBlock=some q→T q)/\(y.2≠[]→∀q,x.2.ownBlock=some q→T q))
  (hx:Nats w xv.1 x.1/\Nats w xv.2 x.2/\(x.1≠[]→∀q,xv.1.ownBlock=some q→T q)/\(x.2≠[]→∀q,xv.2.ownBlock=some q→T q)):NodeRow T base w v (LL ++ [x]):=by
 have:=zmk (NV:=NV) (LL:=LL) (x:=x) (xv:=xv) (j:=LL.length) (v:=v) (by rw[←hl,List.take_length,List.drop_length];exact h) hl (Nat.le_refl _) hV hx;rw[List.take_length,List.drop_length]at this
 exact this
theorem zu1 {w:World}{v:Value}{L:List Nat}(h:Nats w v L):v.oneCell'=true:=by
 obtain⟨a,c,rfl,_⟩:=h;rfl
theorem zf6 {w:World}{b:Nat}{v1 v2:Value}{e:TypeId}(h:w.heap[b]?=some (.cells #[v1,v2] e (0,0))):w.cell? ⟨b,0,none⟩=some v1/\w.cell? ⟨b,1,none⟩=some v2/\w.frozen? ⟨b,0,none⟩=false/\w.frozen? ⟨b,1,none⟩=false :=
 ⟨by rw[cell_of_row w b 0 _ _ _ h];rfl,by rw[cell_of_row w b 1 _ _ _ h];rfl,by simp[World.frozen?,h],by simp[World.frozen?,h]⟩
theorem put2 {w:World}{b:Nat}{v1 v2 u1 u2:Value}{e:TypeId}(h:w.heap[b]?=some (.cells #[v1,v2] e (0,0))):((w.setCell ⟨b,0,none⟩ u1).setCell ⟨b,1,none⟩ u2).heap[b]?=some (.cells #[u1,u2] e (0,0))/\Fr (fun q=>q=b) w ((w.setCell ⟨b,0,none⟩ u1).setCell ⟨b,1,none⟩ u2):=by
 constructor
 ·have h1:(w.setCell ⟨b,0,none⟩ u1).heap[b]?=some (.cells #[u1,v2] e (0,0)):=by rw[heap_set h];rfl
  rw[heap_set h1];rfl
 ·exact Fr.setCell (Fr.setCell (Fr.refl (fun q=>q=b) w) ⟨b,0,none⟩ u1 (fun _=>rfl)) ⟨b,1,none⟩ u2 (fun _=>rfl)
theorem yc0 {a wos:Nat}{wl wr w21 w4:World}{M T':Nat→Prop}{nv:Value}{oa a4:Option Addr}{oc c4:Nat}{NV':List (Value × Value)}{SL:List PL}{lv rv:Value}{y:PL}{sA:List Nat}{o:Obj}
  (hF4:Fr (fun q=>q=a) wr w21) (hFl:Fr M wl w21) (f4:Fr (Own1 (.slice oa NV'.length oc)) w21 w4) (hat:RowIs 3 encN w21 a sA)
  (hbox:w21.heap[a+2]?=some (.cells #[.slice oa NV'.length oc] 26 (0,0))) (hnv:∀q,(Value.slice oa NV'.length oc).ownBlock=some q→nv.ownBlock=some q∨wl.heap.size≤q)
  (hnb:∀q,(Value.slice oa NV'.length oc).ownBlock=some q→a+1≤q/\q<wr.heap.size/\q≠a+2/\¬T' q) (hT2:∀q,T' q→a+2<q/\q<wl.heap.size)
  (hM:M=fun q=>q=a∨q=a+2∨nv.ownBlock=some q) (hMlow:∀q,wos≤q→¬M q) (hmem:∀q,wos≤q→q<wl.heap.size→T' q) (hsz:a+2<wos) (hwl:wos≤wl.heap.size) (hlen:NV'.length=SL.length)
  (hms:∀(i:Nat) (x:Value × Value) (y:PL),NV'[i]?=some x→SL[i]?=some y→Nats wr x.1 y.1/\Nats wr x.2 y.2/\(y.1≠[]→∀q,x.1.ownBlock=some q→T' q)/\(y.2≠[]→∀q,x.2.ownBlock=some q→T' q))
  (e1:Nats wl lv y.1) (e2:Nats wl rv y.2) (e3:y.1≠[]→∀q,lv.ownBlock=some q→wos≤q) (e4:y.2≠[]→∀q,rv.ownBlock=some q→wos≤q)
  (h4:w4.ownsRow (a+1) 85 2 (.slice a4 (NV' ++ [(lv,rv)]).length c4) (NV' ++ [(lv,rv)]).length (zb8 (NV' ++ [(lv,rv)])))
  (q4:(Value.slice a4 (NV' ++ [(lv,rv)]).length c4).ownBlock=(Value.slice oa NV'.length oc).ownBlock∨∃b,(Value.slice a4 (NV' ++ [(lv,rv)]).length c4).ownBlock=some b/\(w21.alloc o).drew.heap.size≤b) :
  RowIs 3 encN (w4.setCell ⟨a+2,0,none⟩ (.slice a4 (NV'.length+1) c4)) a sA/\(w4.setCell ⟨a+2,0,none⟩ (.slice a4 (NV'.length+1) c4)).heap[a+2]?=some (.cells #[.slice a4 (NV'.length+1) c4] 26 (0,0)) ∧
   NodeRow T' (a+1) (w4.setCell ⟨a+2,0,none⟩ (.slice a4 (NV'.length+1) c4)) (.slice a4 (NV'.length+1) c4) (SL ++ [y])/\(∀q,(Value.slice a4 (NV'.length+1) c4).ownBlock=some q→nv.ownBlock=some q∨wl.heap.size≤q)/\Fr M wl (w4.setCell ⟨a+2,0,none⟩ (.slice a4 (NV'.length+1) c4)):=by
 have fX:Fr (fun q=>q=a+2) w4 (w4.setCell ⟨a+2,0,none⟩ (.slice a4 (NV'.length+1) c4)):=Fr.setCell (Fr.refl (fun q=>q=a+2) w4) _ _ (fun _=>rfl);have hb4:=f4.heap hbox (fun e=>(hnb _ e).2.2.1 rfl);have hs21:=hFl.size;have hs4:(w21.alloc o).drew.heap.size=w21.heap.size+1:=by simp
 rw[hs4]at q4;have hX:NodeRow T' (a+1) w4 (.slice a4 (NV' ++ [(lv,rv)]).length c4) (SL ++ [y]):=by
  have hE:∀(v:Value) (L:List Nat),Nats wl v L→(L≠[]→∀q,v.ownBlock=some q→wos≤q)→Nats w4 v L/\(L≠[]→∀q,v.ownBlock=some q→T' q):=fun v L h1 h2=>by
   have hq:L≠[]→∀q,v.ownBlock=some q→T' q:=fun hne q hq=>by
    obtain⟨b,hb,hl⟩:=h1.block hne;rw[hq]at hb;cases hb
    exact hmem q (h2 hne q hq) hl
   exact⟨(h1.fr hFl (fun hne q hq=>hMlow q (h2 hne q hq))).fr f4 (fun hne b hb e=>(hnb b e).2.2.2 (hq hne b hb)),hq⟩
  obtain⟨g1,g2⟩:=hE _ _ e1 e3;obtain⟨g3,g4⟩:=hE _ _ e2 e4;refine zpx h4 hlen (fun i a' b ha hb=>?_) ⟨g1,g3,g2,g4⟩;obtain⟨s1,s2,s3,s4⟩:=hms i a' b ha hb;exact⟨(s1.fr hF4 (fun hne q hq e=>by have:=(hT2 q (s3 hne q hq)).1;omega)).fr f4 (fun hne q hq e=>(hnb q e).2.2.2 (s3 hne q hq)),
   (s2.fr hF4 (fun hne q hq e=>by have:=(hT2 q (s4 hne q hq)).1;omega)).fr f4 (fun hne q hq e=>(hnb q e).2.2.2 (s4 hne q hq)),s3,s4⟩
 have hown:∀q,(Value.slice a4 (NV' ++ [(lv,rv)]).length c4).ownBlock=some q→(Value.slice oa NV'.length oc).ownBlock=some q∨w21.heap.size≤q:=fun q hq=>by
  rcases q4 with h|⟨b,h,hle⟩
  ·rw[h]at hq;exact .inl hq
  ·rw[h]at hq;cases hq;exact .inr (by omega)
 rw[show(NV' ++ [(lv,rv)]).length=NV'.length+1 from by simp]at hX hown;refine⟨(hat.fr f4 (fun e=>by have:=(hnb _ e).1;omega)).fr fX (by omega),by rw[heap_set hb4];rfl,?_,?_,?_⟩
 ·refine hX.fr fX (fun q hq e=>?_) (fun q hq e=>by have:=(hT2 q hq).1;omega)
  rcases hown q hq with h|h
  ·exact(hnb q h).2.2.1 e
  ·omega
 ·intro q hq
  rcases hown q hq with h|h
  ·exact hnv q h
  ·exact .inr (by omega)
 ·refine(hFl.trans f4 (fun q hq e=>?_)).trans fX (fun q _ e=>by rw[hM];exact .inr (.inl e))
  rcases hnv q e with h|h
  ·rw[hM];exact .inr (.inr h)
  ·omega
def dg (d:Nat):UInt8:=UInt8.ofNat (if d<10 then 48+d else 87+d)
def undg (b:UInt8):Nat:=if b.toNat<58 then b.toNat-48 else b.toNat-87
def d36 (n:Nat):List UInt8:=if n<36 then [dg n]else d36 (n/36) ++ [dg (n%36)]
 termination_by n
 decreasing_by omega
theorem zun (d:Nat)(h:d<36):(dg d).toNat=if d<10 then 48+d else 87+d:=by
 unfold dg;rw[UInt8.toNat_ofNat'];split <;> omega
theorem zxi (d:Nat)(h:d<36):undg (dg d)=d:=by
 unfold undg;rw[zun d h];by_cases h1:d<10
 ·rw[if_pos h1,if_pos (by omega)];omega
 ·rw[if_neg h1,if_neg (by omega)];omega
theorem yf0 (n:Nat):∀b∈d36 n,48≤b.toNat/\b.toNat<123/\b.toNat≠44/\b.toNat≠124:=by
 have key:∀d,d<36→48≤(dg d).toNat/\(dg d).toNat<123/\(dg d).toNat≠44/\(dg d).toNat≠124:=by
  intro d h;rw[zun d h];split <;> omega
 induction n using Nat.strongRecOn with
 | _ n ih =>
  intro b hb;unfold d36 at hb;split at hb
  ·simp at hb;subst hb;exact key _ (by assumption)
  ·rw[List.mem_append,List.mem_singleton]at hb
   rcases hb with hb|rfl
   ·exact ih (n/36) (by omega) b hb
   ·exact key _ (Nat.mod_lt _ (by decide))
theorem yez (n:Nat):d36 n≠[]:=by
 unfold d36;split <;> simp
def yd7 (l:List UInt8):Nat:=l.foldl (fun v b=>v*36+undg b) 0
theorem zp4 (n:Nat):yd7 (d36 n)=n:=by
 induction n using Nat.strongRecOn with
 | _ n ih =>
  unfold d36;split
  ·rename_i h;simp[yd7,zxi n h]
  ·have:=ih (n/36) (by omega)
   unfold yd7 at this ⊢
   rw[List.foldl_append,this];simp only[List.foldl_cons,List.foldl_nil];rw[zxi _ (Nat.mod_lt _ (by decide))];omega
theorem yeb {a b:Nat}(h:d36 a=d36 b):a=b:=by rw[←zp4 a,h,zp4]
def keyL (l:List Nat):List UInt8:=l.flatMap fun i=>d36 i ++ [44]
def keyS (x:PL):List UInt8:=keyL x.1++124::keyL x.2
theorem zhr (l:List Nat)(i:Nat):keyL (l ++ [i])=keyL l++d36 i ++ [44]:=by simp[keyL]
theorem zob {α:Type}(c:α):∀(a b x y:List α),c ∉ a→c ∉ b→a++c::x=b++c::y→a=b/\x=y
 | [],[],x,y,_,_,h=>by simp at h;exact⟨rfl,h⟩
 | [],q::b,x,y,_,hb,h=>by simp at h;exact absurd (by rw[h.1];exact List.mem_cons_self) hb
 | p::a,[],x,y,ha,_,h=>by simp at h;exact absurd (by rw[←h.1];exact List.mem_cons_self) ha
 | p::a,q::b,x,y,ha,hb,h=>by
  simp only[List.cons_append,List.cons.injEq]at h;obtain⟨h1,h2⟩:=zob c a b x y (fun q=>ha (List.mem_cons_of_mem _ q)) (fun q=>hb (List.mem_cons_of_mem _ q)) h.2;exact⟨by rw[h.1,h1],h2⟩
theorem zzy (n:Nat)(c:UInt8)(h:c.toNat=44∨c.toNat=124):c ∉ d36 n:=fun hc=>by
 have:=yf0 n c hc;omega
theorem ybr {l:List Nat}(h:keyL l=[]):l=[]:=by
 cases l with
 | nil=>rfl
 | cons i t=>simp[keyL]at h
theorem zot:∀(l m:List Nat),keyL l=keyL m→l=m
 | [],m,h=>(ybr (by rw[←h];rfl)).symm
 | i::t,[],h=>by simp[keyL]at h
 | i::t,j::u,h=>by
  have h':d36 i++44::keyL t=d36 j++44::keyL u:=by simpa [keyL] using h
  obtain⟨h1,h2⟩:=zob 44 _ _ _ _ (zzy i 44 (.inl rfl)) (zzy j 44 (.inl rfl)) h';rw[yeb h1,zot t u h2]
theorem ybq:∀(x y:PL),keyS x=keyS y→x=y:=by
 intro⟨l,r⟩ ⟨l',r'⟩ h;have no:∀m:List Nat,(124:UInt8) ∉ keyL m:=by
  intro m hm;obtain⟨i,_,hi⟩:=List.mem_flatMap.1 hm;rw[List.mem_append,List.mem_singleton]at hi;rcases hi with hi|hi
  ·exact zzy i 124 (.inr rfl) hi
  ·cases hi
 obtain⟨h1,h2⟩:=zob 124 _ _ _ _ (no l) (no l') h;rw[zot l l' h1,zot r r' h2]
def enc3 (lv rv:Nat→Value)(i:Nat):List Value:=[encN i,lv i,rv i]
def zg5 (lv rv:Nat→Value)(G:List Nat):List Value:=G.flatMap (enc3 lv rv)
theorem zr7 (lv rv:Nat→Value)(G:List Nat):(zg5 lv rv G).length=G.length*3:=by
 induction G with
 | nil=>rfl
 | cons y l ih=>simp only[zg5,List.flatMap_cons,List.length_append,enc3,List.length_cons,List.length_nil]at ih ⊢;omega
theorem zr8 (lv rv:Nat→Value)(G:List Nat)(j x:Nat)(h:G[j]?=some x):(zg5 lv rv G)[j*3]?=some (encN x)/\(zg5 lv rv G)[j*3+1]?=some (lv x)/\(zg5 lv rv G)[j*3+2]?=some (rv x):=by
 induction G generalizing j with
 | nil=>cases h
 | cons y l ih =>
  cases j with
  | zero=>simp at h;subst h;exact⟨rfl,rfl,rfl⟩
  | succ j =>
   have:=ih j (by simpa using h);simp only[zg5,List.flatMap_cons]at this ⊢
   rw[show(j+1)*3=j*3+1+1+1 from by omega];exact this
def encU (b:UInt8):Value:=.int .u8 (b.toNat:Int)
theorem zhv:(Tryz.prog.info? 5).map (fun i=>(i.zero,i.size,i.bytes))=some (some (.int .u8 0),1,1):=by kernel_rfl
def digs:ByteArray:=⟨#[48,49,50,51,52,53,54,55,56,57,97,98,99,100,101,102,103,104,105,106,107,108,109,110,111,112,113,114,115,116,117,118,119,120,121,122]⟩
theorem yea:∀k:Fin 36,digs[k.1]?=some (dg k.1):=by decide
theorem ztn (k:Nat)(hk:k<36)(ik:IntKind)(W:World):(Instr.index 9 (.string digs) (.int ik (k:Int))).run Tryz.prog W=.ok (encU (dg k)) W:=by
 have h:=yea ⟨k,hk⟩;simp only at h;simp[Instr.index,asIntOf,run_underlying Tryz.underlying9,h,encU]
theorem zpg (g j:Nat)(hj:j<65)(W:World):(Instr.sliceAt 229 (.pointer (some ⟨g,0,none⟩)) (some (.int .i64 (j:Int))) none none).run Tryz.prog W=.ok (.slice (some ⟨g,j,none⟩) (65-j) (65-j)) W:=by
 have h1:¬ 65=j:=by omega
 have h2:j≤65:=by omega
 simp[Instr.sliceAt,run_underlying Tryz.underlying229,Instr.sliceBounds,Instr.sliceBound,asIntOf,Instr.sureAddr,Tryz.sizeOf5,h1,h2,Addr.add];omega
theorem RowIs.sliceFrom {α:Type}{e:TypeId}{enc:α→Value}{w:World}{g:Nat}{L:List α}(h:RowIs e enc w g L)(k n:Nat)(hn:L.length=n)(hl:n≤9223372036854775807):SliceOf enc w (.slice (some ⟨g,k,none⟩) (n-k) (n-k)) (L.drop k) :=
 ⟨_,_,by rw[List.length_drop,hn],by rw[List.length_drop];omega,by omega,fun j x hx=>⟨g,k,rfl,by
  rw[List.getElem?_drop]at hx;have hj:=(List.getElem?_eq_some_iff.1 hx).1;rw[h.cell (k+j) hj];rw[List.getElem?_eq_getElem hj]at hx;cases hx;rfl⟩⟩
theorem zin (k n:Nat)(hk:0<k)(h:n<36^k):(d36 n).length≤k:=by
 induction k generalizing n with
 | zero=>omega
 | succ k ih =>
  unfold d36;split
  ·simp
  ·rename_i h36
   have hk0:0<k:=by
    rcases Nat.eq_zero_or_pos k with e|e
    ·subst e;simp at h;omega
    ·exact e
   have:=ih (n/36) hk0 (by rw[Nat.div_lt_iff_lt_mul (by decide)];rw[Nat.pow_succ]at h;exact h);simp;omega
set_option maxRecDepth 4000 in
set_option maxHeartbeats 4000000 in
theorem zne {base:Nat}(v:Value)(xs:List UInt8)(n:Nat)(w:World)(hown:w.ownsRow base 5 1 v xs.length (xs.map encU))(hn:n<1000000000000)(hb:base≤w.heap.size)(hx:xs.length≤1000000000000) :
  Calls Tryz.prog 213 #[v,.int .u64 (n:Int),.int .i64 36,.bool false,.bool true] w fun e w'=>∃v' s,e=.returned (.tuple #[v',.string s])/\w'.ownsRow base 5 1 v' (xs++d36 n).length ((xs++d36 n).map encU)/\Fr (Own1 v) w w':=by
 have HO:=Hh hown;have Hn:=Hh hn;have Hb:=Hh hb;have Hx:=Hh hx;have hbt:bits BinOp.and IntKind.i64 36 35=32:=by rfl
 clear hown hb hx;go_enter Tryz.func213,Tryz.ntmps213;go_wp2;generalize hw1:w.alloc _=w1
 have F1:Fr NoM w w1:=by rw[←hw1];exact(Fr.refl NoM w).alloc _
 have hr1:RowIs 229 encU w1 w.heap.size (List.replicate 65 0):=by
  rw[←hw1];exact(heap_alloc_new w _).trans (congrArg (fun c=>some (Obj.cells c 229 (0,0))) (by kernel_rfl))
 have HF1:=Hh F1;have HR1:=Hh hr1;have HW1:=Hh hw1;clear F1 hr1 hw1;have hd12:=zin 12 n (by decide) (by omega);have Hd:=Hh hd12;clear hd12;go_loopw [1,13] (fun u i W=>∃(m j:Nat) (D:List UInt8),u=.int .u64 m/\i=.int .i64 j/\m≤n/\j≤65/\D.length=65/\d36 n=d36 m++D.drop j/\RowIs 229 encU W w.heap.size D/\Fr NoM w W) (fun u _ _=>(intOf u).toNat)
 case atStart=>exact⟨n,65,_,rfl,rfl,Nat.le_refl _,Nat.le_refl _,by simp,by simp,HR1.out,HF1.out⟩
 case round =>
  obtain⟨m,j,D,rfl,rfl,hm,hj,hD,hd,hrow,hfr⟩:=hrel;have hlen:=Hd.out;have hne:(d36 m).length≠0:=by have:=yez m;cases h:d36 m with|nil=>exact absurd h this|cons _ _=>simp
  have hjl:65-j<12:=by rw[hd]at hlen;simp[hD]at hlen;omega
  have HD:=Hh hD;have Hdd:=Hh hd;have HRow:=Hh hrow;have HFr:=Hh hfr;clear hlen hne hD hd hrow hfr;by_cases h36:36≤m
  ·have hmod:m%36<36:=Nat.mod_lt _ (by decide)
   have hdg:=ztn (m%36) hmod .u64;unfold digs at hdg;rw[show((m%36:Nat):Int)=(m:Int)-(m:Int)/36*36 from by omega]at hdg;have cj:=HRow.out.cell (j-1) (by rw[HD.out];omega);have zj:=HRow.out.frozen (j-1);unfold encU at hdg cj;have hset:=HRow.out.set (j-1) (dg (m%36));unfold encU at hset;have hf:=Fr.setCell HFr.out ⟨w.heap.size,j-1,none⟩ (.int .u8 ((dg (m%36)).toNat:Int)) (fun h=>absurd h (Nat.lt_irrefl _));have HSet:=Hh hset;have HF:=Hh hf;clear hset hf;go_wp2;go_roundw
   case rel =>
    refine⟨m/36,j-1,D.set (j-1) (dg (m%36)),by go_num,by go_num,by omega,by omega,by simp[HD.out],?_,HSet.out,HF.out⟩;have h1:d36 m=d36 (m/36) ++ [dg (m%36)]:=by rw[d36,if_neg (by omega)]
    have h2:(D.set (j-1) (dg (m%36))).drop (j-1)=dg (m%36)::D.drop j:=by
     rw[List.drop_eq_getElem_cons (by simp[HD.out];omega),List.getElem_set_self,List.drop_set_of_lt (by omega),show j-1+1=j from by omega]
    rw[Hdd.out,h1,h2];simp
   case measure=>simp[intOf];omega
  ·have hmod:m<36:=by omega
   have hdg:=ztn m hmod .u64;unfold digs at hdg;have cj:=HRow.out.cell (j-1) (by rw[HD.out];omega);have zj:=HRow.out.frozen (j-1);unfold encU at hdg cj;have hset:=HRow.out.set (j-1) (dg m);unfold encU at hset;have hf:=Fr.setCell HFr.out ⟨w.heap.size,j-1,none⟩ (.int .u8 ((dg m).toNat:Int)) (fun h=>absurd h (Nat.lt_irrefl _));have HSet:=Hh hset;have HF:=Hh hf;clear hset hf;have hsl:=zpg w.heap.size (j-1) (by omega);rw[show((j-1:Nat):Int)=(j:Int)-1 from by omega]at hsl;have hD2:d36 n=(D.set (j-1) (dg m)).drop (j-1):=by
    have h1:d36 m=[dg m]:=by rw[d36,if_pos hmod]
    rw[Hdd.out,h1,List.drop_eq_getElem_cons (l:=D.set (j-1) (dg m)) (by simp[HD.out];omega),List.getElem_set_self,List.drop_set_of_lt (by omega),show j-1+1=j from by omega];rfl
   have hsrc:=RowIs.sliceFrom (show RowIs 229 encU (wr.setCell ⟨w.heap.size,j-1,none⟩ (.int .u8 ((dg m).toNat:Int))) w.heap.size (D.set (j-1) (dg m))from HSet.out) (j-1) 65 (by simp[HD.out]) (by decide);rw[←hD2]at hsrc;have HSrc:=Hh hsrc;have HD2:=Hh hD2;clear hsrc hD2;go_wp2_with (at_builtin;refine zag (enc:=encU) _ rfl _ _ 43 rfl base 5 (.int .u8 0) 1 Tryz.underlying43 zhv rfl v xs.length (xs.map encU) rfl (za3 HO.out HF.out (fun _ _ q=>q)) _ rfl (d36 n) HSrc.out (fun _=>rfl) ?c1 (by decide) ?c2 ?_)
   case c1=>have:=Hd.out;have:=Hx.out;omega
   case c2=>exact Nat.le_trans Hb.out HFr.out.size
   intro v' w' h1 h2 _;have H1:=Hh h1;have H2:=Hh h2;clear h1 h2;go_wp2;go_ret2;refine⟨v',_,rfl,?_,(HF.out.mono (fun _ _ q=>q.elim)).trans H2.out (fun _ _ q=>q)⟩;rw[List.length_append,List.map_append];exact H1.out
set_option maxRecDepth 4000 in
set_option maxHeartbeats 4000000 in
theorem zdz {base:Nat}(v:Value)(xs:List UInt8)(n:Nat)(w:World)(hown:w.ownsRow base 5 1 v xs.length (xs.map encU))(hn:n<1000000000000)(hb:base≤w.heap.size)(hx:xs.length≤1000000000000) :
  Calls Tryz.prog 153 #[v,.int .i64 (n:Int),.int .i64 36] w fun e w'=>∃v',e=.returned v'∧w'.ownsRow base 5 1 v' (xs++d36 n).length ((xs++d36 n).map encU)/\Fr (Own1 v) w w':=by
 have HC:=Hh (zne v xs n w hown hn hb hx);clear hown hb hx;go_enter Tryz.func153,Tryz.ntmps153;go_wp2_with (first|(go_at_call 213;refine HC.out.mono ?_;rintro e w' ⟨v',s,rfl,h1,h2⟩;have H1:=Hh h1;have H2:=Hh h2;clear h1 h2)|go_in);go_ret;exact⟨v',rfl,H1.out,H2.out⟩
def hasL (c i:Nat):Prop:=c.testBit (2*i)=true
def hasR (c i:Nat):Prop:=c.testBit (2*i+1)=true
instance (c i:Nat):Decidable (hasL c i):=inferInstanceAs (Decidable (_=_))
instance (c i:Nat):Decidable (hasR c i):=inferInstanceAs (Decidable (_=_))
def optC (c i:Nat):Prop:=hasL c i∨hasR c i
instance (c i:Nat):Decidable (optC c i):=inferInstanceAs (Decidable (_∨_))
def yac (g:Nat→Nat)(L:List Nat):Nat:=L.foldr (fun i n=>n ||| 2^g i) 0
def mkC (L R:List Nat):Nat:=yac (fun i=>2*i) L ||| yac (fun i=>2*i+1) R
theorem zku (g:Nat→Nat)(L:List Nat)(j:Nat):(yac g L).testBit j=decide (∃i∈L,g i=j):=by
 induction L with
 | nil=>simp[yac]
 | cons x l ih =>
  unfold yac at ih ⊢;rw[List.foldr_cons,Nat.testBit_or,ih,Nat.testBit_two_pow];by_cases h1:∃i∈l,g i=j
  ·obtain⟨i,hi,e⟩:=h1
   have h2:∃i∈x::l,g i=j:=⟨i,List.mem_cons_of_mem _ hi,e⟩;have h1:∃i∈l,g i=j:=⟨i,hi,e⟩;rw[decide_eq_true h1,decide_eq_true h2];rfl
  ·rw[decide_eq_false h1,Bool.false_or]
   congr 1
   simp only[eq_iff_iff];constructor
   ·intro e;exact⟨x,List.mem_cons_self,e⟩
   ·rintro⟨i,hi,e⟩
    rcases List.mem_cons.1 hi with rfl|hi
    ·exact e
    ·exact absurd ⟨i,hi,e⟩ h1
theorem zab (L R:List Nat)(i:Nat):hasL (mkC L R) i↔i∈L:=by
 unfold hasL mkC;rw[Nat.testBit_or,zku,zku,Bool.or_eq_true,decide_eq_true_eq,decide_eq_true_eq];constructor
 ·rintro(⟨j,hj,e⟩|⟨j,hj,e⟩)
  ·have:j=i:=by omega
   subst this;exact hj
  ·omega
 ·intro h;exact .inl ⟨i,h,rfl⟩
theorem zad (L R:List Nat)(i:Nat):hasR (mkC L R) i↔i∈R:=by
 unfold hasR mkC;rw[Nat.testBit_or,zku,zku,Bool.or_eq_true,decide_eq_true_eq,decide_eq_true_eq];constructor
 ·rintro(⟨j,hj,e⟩|⟨j,hj,e⟩)
  ·omega
  ·have:j=i:=by omega
   subst this;exact hj
 ·intro h;exact .inr ⟨i,h,rfl⟩
theorem zd1 {c d:Nat}(h1:∀i,hasL c i↔hasL d i)(h2:∀i,hasR c i↔hasR d i):c=d:=by
 apply Nat.eq_of_testBit_eq
 intro j;have e:∀a b:Bool,(a=true↔b=true)→a=b:=by decide
 apply e
 rcases Nat.mod_two_eq_zero_or_one j with h|h
 ·have:=h1 (j/2);unfold hasL at this;rwa [show 2*(j/2)=j from by omega]at this
 ·have:=h2 (j/2);unfold hasR at this;rwa [show 2*(j/2)+1=j from by omega]at this
theorem yf4 {c j:Nat}(h:c.testBit j=true):j<c:=Nat.lt_of_lt_of_le Nat.lt_two_pow_self (Nat.ge_two_pow_of_testBit h)
theorem za5 {c i:Nat}(h:optC c i):i<c:=by
 rcases h with h|h <;> have:=yf4 h <;> omega
theorem zz0 {L R L' R':List Nat}(h1:∀i,i∈L↔i∈L')(h2:∀i,i∈R↔i∈R'):mkC L R=mkC L' R' :=
 zd1 (fun i=>by rw[zab,zab,h1]) (fun i=>by rw[zad,zad,h2])
def zig (c:Nat):List Nat:=(List.range c).filter fun i=>decide (hasL c i)
def zey (c:Nat):List Nat:=(List.range c).filter fun i=>decide (hasR c i)
theorem zb7 {c i:Nat}:i∈zig c↔hasL c i:=by
 unfold zig;rw[List.mem_filter,List.mem_range,decide_eq_true_eq];exact⟨fun h=>h.2,fun h=>⟨za5 (.inl h),h⟩⟩
theorem zaz {c i:Nat}:i∈zey c↔hasR c i:=by
 unfold zey;rw[List.mem_filter,List.mem_range,decide_eq_true_eq];exact⟨fun h=>h.2,fun h=>⟨za5 (.inr h),h⟩⟩
theorem ybh (c:Nat):mkC (zig c) (zey c)=c:=zd1 (fun i=>by rw[zab,zb7]) (fun i=>by rw[zad,zaz])
def bornC (c:Nat):Nat:=((List.range c).attach.filter fun i=>decide (optC c i.1)).foldl (fun m i=>max m (bornC i.1+1)) 0
 termination_by c
 decreasing_by exact List.mem_range.1 i.2
theorem zmy {α:Type}(g:α→Nat)(L:List α)(m:Nat):m≤L.foldl (fun m i=>max m (g i)) m/\(∀x∈L,g x≤L.foldl (fun m i=>max m (g i)) m)/\(L.foldl (fun m i=>max m (g i)) m=m∨∃x∈L,L.foldl (fun m i=>max m (g i)) m=g x):=by
 induction L generalizing m with
 | nil=>exact⟨Nat.le_refl _,by simp,.inl rfl⟩
 | cons y l ih =>
  rw[List.foldl_cons];obtain⟨h1,h2,h3⟩:=ih (max m (g y));refine⟨by omega,fun x hx=>?_,?_⟩
  ·rcases List.mem_cons.1 hx with rfl|hx
   ·omega
   ·exact h2 x hx
  ·rcases h3 with h3|⟨x,hx,h3⟩
   ·by_cases hm:g y≤m
    ·exact .inl (by rw[h3];omega)
    ·exact .inr ⟨y,List.mem_cons_self,by rw[h3];omega⟩
   ·exact .inr ⟨x,List.mem_cons_of_mem _ hx,h3⟩
theorem zdx {c i:Nat}(h:optC c i):bornC i<bornC c:=by
 rw[bornC.eq_1 c];have:=(zmy (fun(i:{x // x∈List.range c})=>bornC i.1+1) ((List.range c).attach.filter fun i=>decide (optC c i.1)) 0).2.1 ⟨i,List.mem_range.2 (za5 h)⟩ (by simp[h]);simp only at this
 omega
theorem zuv (c:Nat):bornC c=0∨∃i,optC c i/\bornC c=bornC i+1:=by
 rw[bornC.eq_1 c];rcases (zmy (fun(i:{x // x∈List.range c})=>bornC i.1+1) ((List.range c).attach.filter fun i=>decide (optC c i.1)) 0).2.2 with h|⟨x,hx,h⟩
 ·exact .inl h
 ·exact .inr ⟨x.1,by simpa using (List.mem_filter.1 hx).2,h⟩
theorem ycm {c m:Nat}(h1:∀i,optC c i→bornC i<m)(h2:m=0∨∃i,optC c i/\m≤bornC i+1):bornC c=m:=by
 rcases zuv c with h|⟨i,hi,h⟩
 ·rcases h2 with h2|⟨i,hi,h2⟩
  ·omega
  ·have:=zdx hi;omega
 ·have:=h1 i hi
  rcases h2 with h2|⟨j,hj,h2⟩
  ·omega
  ·have:=zdx hj;omega
inductive SubC (c:Nat):Nat→Prop
 | root:SubC c c
 | step {x y:Nat}:SubC c x→optC x y→SubC c y
structure BookC (NL:List PL) (C:List Nat):Prop where
 len:C.length=NL.length
 opts:∀(j:Nat) (x:PL),NL[j]?=some x→(∀i∈x.1,i<j)/\∀i∈x.2,i<j
 up:∀(j:Nat) (x:PL),NL[j]?=some x→x.1.Pairwise (· < ·)/\x.2.Pairwise (· < ·)
 code:∀(j:Nat) (x:PL),NL[j]?=some x→C.getD j 0=mkC (za1 C x.1) (za1 C x.2)
 nodup:C.Nodup
theorem zgt {L M:List Nat}(hL:L.Pairwise (· < ·))(hM:M.Pairwise (· < ·))(h:∀x,x∈L↔x∈M):L=M:=by
 induction L generalizing M with
 | nil=>cases M with
  | nil=>rfl
  | cons y m=>exact absurd ((h y).2 List.mem_cons_self) (by simp)
 | cons x l ih =>
  cases M with
  | nil=>exact absurd ((h x).1 List.mem_cons_self) (by simp)
  | cons y m =>
   rw[List.pairwise_cons]at hL hM;have hxy:x=y:=by
    rcases List.mem_cons.1 ((h x).1 List.mem_cons_self)with e|hx
    ·exact e
    ·rcases List.mem_cons.1 ((h y).2 List.mem_cons_self)with e|hy
     ·exact e.symm
     ·have:=hL.1 y hy;have:=hM.1 x hx;omega
   subst hxy;rw[ih hL.2 hM.2 (fun z=>?_)];constructor
   ·intro hz
    rcases List.mem_cons.1 ((h z).1 (List.mem_cons_of_mem _ hz))with e|hz'
    ·subst e;have:=hL.1 z hz;omega
    ·exact hz'
   ·intro hz
    rcases List.mem_cons.1 ((h z).2 (List.mem_cons_of_mem _ hz))with e|hz'
    ·subst e;have:=hM.1 z hz;omega
    ·exact hz'
theorem zcm {C:List Nat}(h:C.Nodup){i j:Nat}(hi:i<C.length)(hj:j<C.length)(e:C.getD i 0=C.getD j 0):i=j:=by
 rw[List.getD_eq_getElem?_getD,List.getD_eq_getElem?_getD,List.getElem?_eq_getElem hi,List.getElem?_eq_getElem hj]at e;exact(List.getElem_inj h).1 e
theorem zcz {C:List Nat}{i:Nat}(hi:i<C.length):C.getD i 0∈C:=by
 rw[List.getD_eq_getElem?_getD,List.getElem?_eq_getElem hi];exact List.getElem_mem _
theorem zhn {C:List Nat}{x:Nat}(h:x∈C):∃i,i<C.length/\C.getD i 0=x:=by
 obtain⟨i,hi,e⟩:=List.getElem_of_mem h;exact⟨i,hi,by rw[List.getD_eq_getElem?_getD,List.getElem?_eq_getElem hi];exact e⟩
theorem za8 {C L:List Nat}{x:Nat}:x∈za1 C L↔∃i∈L,C.getD i 0=x:=by
 unfold za1;exact List.mem_map
def klt (b1:Nat)(x1:PL)(b2:Nat)(x2:PL):Prop:=b1<b2∨b1=b2/\zan x1 x2=true
theorem zg9:∀(a b:List Nat),cmpL a b=- cmpL b a
 | [],[]=>rfl
 | [],y::b=>by simp[cmpL]
 | x::a,[]=>by simp[cmpL]
 | x::a,y::b=>by
  unfold cmpL;have:=zg9 a b;by_cases h:x=y
  ·subst h;simpa using this
  ·have h':¬y=x:=fun q=>h q.symm
   by_cases h1:x<y
   ·have:¬y<x:=by omega
    simp[h,h',h1,this]
   ·have:y<x:=by omega
    simp[h,h',h1,this]
theorem zeq {x y:PL}(h:zan x y=true):zan y x=false:=by
 unfold zan at h ⊢;have h1:=zg9 x.1 y.1;have h2:=zg9 x.2 y.2;by_cases e:cmpL x.1 y.1=0
 ·rw[if_pos e]at h
  rw[if_pos (by omega)];simp at h ⊢;omega
 ·rw[if_neg e]at h
  rw[if_neg (by omega)];simp at h ⊢;omega
theorem zr0 {b1 b2:Nat}{x1 x2:PL}(h:klt b1 x1 b2 x2):¬klt b2 x2 b1 x1:=by
 rintro(h'|⟨e,h'⟩)
 ·rcases h with h|⟨e,_⟩ <;> omega
 ·rcases h with h|⟨_,h⟩
  ·omega
  ·rw[zeq h']at h;cases h
structure FormAt (c:Nat) (FN:List PL) (P:List Nat):Prop where
 book:BookC FN P
 sub:∀x,x∈P↔SubC c x
 up:∀(i j:Nat) (x y:PL),i<j→FN[i]?=some x→FN[j]?=some y→klt (bornC (P.getD i 0)) x (bornC (P.getD j 0)) y
def FormC (c:Nat)(FN:List PL):Prop:=∃P,FormAt c FN P
theorem zpf {FN FN':List PL}{P P':List Nat}(B:BookC FN P)(B':BookC FN' P')(k a:Nat)(hag:∀j,j<k→P.getD j 0=P'.getD j 0)(hk:k<P.length)(hka:k≤a)(ha:a<P'.length)(he:P.getD k 0=P'.getD a 0)
  (x y:PL) (hx:FN[k]?=some x) (hy:FN'[a]?=some y):x=y:=by
 have c1:=B.code k x hx;have c2:=B'.code a y hy;rw[he,c2]at c1;obtain⟨o1,o2⟩:=B.opts k x hx;obtain⟨p1,p2⟩:=B'.opts a y hy;obtain⟨u1,u2⟩:=B.up k x hx;obtain⟨v1,v2⟩:=B'.up a y hy;have side:∀l m:List Nat,(∀i∈l,i<k)→(∀i∈m,i<a)→(∀z,z∈za1 P l↔z∈za1 P' m)→∀i,i∈l↔i∈m:=by
  intro l m hl hm h i;constructor
  ·intro hi
   obtain⟨j,hj,e⟩:=za8.1 ((h (P.getD i 0)).1 (za8.2 ⟨i,hi,rfl⟩));rw[hag i (hl i hi)]at e;have:=hl i hi;have:=hm j hj;rw[←zcm B'.nodup (by omega) (by omega) e];exact hj
  ·intro hi
   obtain⟨j,hj,e⟩:=za8.1 ((h (P'.getD i 0)).2 (za8.2 ⟨i,hi,rfl⟩));rw[hag j (hl j hj)]at e;have:=hl j hj;have:=hm i hi;rw[←zcm B'.nodup (by omega) (by omega) e];exact hj
 have e1:x.1=y.1:=zgt u1 v1 (side _ _ o1 p1 fun z=>by rw[←zab _ (za1 P x.2),←zab _ (za1 P' y.2),c1]);have e2:x.2=y.2:=zgt u2 v2 (side _ _ o2 p2 fun z=>by rw[←zad (za1 P x.1),←zad (za1 P' y.1),c1]);exact Prod.ext e1 e2
theorem ybz {c:Nat}{FN FN':List PL}{P P':List Nat}(A:FormAt c FN P)(A':FormAt c FN' P'):FN=FN'∧P=P':=by
 have key:∀k,k<P.length→k<P'.length→P.getD k 0=P'.getD k 0/\FN[k]?=FN'[k]?:=by
  intro k;induction k using Nat.strongRecOn with
  | _ k ih =>
   intro hk hk';have hag:∀j,j<k→P.getD j 0=P'.getD j 0:=fun j hj=>(ih j hj (by omega) (by omega)).1
   have hxF:=List.getElem?_eq_getElem (l:=FN) (i:=k) (by rw[←A.book.len];exact hk)
   have hyF:=List.getElem?_eq_getElem (l:=FN') (i:=k) (by rw[←A'.book.len];exact hk')
   obtain⟨a,ha,ea⟩:=zhn ((A'.sub _).2 ((A.sub _).1 (zcz hk)));obtain⟨b,hb,eb⟩:=zhn ((A.sub _).2 ((A'.sub _).1 (zcz hk')));have hka:k≤a:=by
    rcases Nat.lt_or_ge a k with h|h
    ·have:=hag a h;rw[ea]at this;exact absurd (zcm A.book.nodup (by omega) hk this) (by omega)
    ·exact h
   have hkb:k≤b:=by
    rcases Nat.lt_or_ge b k with h|h
    ·have:=hag b h;rw[eb]at this;exact absurd (zcm A'.book.nodup (by omega) hk' this.symm) (by omega)
    ·exact h
   have hyA:=List.getElem?_eq_getElem (l:=FN') (i:=a) (by rw[←A'.book.len];exact ha)
   have hxB:=List.getElem?_eq_getElem (l:=FN) (i:=b) (by rw[←A.book.len];exact hb)
   have n1:=zpf A.book A'.book k a hag hk hka ha ea.symm _ _ hxF hyA;have n2:=zpf A'.book A.book k b (fun j hj=>(hag j hj).symm) hk' hkb hb eb.symm _ _ hyF hxB;rcases Nat.lt_or_ge k a with hlt|hge
   ·have k1:=A'.up k a _ _ hlt hyF hyA
    rw[ea,←n1]at k1;rcases Nat.lt_or_ge k b with hltb|hgeb
    ·have k2:=A.up k b _ _ hltb hxF hxB
     rw[eb,←n2]at k2;exact absurd k1 (zr0 k2)
    ·have:b=k:=by omega
     subst this
     exact absurd (zcm A'.book.nodup ha hk' (ea.trans eb)) (by omega)
   ·have:a=k:=by omega
    subst this
    exact⟨ea.symm,by rw[hxF,hyF,n1]⟩
 have hl:P.length=P'.length:=by
  refine Nat.le_antisymm ?_ ?_
  ·exact A.book.nodup.length_le_of_subset (fun x hx=>(A'.sub x).2 ((A.sub x).1 hx))
  ·exact A'.book.nodup.length_le_of_subset (fun x hx=>(A.sub x).2 ((A'.sub x).1 hx))
 have hPl:=A.book.len;have hPl':=A'.book.len;constructor
 ·apply List.ext_getElem?
  intro k;rcases Nat.lt_or_ge k P.length with h|h
  ·exact(key k h (by omega)).2
  ·rw[List.getElem?_eq_none (by omega),List.getElem?_eq_none (by omega)]
 ·apply List.ext_getElem hl
  intro k h1 h2;have:=(key k h1 h2).1;rw[List.getD_eq_getElem?_getD,List.getD_eq_getElem?_getD,List.getElem?_eq_getElem h1,List.getElem?_eq_getElem h2]at this
  exact this
theorem FormC.one {c:Nat}{FN FN':List PL}(h:FormC c FN)(h':FormC c FN'):FN=FN':=by
 obtain⟨P,h⟩:=h;obtain⟨P',h'⟩:=h';exact(ybz h h').1
theorem zy7 (y:Nat)(l:List Nat)(n:Nat):putN (y::l) n=if y<n then y::putN l n else if y=n then y::l else n::y::l:=by
 unfold putN posN;by_cases h:y<n
 ·simp only[List.takeWhile_cons,h,decide_true,if_true,List.length_cons,List.getElem?_cons_succ,List.take_succ_cons,List.drop_succ_cons,List.cons_append]
  split <;> rfl
 ·simp only[List.takeWhile_cons,h,decide_false,Bool.false_eq_true,if_false,List.length_nil,List.getElem?_cons_zero,List.take_zero,List.drop_zero,List.nil_append,Option.some.injEq]
theorem zic {L:List Nat}(n:Nat)(h:L.Pairwise (· < ·)):(putN L n).Pairwise (· < ·):=by
 induction L with
 | nil=>simp[putN,posN]
 | cons y l ih =>
  rw[List.pairwise_cons]at h;rw[zy7];split
  ·refine List.pairwise_cons.2 ⟨fun z hz=>?_,ih h.2⟩
   rcases (zgf l n z).1 hz with hz|rfl
   ·exact h.1 z hz
   ·assumption
  ·split
   ·exact List.pairwise_cons.2 h
   ·refine List.pairwise_cons.2 ⟨fun z hz=>?_,List.pairwise_cons.2 h⟩
    rcases List.mem_cons.1 hz with rfl|hz
    ·omega
    ·have:=h.1 z hz;omega
theorem zdd (L:List Nat):(zaf L).Pairwise (· < ·):=by
 suffices h:∀(L A:List Nat),A.Pairwise (· < ·)→(L.foldl putN A).Pairwise (· < ·)by simpa [zaf] using h L [] (by simp)
 intro L;induction L with
 | nil=>intro A h;exact h
 | cons y l ih=>intro A h;rw[List.foldl_cons];exact ih _ (zic y h)
inductive ReachV (V:List PL) (R:List Nat):Nat→Prop
 | root {x:Nat}:x∈R→ReachV V R x
 | left {x y:Nat}:ReachV V R x→y∈(V.getD x ([],[])).1→ReachV V R y
 | right {x y:Nat}:ReachV V R x→y∈(V.getD x ([],[])).2→ReachV V R y
def zez (Q:List Nat)(L:List Nat):List Nat:=zaf (L.map fun x=>Q.idxOf x)
def zbq (Q:List Nat)(x:PL):PL:=(zez Q x.1,zez Q x.2)
structure OrderIs (V:List PL) (BV:List Nat) (R:List Nat) (Q:List Nat) (FN:List PL):Prop where
 nodup:Q.Nodup
 mem:∀x,x∈Q↔ReachV V R x
 nodes:FN=Q.map fun x=>zbq Q (V.getD x ([],[]))
 up:∀(i j:Nat) (x y:PL),i<j→FN[i]?=some x→FN[j]?=some y→klt (BV.getD (Q.getD i 0) 0) x (BV.getD (Q.getD j 0) 0) y
section
variable {V:List PL}{C:List Nat}
theorem BookC.getD (B:BookC V C){j:Nat}(hj:j<V.length):V[j]?=some (V.getD j ([],[])):=by
 rw[List.getD_eq_getElem?_getD,List.getElem?_eq_getElem hj];rfl
theorem BookC.left (B:BookC V C){x y:Nat}(hx:x<V.length)(hy:y∈(V.getD x ([],[])).1):y<x/\hasL (C.getD x 0) (C.getD y 0) :=
 ⟨(B.opts x _ (B.getD hx)).1 y hy,by rw[B.code x _ (B.getD hx),zab];exact za8.2 ⟨y,hy,rfl⟩⟩
theorem BookC.right (B:BookC V C){x y:Nat}(hx:x<V.length)(hy:y∈(V.getD x ([],[])).2):y<x/\hasR (C.getD x 0) (C.getD y 0) :=
 ⟨(B.opts x _ (B.getD hx)).2 y hy,by rw[B.code x _ (B.getD hx),zad];exact za8.2 ⟨y,hy,rfl⟩⟩
theorem zfb (B:BookC V C){R:List Nat}(hR:∀r∈R,r<V.length){x:Nat}(h:ReachV V R x):x<V.length:=by
 induction h with
 | root h=>exact hR _ h
 | left _ hy ih=>have:=(B.left ih hy).1;omega
 | right _ hy ih=>have:=(B.right ih hy).1;omega
theorem zgk {Q:List Nat}{y:Nat}(h:y∈Q):Q.idxOf y<Q.length/\Q.getD (Q.idxOf y) 0=y:=by
 have hl:=List.idxOf_lt_length_of_mem h;refine⟨hl,?_⟩;rw[List.getD_eq_getElem?_getD,List.getElem?_eq_getElem hl];exact List.getElem_idxOf hl
theorem zf3 {Q L:List Nat}{i:Nat}:i∈zez Q L↔∃y∈L,Q.idxOf y=i:=by
 unfold zez;rw[zb2,List.mem_map]
theorem znr (B:BookC V C){BV:List Nat}(hb:∀j,j<V.length→BV.getD j 0=bornC (C.getD j 0)){r:Nat}(hr:r<V.length){Q:List Nat}{FN:List PL}(O:OrderIs V BV [r] Q FN):FormAt (C.getD r 0) FN (Q.map fun x=>C.getD x 0):=by
 have hlt:∀x∈Q,x<V.length:=fun x hx=>zfb B (by simpa using hr) ((O.mem x).1 hx)
 have hF:∀(j:Nat) (x:PL),FN[j]?=some x→∃y,Q[j]?=some y/\y∈Q/\x=zbq Q (V.getD y ([],[])):=by
  intro j x hx;rw[O.nodes,List.getElem?_map]at hx;cases hq:Q[j]? with
  | none=>rw[hq]at hx;cases hx
  | some y=>rw[hq]at hx;exact⟨y,rfl,List.mem_of_getElem? hq,(Option.some.inj hx).symm⟩
 have hP:∀y∈Q,(Q.map fun x=>C.getD x 0).getD (Q.idxOf y) 0=C.getD y 0:=by
  intro y hy;obtain⟨h1,h2⟩:=zgk hy;rw[List.getD_eq_getElem?_getD,List.getElem?_map,List.getElem?_eq_getElem h1];rw[List.getD_eq_getElem?_getD,List.getElem?_eq_getElem h1]at h2;simp only[Option.getD_some]at h2;simp only[Option.map_some,Option.getD_some,h2]
 have hPj:∀(j y:Nat),Q[j]?=some y→(Q.map fun x=>C.getD x 0).getD j 0=C.getD y 0:=by
  intro j y h;rw[List.getD_eq_getElem?_getD,List.getElem?_map,h];rfl
 have hQj:∀(j y:Nat),Q[j]?=some y→Q.getD j 0=y:=by
  intro j y h;rw[List.getD_eq_getElem?_getD,h];rfl
 have hin1:∀y∈Q,∀z∈(V.getD y ([],[])).1,z∈Q:=fun y hy z hz=>(O.mem z).2 (.left ((O.mem y).1 hy) hz)
 have hin2:∀y∈Q,∀z∈(V.getD y ([],[])).2,z∈Q:=fun y hy z hz=>(O.mem z).2 (.right ((O.mem y).1 hy) hz)
 have hlow:∀(j y z:Nat),Q[j]?=some y→z∈Q→bornC (C.getD z 0)<bornC (C.getD y 0)→Q.idxOf z<j:=by
  intro j y z hy hz hbo;have hyQ:=List.mem_of_getElem? hy;have hj:=(List.getElem?_eq_some_iff.1 hy).1;obtain⟨h1,h2⟩:=zgk hz;rcases Nat.lt_trichotomy (Q.idxOf z) j with h|h|h
  ·exact h
  ·rw[h,hQj j y hy]at h2;subst h2;omega
  ·have hl:FN.length=Q.length:=by rw[O.nodes];simp
   have:=O.up j (Q.idxOf z) _ _ h (List.getElem?_eq_getElem (l:=FN) (by omega)) (List.getElem?_eq_getElem (l:=FN) (by omega));rw[hQj j y hy,h2,hb y (hlt y hyQ),hb z (hlt z hz)]at this
   rcases this with h|⟨h,_⟩ <;> omega
 have hside:∀(y:Nat) (l:List Nat),(∀z∈l,z∈Q)→∀i,i∈za1 (Q.map fun x=>C.getD x 0) (zez Q l)↔i∈za1 C l:=by
  intro y l hl i;rw[za8,za8];constructor
  ·rintro⟨k,hk,e⟩
   obtain⟨z,hz,rfl⟩:=zf3.1 hk;rw[hP z (hl z hz)]at e;exact⟨z,hz,e⟩
  ·rintro⟨z,hz,e⟩
   exact⟨Q.idxOf z,zf3.2 ⟨z,hz,rfl⟩,by rw[hP z (hl z hz)];exact e⟩
 refine⟨⟨by rw[O.nodes];simp,fun j x hx=>?_,fun j x hx=>?_,fun j x hx=>?_,?_⟩,fun x=>⟨fun hx=>?_,fun hx=>?_⟩,fun i j x y hij hx hy=>?_⟩
 ·obtain⟨y,hy,hyQ,rfl⟩:=hF j x hx
  constructor
  ·intro i hi
   obtain⟨z,hz,rfl⟩:=zf3.1 hi;exact hlow j y z hy (hin1 y hyQ z hz) (zdx (.inl (B.left (hlt y hyQ) hz).2))
  ·intro i hi
   obtain⟨z,hz,rfl⟩:=zf3.1 hi;exact hlow j y z hy (hin2 y hyQ z hz) (zdx (.inr (B.right (hlt y hyQ) hz).2))
 ·obtain⟨y,hy,hyQ,rfl⟩:=hF j x hx
  exact⟨zdd _,zdd _⟩
 ·obtain⟨y,hy,hyQ,rfl⟩:=hF j x hx
  rw[hPj j y hy,B.code y _ (B.getD (hlt y hyQ))];exact zz0 (fun i=>(hside y _ (hin1 y hyQ) i).symm) (fun i=>(hside y _ (hin2 y hyQ) i).symm)
 ·refine List.nodup_iff_pairwise_ne.2 (List.pairwise_map.2 ((List.nodup_iff_pairwise_ne.1 O.nodup).imp_of_mem fun {a b} ha hb' hne e=>hne ?_))
  have hl:=B.len;exact zcm B.nodup (by have:=hlt a ha;omega) (by have:=hlt b hb';omega) e
 ·obtain⟨y,hy,rfl⟩:=List.mem_map.1 hx
  have hr':=(O.mem y).1 hy;clear hx hy;induction hr' with
  | root h=>simp at h;subst h;exact .root
  | left h hz ih=>exact .step ih (.inl (B.left (zfb B (by simpa using hr) h) hz).2)
  | right h hz ih=>exact .step ih (.inr (B.right (zfb B (by simpa using hr) h) hz).2)
 ·induction hx with
  | root=>exact List.mem_map.2 ⟨r,(O.mem r).2 (.root (by simp)),rfl⟩
  | step _ ho ih =>
   obtain⟨y,hy,rfl⟩:=List.mem_map.1 ih;rw[B.code y _ (B.getD (hlt y hy))]at ho;rcases ho with ho|ho
   ·rw[zab]at ho
    obtain⟨z,hz,rfl⟩:=za8.1 ho;exact List.mem_map.2 ⟨z,hin1 y hy z hz,rfl⟩
   ·rw[zad]at ho
    obtain⟨z,hz,rfl⟩:=za8.1 ho;exact List.mem_map.2 ⟨z,hin2 y hy z hz,rfl⟩
 ·obtain⟨a,ha,haQ,rfl⟩:=hF i x hx
  obtain⟨b,hb',hbQ,rfl⟩:=hF j y hy;have:=O.up i j _ _ hij hx hy;rw[hQj i a ha,hQj j b hb',hb a (hlt a haQ),hb b (hlt b hbQ)]at this
  rw[hPj i a ha,hPj j b hb'];exact this
end
theorem zn4:∀(a b:List Nat),cmpL a b=0→a=b
 | [],[]=>fun _=>rfl
 | [],y::b=>fun h=>by simp[cmpL]at h
 | x::a,[]=>fun h=>by simp[cmpL]at h
 | x::a,y::b=>fun h=>by
  unfold cmpL at h;by_cases e:x=y
  ·subst e;rw[if_pos rfl]at h;rw[zn4 a b h]
  ·rw[if_neg e]at h;split at h <;> cases h
theorem zir:∀(a b c:List Nat),cmpL a b<0→cmpL b c<0→cmpL a c<0
 | [],[],c=>fun h _=>by simp[cmpL]at h
 | [],y::b,[]=>fun _ h=>by simp[cmpL]at h
 | [],y::b,z::c=>fun _ _=>by simp[cmpL]
 | x::a,[],c=>fun h _=>by simp[cmpL]at h
 | x::a,y::b,[]=>fun _ h=>by simp[cmpL]at h
 | x::a,y::b,z::c=>fun h1 h2=>by
  have ih:=zir a b c;unfold cmpL at h1 h2 ⊢;by_cases e1:x=y
  ·subst e1
   rw[if_pos rfl]at h1;by_cases e2:x=z
   ·subst e2;rw[if_pos rfl]at h2 ⊢;exact ih h1 h2
   ·rw[if_neg e2]at h2 ⊢;exact h2
  ·rw[if_neg e1]at h1
   have hxy:x<y:=by
    by_cases q:x<y
    ·exact q
    ·rw[if_neg q]at h1;omega
   by_cases e2:y=z
   ·subst e2;rw[if_neg e1,if_pos hxy];omega
   ·rw[if_neg e2]at h2
    have hyz:y<z:=by
     by_cases q:y<z
     ·exact q
     ·rw[if_neg q]at h2;omega
    rw[if_neg (by omega),if_pos (by omega)];omega
theorem zep {x y z:PL}(h1:zan x y=true)(h2:zan y z=true):zan x z=true:=by
 unfold zan at h1 h2 ⊢;by_cases e1:cmpL x.1 y.1=0
 ·rw[if_pos e1]at h1
  rw[zn4 _ _ e1];by_cases e2:cmpL y.1 z.1=0
  ·rw[if_pos e2]at h2 ⊢
   simp only[decide_eq_true_eq]at h1 h2 ⊢;exact zir _ _ _ h1 h2
  ·rw[if_neg e2]at h2 ⊢;exact h2
 ·rw[if_neg e1]at h1
  simp only[decide_eq_true_eq]at h1;by_cases e2:cmpL y.1 z.1=0
  ·rw[←zn4 _ _ e2,if_neg e1];simpa using h1
  ·rw[if_neg e2]at h2
   simp only[decide_eq_true_eq]at h2;have:=zir _ _ _ h1 h2;rw[if_neg (by omega)];simpa using this
theorem zis {x y:PL}(h1:zan x y=false)(h2:zan y x=false):x=y:=by
 unfold zan at h1 h2;have s1:=zg9 x.1 y.1;have s2:=zg9 x.2 y.2;by_cases e:cmpL x.1 y.1=0
 ·rw[if_pos e]at h1
  rw[if_pos (by omega)]at h2;simp only[decide_eq_false_iff_not]at h1 h2;exact Prod.ext (zn4 _ _ e) (zn4 _ _ (by omega))
 ·rw[if_neg e]at h1
  rw[if_neg (by omega)]at h2;simp only[decide_eq_false_iff_not]at h1 h2;omega
def za4 (V:List PL)(BV:List Nat)(L R:List Nat):List PL × List Nat × Nat :=
 if (zaf L,zaf R)∈V then (V,BV,V.idxOf (zaf L,zaf R))else (V ++ [(zaf L,zaf R)],BV ++ [zah BV (zah BV 0 (zaf L)) (zaf R)],V.length)
theorem zd6 (V:List PL)(BV:List Nat)(L R:List Nat):(za4 V BV L R).2.2<(za4 V BV L R).1.length/\(za4 V BV L R).1.length≤V.length+1/\V <+: (za4 V BV L R).1:=by
 unfold za4;split
 ·rename_i h;exact⟨List.idxOf_lt_length_of_mem h,by simp,List.prefix_refl _⟩
 ·simp
def za6 (V:List PL)(x:Nat):PL:=V.getD x ([],[])
structure QOk (V:List PL) (BV:List Nat) (Q:List Nat):Prop where
 nodup:Q.Nodup
 sorted:Q.Pairwise fun a b=>BV.getD a 0≤BV.getD b 0
 opt1:∀x∈Q,∀y∈(za6 V x).1,y∈Q/\BV.getD y 0<BV.getD x 0
 opt2:∀x∈Q,∀y∈(za6 V x).2,y∈Q/\BV.getD y 0<BV.getD x 0
 up:∀x∈Q,(za6 V x).1.Pairwise (· < ·)/\(za6 V x).2.Pairwise (· < ·)
 inj:∀x∈Q,∀y∈Q,za6 V x=za6 V y→x=y
structure GInv (V:List PL) (BV:List Nat) (Q A:List Nat) (n:Nat):Prop where
 le:n≤Q.length
 perm:A.Perm (Q.take n)
 cut:∀x∈Q.take n,∀y∈Q.drop n,BV.getD x 0<BV.getD y 0
 up:A.Pairwise fun x y=>klt (BV.getD x 0) (zbq A (za6 V x)) (BV.getD y 0) (zbq A (za6 V y))
theorem GInv.start (V:List PL)(BV Q:List Nat):GInv V BV Q [] 0:=⟨Nat.zero_le _,by simp,by simp,by simp⟩
theorem zkd {A G:List Nat}{x:Nat}(h:x∈A):(A++G).idxOf x=A.idxOf x:=by
 rw[List.idxOf_append,if_pos h]
theorem zix {A G l:List Nat}(h:∀x∈l,x∈A):zez (A++G) l=zez A l:=by
 unfold zez;rw[List.map_congr_left fun x hx=>zkd (h x hx)]
theorem zck {A G:List Nat}{x:PL}(h1:∀y∈x.1,y∈A)(h2:∀y∈x.2,y∈A):zbq (A++G) x=zbq A x:=by
 unfold zbq;rw[zix h1,zix h2]
theorem zpm {A l l':List Nat}(h:∀x∈l,x∈A)(h':∀x∈l',x∈A)(u:l.Pairwise (· < ·))(u':l'.Pairwise (· < ·))(e:zez A l=zez A l'):l=l':=by
 have key:∀ {a b:List Nat},(∀x∈a,x∈A)→(∀x∈b,x∈A)→zez A a=zez A b→∀x∈a,x∈b:=by
  intro a b ha hb e x hx;have:A.idxOf x∈zez A b:=by rw[←e];exact zf3.2 ⟨x,hx,rfl⟩
  obtain⟨y,hy,hxy⟩:=zf3.1 this
  have h1:=(zgk (ha x hx)).2;have h2:=(zgk (hb y hy)).2;rw[hxy]at h2;rw[←h1,h2];exact hy
 exact zgt u u' fun x=>⟨key h h' e x,key h' h e.symm x⟩
section
variable {V:List PL}{BV Q A:List Nat}{n:Nat}
theorem GInv.mem (h:GInv V BV Q A n)(x:Nat):x∈A↔x∈Q.take n:=h.perm.mem_iff
theorem QOk.low (q:QOk V BV Q)(h:GInv V BV Q A n){x y:Nat}(hx:x∈Q)(hy:y∈Q)(hlt:BV.getD y 0<BV.getD x 0)(hb:x∈A∨∀z∈Q.drop n,BV.getD x 0≤BV.getD z 0):y∈A:=by
 rw[h.mem];have:y∈Q.take n++Q.drop n:=by rw[List.take_append_drop];exact hy
 rcases List.mem_append.1 this with this|this
 ·exact this
 ·rcases hb with hb|hb
  ·have:=h.cut x ((h.mem x).1 hb) y this;omega
  ·have:=hb y this;omega
theorem QOk.closed (q:QOk V BV Q)(h:GInv V BV Q A n){x:Nat}(hx:x∈A):(∀y∈(za6 V x).1,y∈A)/\∀y∈(za6 V x).2,y∈A:=by
 have hxQ:x∈Q:=List.mem_of_mem_take ((h.mem x).1 hx);exact⟨fun y hy=>q.low h hxQ (q.opt1 x hxQ y hy).1 (q.opt1 x hxQ y hy).2 (.inl hx),fun y hy=>q.low h hxQ (q.opt2 x hxQ y hy).1 (q.opt2 x hxQ y hy).2 (.inl hx)⟩
theorem QOk.group (q:QOk V BV Q)(h:GInv V BV Q A n)(hn:n<Q.length){x:Nat}(hx:x∈Q)(hb:BV.getD x 0=BV.getD (Q.getD n 0) 0):(∀y∈(za6 V x).1,y∈A)/\∀y∈(za6 V x).2,y∈A:=by
 have hz:∀z∈Q.drop n,BV.getD x 0≤BV.getD z 0:=by
  intro z hz;rw[hb];rw[List.drop_eq_getElem_cons hn]at hz;rcases List.mem_cons.1 hz with rfl|hz
  ·rw[List.getD_eq_getElem?_getD (l:=Q),List.getElem?_eq_getElem hn];exact Nat.le_refl _
  ·have:=q.sorted
   rw[←List.take_append_drop n Q,List.pairwise_append]at this
   have h2:=this.2.1
   rw[List.drop_eq_getElem_cons hn,List.pairwise_cons]at h2;have h3:=h2.1 z hz;rw[List.getD_eq_getElem?_getD (l:=Q),List.getElem?_eq_getElem hn];exact h3
 exact⟨fun y hy=>q.low h hx (q.opt1 x hx y hy).1 (q.opt1 x hx y hy).2 (.inr hz),fun y hy=>q.low h hx (q.opt2 x hx y hy).1 (q.opt2 x hx y hy).2 (.inr hz)⟩
theorem GInv.step (q:QOk V BV Q)(h:GInv V BV Q A n){m:Nat}{G G':List Nat}(hm:0<m)(hnm:n+m≤Q.length)(hG:G=(Q.drop n).take m)(hb:∀x∈G,BV.getD x 0=BV.getD (Q.getD n 0) 0)
  (hend:n+m=Q.length∨BV.getD (Q.getD (n+m) 0) 0≠BV.getD (Q.getD n 0) 0) (hp:G'.Perm G) (hs:G'.Pairwise fun a b=>zan (zbq A (za6 V b)) (zbq A (za6 V a))=false):GInv V BV Q (A++G') (n+m):=by
 have hn:n<Q.length:=by omega
 have htake:Q.take (n+m)=Q.take n++(Q.drop n).take m:=List.take_add;have hdrop:Q.drop (n+m)=(Q.drop n).drop m:=by rw[List.drop_drop]
 have hGQ:∀x∈G,x∈Q:=fun x hx=>by rw[hG]at hx;exact List.mem_of_mem_drop (List.mem_of_mem_take hx)
 have hG'Q:∀x∈G',x∈G:=fun x hx=>(hp.mem_iff).1 hx
 have hGd:∀x∈G,x∈Q.drop n:=fun x hx=>by rw[hG]at hx;exact List.mem_of_mem_take hx
 have hnd:G'.Nodup:=by
  rw[hp.nodup_iff,hG];exact(List.take_sublist _ _).nodup ((List.drop_sublist _ _).nodup q.nodup)
 refine⟨hnm,?_,?_,?_⟩
 ·rw[htake,←hG];exact h.perm.append hp
 ·intro x hx y hy
  have hyb:BV.getD (Q.getD n 0) 0<BV.getD y 0:=by
   have hlt:n+m<Q.length:=by
    rcases Nat.lt_or_ge (n+m) Q.length with h1|h1
    ·exact h1
    ·rw[List.drop_eq_nil_of_le h1]at hy;cases hy
   have hne:BV.getD (Q.getD (n+m) 0) 0≠BV.getD (Q.getD n 0) 0:=by
    rcases hend with h1|h1
    ·omega
    ·exact h1
   have e1:Q.getD n 0=Q[n]:=by rw[List.getD_eq_getElem?_getD,List.getElem?_eq_getElem hn];rfl
   have e2:Q.getD (n+m) 0=Q[n+m]:=by rw[List.getD_eq_getElem?_getD,List.getElem?_eq_getElem hlt];rfl
   have h1:=List.pairwise_iff_getElem.1 q.sorted n (n+m) hn hlt (by omega);rw[←e1,←e2]at h1;rw[List.drop_eq_getElem_cons hlt]at hy;rcases List.mem_cons.1 hy with rfl|hy
   ·rw[←e2];omega
   ·have:=q.sorted
    rw[←List.take_append_drop (n+m) Q,List.pairwise_append]at this
    have h2:=this.2.1
    rw[List.drop_eq_getElem_cons hlt,List.pairwise_cons]at h2;have h3:=h2.1 y hy;rw[←e2]at h3;omega
  rw[htake,←hG,List.mem_append]at hx;rcases hx with hx|hx
  ·refine h.cut x hx y ?_
   rw[hdrop]at hy;exact List.mem_of_mem_drop hy
  ·rw[hb x hx];exact hyb
 ·have hA:∀x∈A,zbq (A++G') (za6 V x)=zbq A (za6 V x):=fun x hx=>zck (q.closed h hx).1 (q.closed h hx).2
  have hGr:∀x∈G',zbq (A++G') (za6 V x)=zbq A (za6 V x):=fun x hx =>
   have hg:=q.group h hn (hGQ x (hG'Q x hx)) (hb x (hG'Q x hx));zck hg.1 hg.2
  refine List.pairwise_append.2 ⟨h.up.imp_of_mem fun {a b} ha hb' hk=>?_,?_,fun x hx y hy=>?_⟩
  ·rw[hA a ha,hA b hb'];exact hk
  ·refine((List.nodup_iff_pairwise_ne.1 hnd).and hs).imp_of_mem fun {a b} ha hb' hk=>?_
   have ga:=hG'Q a ha;have gb:=hG'Q b hb';have g1:=q.group h hn (hGQ a ga) (hb a ga);have g2:=q.group h hn (hGQ b gb) (hb b gb);rw[hGr a ha,hGr b hb'];refine .inr ⟨by rw[hb a ga,hb b gb],?_⟩;cases hc:zan (zbq A (za6 V a)) (zbq A (za6 V b))with
   | true=>rfl
   | false =>
    exfalso
    have e:=zis hc hk.2;unfold zbq at e;have e1:=zpm g1.1 g2.1 (q.up a (hGQ a ga)).1 (q.up b (hGQ b gb)).1 (congrArg Prod.fst e);have e2:=zpm g1.2 g2.2 (q.up a (hGQ a ga)).2 (q.up b (hGQ b gb)).2 (congrArg Prod.snd e);exact hk.1 (q.inj a (hGQ a ga) b (hGQ b gb) (Prod.ext e1 e2))
  ·exact .inl (h.cut x ((h.mem x).1 hx) y ((hGd y (hG'Q y hy))) |> fun h1=>h1)
theorem GInv.order (h:GInv V BV Q A Q.length)(hn:Q.Nodup){R:List Nat}(hr:∀x,x∈Q↔ReachV V R x):OrderIs V BV R A (A.map fun x=>zbq A (za6 V x)):=by
 have hp:=h.perm;rw[List.take_length]at hp;refine⟨(hp.nodup_iff).2 hn,fun x=>(hp.mem_iff).trans (hr x),rfl,fun i j x y hij hx hy=>?_⟩;rw[List.getElem?_map]at hx hy;cases ha:A[i]? with
 | none=>rw[ha]at hx;cases hx
 | some a =>
  cases hb:A[j]? with
  | none=>rw[hb]at hy;cases hy
  | some b =>
   rw[ha]at hx;rw[hb]at hy;cases hx;cases hy
   obtain⟨hi,rfl⟩:=List.getElem?_eq_some_iff.1 ha
   obtain⟨hj,rfl⟩:=List.getElem?_eq_some_iff.1 hb
   rw[List.getD_eq_getElem?_getD (l:=A),ha,List.getD_eq_getElem?_getD (l:=A),hb];exact List.pairwise_iff_getElem.1 h.up i j hi hj hij
end
end Go.Proofs.YtghekfmfonoocaaGreatDoor
namespace Go.Proofs.YtghekfmfonoocaaGreatDoor
set_option linter.unusedVariables false
set_option linter.unusedSimpArgs false
open Go.RowKit Go.Sort
theorem zfi {α:Type}[Inhabited α]{enc:α→Value}{w:World}{base:Nat}{e:TypeId}{g n cap:Nat}{xs:List Value}(h:w.ownsRow base e 1 (.slice (some ⟨g,0,none⟩) n cap) n xs)(d:Array α)(hx:xs=d.toList.map enc):Holds enc w g 0 d:=by
 rcases h.2 with ⟨h0,_⟩|⟨g',cap',cur,hv,hb,hg,hnc,hcm,hs,ht⟩
 ·cases h0
 ·cases hv
  have hl:xs.length=n*1:=h.1;intro j hj;have hjn:j<n:=by rw[hx]at hl;simp at hl;omega
  refine⟨?_,by simp[World.frozen?,hg]⟩;rw[Nat.zero_add,cell_of_row w g j cur _ _ hg];have:(cur.toList.take (n*1))[j]?=some (enc d[j]!):=by
   rw[ht,hx,List.getElem?_map,Array.getElem?_toList,Array.getElem?_eq_getElem hj,getElem!_pos d j hj];rfl
  rw[List.getElem?_take,if_pos (by omega)]at this
  simpa using this
theorem zms {α:Type}[Inhabited α]{enc:α→Value}{w:World}{g:Nat}{cur:Array Value}{e:TypeId}{fr:Nat × Nat}(h:w.heap[g]?=some (.cells cur e fr))(d:Array α)(q:Nat)(os:Array Obj) :
  (grow (putRow enc (Sort.ahead w q) g 0 d) os).heap[g]?=some (.cells (putCells enc 0 d cur) e fr)/\Fr (fun k=>k=g) w (grow (putRow enc (Sort.ahead w q) g 0 d) os):=by
 have hlt:g<w.heap.size:=(Array.getElem?_eq_some_iff.1 h).1;constructor
 ·rw[heap_grow_old _ _ (by simpa using hlt)]
  unfold putRow mapBlock;simp only[Array.getElem?_modify,if_true,Sort.heap_ahead,h,Option.map_some,onCells]
 ·refine⟨rfl,rfl,rfl,by simp,fun k hk hne=>?_⟩
  rw[heap_grow_old _ _ (by simpa using hk)];unfold putRow mapBlock;simp only[Array.getElem?_modify,Sort.heap_ahead];rw[if_neg (fun e=>hne e.symm)]
theorem zfd {α:Type}[Inhabited α]{enc:α→Value}{w:World}{base:Nat}{e:TypeId}{g n cap:Nat}{xs:List Value}(h:w.ownsRow base e 1 (.slice (some ⟨g,0,none⟩) n cap) n xs)(d:Array α)(hd:d.size=n)(q:Nat)(os:Array Obj) :
  (grow (putRow enc (Sort.ahead w q) g 0 d) os).ownsRow base e 1 (.slice (some ⟨g,0,none⟩) n cap) n (d.toList.map enc)/\Fr (fun k=>k=g) w (grow (putRow enc (Sort.ahead w q) g 0 d) os):=by
 rcases h.2 with ⟨h0,_⟩|⟨g',cap',cur,hv,hb,hg,hnc,hcm,hs,ht⟩
 ·cases h0
 ·cases hv
  obtain⟨h1,h2⟩:=zms (enc:=enc) hg d q os;refine⟨⟨by simp[hd],.inr ⟨g,cap,_,rfl,hb,h1,hnc,hcm,by simp[putCells,hs],?_⟩⟩,h2⟩;apply List.ext_getElem?
  intro i;rw[List.getElem?_take];by_cases hi:i<n*1
  ·rw[if_pos hi,List.getElem?_map,Array.getElem?_toList,Array.getElem?_toList,Array.getElem?_eq_getElem (xs:=d) (i:=i) (by omega)]
   unfold putCells;rw[Array.getElem?_mapIdx,Array.getElem?_eq_getElem (by omega)];simp only[Option.map_some];rw[if_pos ⟨Nat.zero_le _,by omega⟩,Nat.sub_zero,getElem!_pos d i (by omega)]
  ·rw[if_neg hi,List.getElem?_map,Array.getElem?_toList,Array.getElem?_eq_none (by omega)];rfl
theorem zs5 {w:World}{base:Nat}{e:TypeId}{g n cap m:Nat}{xs:List Value}(h:w.ownsRow base e 1 (.slice (some ⟨g,0,none⟩) n cap) n xs)(hm:m≤n):w.ownsRow base e 1 (.slice (some ⟨g,0,none⟩) m cap) m (xs.take m):=by
 rcases h.2 with ⟨h0,_⟩|⟨g',cap',cur,hv,hb,hg,hnc,hcm,hs,ht⟩
 ·cases h0
 ·cases hv
  have hl:=h.1;refine⟨by simp;omega,.inr ⟨g,cap,cur,rfl,hb,hg,by omega,hcm,hs,?_⟩⟩;rw[←ht,List.take_take,Nat.mul_one,Nat.mul_one,Nat.min_eq_left hm]
theorem zo2 (zs:List Int)(h:zs.Pairwise (·≤·)):(Lib.compact zs).Pairwise (· < ·)/\(∀x,x∈Lib.compact zs↔x∈zs)/\(Lib.compact zs).length≤zs.length:=by
 have hle:∀i j:Nat,i≤j→j<zs.length→zs.toArray[i]! ≤ zs.toArray[j]! := by
  intro i j hij hj;rw[getElem!_pos zs.toArray i (by simp;omega),getElem!_pos zs.toArray j (by simpa using hj)];simp only[List.getElem_toArray];rcases Nat.lt_or_ge i j with hlt|hge
  ·exact List.pairwise_iff_getElem.1 h i j (by omega) hj hlt
  ·have:i=j:=by omega
   subst this;exact Int.le_refl _
 have key:∀m,m≤zs.length→(Lib.compactUpTo zs.toArray m).Pairwise (· < ·)/\(∀x,x∈Lib.compactUpTo zs.toArray m↔∃j,j<m/\zs.toArray[j]! = x)/\(Lib.compactUpTo zs.toArray m).length≤m:=by
  intro m;induction m with
  | zero=>intro _;refine⟨by simp[Lib.compactUpTo],fun x=>⟨fun hx=>by simp[Lib.compactUpTo]at hx,fun⟨j,hj,_⟩=>absurd hj (Nat.not_lt_zero _)⟩,by simp[Lib.compactUpTo]⟩
  | succ m ih =>
   intro hm;obtain⟨i1,i2,i3⟩:=ih (by omega);rw[Lib.compactUpTo_succ];by_cases hk:Lib.keeps zs.toArray m=true
   ·rw[if_pos hk]
    refine⟨?_,fun x=>?_,by simp;omega⟩
    ·rw[List.pairwise_append]
     refine⟨i1,by simp,fun x hx y hy=>?_⟩;rw[List.mem_singleton]at hy;subst hy;obtain⟨j,hj,rfl⟩:=(i2 x).1 hx;unfold Lib.keeps at hk;simp only[decide_eq_true_eq]at hk;rcases hk with hk|hk
     ·omega
     ·have h1:=hle j (m-1) (by omega) (by omega)
      have h2:=hle (m-1) m (by omega) (by omega);omega
    ·rw[List.mem_append,i2]
     constructor
     ·rintro(⟨j,hj,e⟩|hx)
      ·exact⟨j,by omega,e⟩
      ·rw[List.mem_singleton]at hx;exact⟨m,by omega,hx.symm⟩
     ·rintro⟨j,hj,e⟩
      rcases Nat.lt_or_ge j m with hlt|hge
      ·exact .inl ⟨j,hlt,e⟩
      ·have:j=m:=by omega
       subst this;exact .inr (List.mem_singleton.2 e.symm)
   ·rw[if_neg hk]
    refine⟨by simpa using i1,fun x=>?_,by simp;omega⟩;rw[List.append_nil,i2];constructor
    ·rintro⟨j,hj,e⟩;exact⟨j,by omega,e⟩
    ·rintro⟨j,hj,e⟩
     rcases Nat.lt_or_ge j m with hlt|hge
     ·exact⟨j,hlt,e⟩
     ·have:j=m:=by omega
      subst this
      unfold Lib.keeps at hk;simp only[decide_eq_true_eq]at hk;have h0:¬j=0:=fun e=>hk (.inl e)
      have h1:zs.toArray[j]! = zs.toArray[j-1]! := Decidable.of_not_not fun e=>hk (.inr e)
      exact⟨j-1,by omega,by rw[←h1];exact e⟩
 obtain⟨k1,k2,k3⟩:=key zs.length (Nat.le_refl _);refine⟨k1,fun x=>?_,k3⟩;unfold Lib.compact;rw[k2];constructor
 ·rintro⟨j,hj,rfl⟩
  rw[getElem!_pos zs.toArray j (by simpa using hj)];simp
 ·intro hx
  obtain⟨j,hj,e⟩:=List.getElem_of_mem hx;exact⟨j,hj,by rw[getElem!_pos zs.toArray j (by simpa using hj)];simpa using e⟩
def zdt (L:List Nat):List Int:=(ints L).mergeSort fun x y=>decide (x≤y)
theorem zoc (L:List Nat):(zdt L).Pairwise (·≤·):=by
 have:=List.pairwise_mergeSort (le:=fun x y:Int=>decide (x≤y)) (fun a b c h1 h2=>by simp at *;omega) (fun a b=>by simp;omega) (ints L);simpa [zdt] using this
theorem zia (L:List Nat):(zdt L).Perm (ints L):=List.mergeSort_perm _ _
theorem zoz (L:List Nat):Lib.compact (zdt L)=ints (zaf L):=by
 obtain⟨h1,h2,_⟩:=zo2 (zdt L) (zoc L);have hnn:∀x∈Lib.compact (zdt L),∃n:Nat,x=(n:Int)/\n∈L:=fun x hx=>by
  have:=((zia L).mem_iff).1 ((h2 x).1 hx);unfold ints at this
  obtain⟨n,hn,rfl⟩:=List.mem_map.1 this
  exact⟨n,rfl,hn⟩
 have e:Lib.compact (zdt L)=ints ((Lib.compact (zdt L)).map Int.toNat):=by
  unfold ints;rw[List.map_map];refine((List.map_congr_left fun x hx=>?_).trans (List.map_id' _)).symm;obtain⟨n,rfl,_⟩:=hnn x hx;rfl
 rw[e];congr 1
 refine zgt ?_ (zdd L) fun x=>?_
 ·refine List.pairwise_map.2 (h1.imp_of_mem fun {a b} ha hb hlt=>?_)
  obtain⟨n,rfl,_⟩:=hnn a ha;obtain⟨m,rfl,_⟩:=hnn b hb;simpa using hlt
 ·rw[zb2]
  constructor
  ·intro hx
   obtain⟨y,hy,rfl⟩:=List.mem_map.1 hx;obtain⟨n,rfl,hn⟩:=hnn y hy;simpa using hn
  ·intro hx
   refine List.mem_map.2 ⟨(x:Int),(h2 _).2 (((zia L).mem_iff).2 ?_),by simp⟩;unfold ints;exact List.mem_map.2 ⟨x,hx,rfl⟩
theorem ztf {base g cap:Nat}(L:List Nat)(w:World)(h:w.ownsRow base 3 1 (.slice (some ⟨g,0,none⟩) L.length cap) L.length (L.map encN))(hl:L.length<1000000000000) :
  Calls Tryz.prog 167 #[.slice (some ⟨g,0,none⟩) L.length cap] w fun e w'=>e=.returned (.tuple #[])/\w'.ownsRow base 3 1 (.slice (some ⟨g,0,none⟩) L.length cap) L.length ((zdt L).map encI)/\Fr (fun k=>k=g) w w':=by
 have hx:L.map encN=(ints L).toArray.toList.map (Value.int .i64):=by simp[ints,encN,Function.comp_def]
 have hH:=zfi (enc:=Value.int .i64) h (ints L).toArray hx;have hlen:(ints L).length=L.length:=by simp[ints]
 have hlt:g<w.heap.size:=(h.lt g rfl).2;have hc:=Any.slices_Sort_int Tryz.laySort g 0 cap (ints L) w hH hlt (by rw[hlen];omega);rw[hlen]at hc;refine Calls.mono (P:=Tryz.prog) hc ?_
 rintro e w' ⟨rfl,n,os,rfl⟩;obtain⟨h1,h2⟩:=zfd (enc:=Value.int .i64) h (zdt L).toArray (by simp[zdt,ints]) n os;exact⟨rfl,h1,h2⟩
theorem ya3 (b off c:Nat)(L:List Nat)(w:World)(hL:Nats w (.slice (some ⟨b,off,none⟩) L.length c) L)(hl:L.length<1000000000000) :
  Calls Tryz.prog 169 #[.slice (some ⟨b,off,none⟩) L.length c] w fun e w'=>∃g cap,e=.returned (.slice (some ⟨g,0,none⟩) L.length cap)/\w'.ownsRow w.heap.size 3 1 (.slice (some ⟨g,0,none⟩) L.length cap) L.length (L.map encN)/\Fr NoM w w':=by
 have hlen:(ints L).length=L.length:=by simp[ints]
 obtain⟨a,c',e,h1,h2,h3⟩:=hL;have hc:=Any.slices_Clone_int Tryz.layClone b off L.length c (ints L) w (by omega) (by omega) (fun j hj=>by
  rw[hlen]at hj;obtain⟨b',off',e1,c1⟩:=h3 j L[j] (List.getElem?_eq_getElem _);cases e;cases e1
  rw[c1];simp[ints,encN,hj])
 refine Calls.mono (P:=Tryz.prog) hc ?_
 rintro e' w' ⟨v',rfl,h4,h5,h6⟩;rcases h4.2 with ⟨h0,_⟩|⟨g,cap,cur,rfl,hr⟩
 ·exact absurd h0 h5
 ·refine⟨g,cap,rfl,?_,Fr.of_below h6⟩
  have e:((ints L).take L.length).map (Value.int .i64)=L.map encN:=by
   rw[List.take_of_length_le (by omega)];simp[ints,encN,Function.comp_def]
  rw[←e];exact h4
theorem zsv {base g cap:Nat}(zs:List Int)(w:World)(h:w.ownsRow base 3 1 (.slice (some ⟨g,0,none⟩) zs.length cap) zs.length (zs.map encI))(hl:zs.length<1000000000000)(hcl:(Lib.compact zs).length≤zs.length) :
  Calls Tryz.prog 170 #[.slice (some ⟨g,0,none⟩) zs.length cap] w fun e w'=>e=.returned (.slice (some ⟨g,0,none⟩) (Lib.compact zs).length cap)/\w'.ownsRow base 3 1 (.slice (some ⟨g,0,none⟩) (Lib.compact zs).length cap) (Lib.compact zs).length ((Lib.compact zs).map encI)/\Fr (fun k=>k=g) w w':=by
 have hcap:zs.length≤cap:=by
  rcases h.2 with ⟨h0,_⟩|⟨g',cap',cur,hv,_,_,hnc,_⟩
  ·cases h0
  ·cases hv;exact hnc
 have hH:=zfi (enc:=Value.int .i64) h zs.toArray rfl;have hc:=Any.slices_Compact_int Tryz.layCompact g 0 cap zs w hH (by omega) hcap;refine Calls.mono (P:=Tryz.prog) hc ?_
 rintro e w' ⟨rfl,q,rfl⟩;obtain⟨h1,h2⟩:=zfd (enc:=Value.int .i64) h (Lib.compact zs++List.replicate (zs.length-(Lib.compact zs).length) 0).toArray (by simp;omega) q #[];rw[grow_empty]at h1 h2;refine⟨rfl,?_,h2⟩;have h3:=zs5 h1 hcl;rw[List.map_append,List.take_left' (by simp)]at h3;exact h3
theorem zg7 (b off c:Nat)(L:List Nat)(w:World)(hL:Nats w (.slice (some ⟨b,off,none⟩) L.length c) L)(hl:L.length<1000000000000) :
  Calls Tryz.prog 152 #[.slice (some ⟨b,off,none⟩) L.length c] w fun e w'=>∃g cap,e=.returned (.slice (some ⟨g,0,none⟩) (zaf L).length cap)/\w'.ownsRow w.heap.size 3 1 (.slice (some ⟨g,0,none⟩) (zaf L).length cap) (zaf L).length ((zaf L).map encN)/\Fr NoM w w':=by
 have hlS:(zdt L).length=L.length:=by simp[zdt,ints]
 have hcl:=(zo2 (zdt L) (zoc L)).2.2;have hcs:=zoz L;have HL:=Hh hL;have Hl:=Hh hl;have HlS:=Hh hlS;have Hcl:=Hh hcl;have Hcs:=Hh hcs;clear hL hl hlS hcl hcs;go_enter Tryz.func152,Tryz.ntmps152;go_wp2_with fail;refine(ya3 b off c L w HL.out Hl.out).mono ?_
 rintro e w1 ⟨g,cap,rfl,h1,f1⟩;have H1:=Hh h1;have F1:=Hh f1;clear h1 f1;go_wp2_with fail;refine(ztf L w1 H1.out Hl.out).mono ?_
 rintro e w2 ⟨rfl,h2,f2⟩;have H2:=Hh (show w2.ownsRow w.heap.size 3 1 (.slice (some ⟨g,0,none⟩) (zdt L).length cap) (zdt L).length ((zdt L).map encI)by rw[HlS.out];exact h2);have F2:=Hh f2;clear h2 f2;go_wp2_with fail;rw[←HlS.out];refine(zsv (zdt L) w2 H2.out (by rw[HlS.out];exact Hl.out) Hcl.out).mono ?_
 rintro e w3 ⟨rfl,h3,f3⟩;rw[Hcs.out]at h3 ⊢;have hlen:(ints (zaf L)).length=(zaf L).length:=by simp[ints]
 rw[hlen]at h3 ⊢;have H3:=Hh h3;have F3:=Hh f3;clear h3 f3;go_wp2;go_ret;refine⟨g,cap,rfl,?_,?_⟩
 ·have e:(ints (zaf L)).map encI=(zaf L).map encN:=by simp[ints,encN,encI,Function.comp_def]
  rw[←e];exact H3.out
 ·refine(F1.out.trans F2.out (fun k hk e=>?_)).trans F3.out (fun k hk e=>?_)
  ·have:=(H1.out.lt g rfl).1;omega
  ·have:=(H1.out.lt g rfl).1;omega
end Go.Proofs.YtghekfmfonoocaaGreatDoor
namespace Go.Proofs.YtghekfmfonoocaaGreatDoor
set_option linter.unusedVariables false
set_option linter.unusedSimpArgs false
open Go.RowKit
theorem zop (n:Nat)(W:World)(hn:n<1000000000):(Instr.makeSlice 82 (.int .i64 (n:Int)) (.int .i64 (n:Int))).run Tryz.prog W=.ok (.slice (some ⟨W.heap.size,0,none⟩) n n) (W.alloc (.cells (ze9 encN 0 n) 3)):=by
 obtain⟨i0,hi,hz0,hz1,hz2⟩:=info_parts za9;have h:=run_make (P:=Tryz.prog) W 82 3 i0 (.int .i64 0) Tryz.underlying82 hi hz0 .i64 .i64 n n (by omega) (by omega) (by rw[hz2];omega) (by omega);rw[h,hz1,Int.toNat_natCast,Nat.mul_one];have:madeCells (Value.cells (.int .i64 0)) n=ze9 encN 0 n:=by
  apply Array.ext'
  unfold ze9;rw[List.toList_toArray,madeCells,Array.toList_map,Array.toList_range];refine(List.eq_replicate_iff.2 ⟨by simp,fun b hb=>?_⟩:_=List.replicate n (Value.int .i64 0)).trans (by simp[encN]);obtain⟨y,_,rfl⟩:=List.mem_map.1 hb;simp[Value.cells,Nat.mod_one]
 rw[this]
set_option maxRecDepth 4000 in
set_option maxHeartbeats 8000000 in
theorem zuh {S:Nat→Prop}(bb root:Nat)(NL:List PL)(BL:List Nat)(w:World)(hB:BookS S w bb NL BL)(hOK:BookOK NL BL)(hr:root<NL.length)(hn:NL.length<1000000)(hlen:∀y∈NL,y.1.length<100000000/\y.2.length<100000000) :
  Calls Tryz.prog 72 #[.pointer (some ⟨bb,0,none⟩),.int .i64 (root:Int)] w fun e w'=>∃v',e=.returned (.agg #[v'])/\NodeOwn w.heap.size w' v' (zd3 NL BL root)/\Fr NoM w w':=by
 have HB:=Hh hB.book;have HOK:=Hh hOK;have Hr:=Hh hr;have Hn:=Hh hn;have HLen:=Hh hlen;have mk:=fun W=>zop (root+1) W (by omega)
 have mk':∀W:World,(Instr.makeSlice 82 (.int .i64 ((root:Int)+1)) (.int .i64 ((root:Int)+1))).run Tryz.prog W=.ok (.slice (some ⟨W.heap.size,0,none⟩) (root+1) (root+1)) (W.alloc (.cells (ze9 encN 0 (root+1)) 3)):=fun W=>by have:=mk W;rw[show((root+1:Nat):Int)=(root:Int)+1 from by omega]at this;exact this
 clear hB hOK hlen mk;go_enter Tryz.func72,Tryz.ntmps72;go_wp2_with fail;have F1:Fr NoM w (w.alloc (.cells #[.slice none 0 0] 26)):=(Fr.refl NoM w).alloc _;refine(zrz bb root NL BL _ (HB.out.fr0 F1) Hr.out HOK.out.opts (by have:=Hn.out;omega)).mono ?_
 rintro e w2 ⟨rfl,hneed,F2⟩;have hb4:w2.heap[w.heap.size]?=some (.cells #[.slice none 0 0] 26 (0,0)):=F2.heap (heap_alloc_new w _) (fun q=>q);have hs2:=F2.size;simp only[World.size_alloc]at hneed hs2 ⊢;have HNeed:=Hh hneed;have HF2:=Hh (F1.trans F2 (fun _ _ q=>q));have HB4:=Hh hb4;have HS2:=Hh hs2;clear hneed F1 F2 hb4 hs2;obtain⟨nv0,bv0,NV0,hBA⟩:=HB.out;obtain⟨na,nc,rfl,hnc,hncm,hnn⟩:=hBA.nodeL;have hbr:=hBA.born;have hbl:=hBA.blk;obtain⟨ba,bc,rfl,hbc0,hbcm,hbc⟩:=SliceOf.of_owns (L:=BL) hbr rfl;have c0:w.cell? ⟨bb,0,none⟩=some (.slice na NL.length nc):=by rw[cell_of_row w bb 0 _ _ _ hbl];rfl
 have c1:w.cell? ⟨bb,1,none⟩=some (.slice ba BL.length bc):=by rw[cell_of_row w bb 1 _ _ _ hbl];rfl
 have hbL:BL.length=NL.length:=hBA.lens;have hrB:root<BL.length:=by rw[hbL];exact Hr.out
 obtain⟨bR,hbR⟩:∃x,BL[root]?=some x:=⟨_,List.getElem?_eq_getElem hrB⟩;have hbRle:bR≤root:=HOK.out.born root bR hbR;have HN:=Hh (fun(W:World) (f:Fr NoM w2 W) (j:Nat) (y:PL) (hy:NL[j]?=some y)=>show ∃b off lv rv,na=some ⟨b,off,none⟩/\W.cell? ⟨b,off+j*2,none⟩=some lv/\W.cell? ⟨b,off+j*2+1,none⟩=some rv/\Nats W lv y.1/\Nats W rv y.2 from by
  obtain⟨b,off,lv,rv,e,_,d1,d2,n1,n2,_,_⟩:=hnn j y hy;have g:=HF2.out.trans f (fun _ _ q=>q);exact⟨b,off,lv,rv,e,g.cell d1 (fun q=>q),g.cell d2 (fun q=>q),n1.fr0 g,n2.fr0 g⟩)
 have HBn:=Hh (fun(W:World) (f:Fr NoM w2 W) (j:Nat) (y:Nat) (hy:BL[j]?=some y)=>show ∃b off,ba=some ⟨b,off,none⟩/\W.cell? ⟨b,off+j,none⟩=some (.int .i64 (y:Int))from by
  obtain⟨b,off,e,d1⟩:=hbc j y hy;exact⟨b,off,e,(HF2.out.trans f (fun _ _ q=>q)).cell d1 (fun q=>q)⟩)
 have HC:=Hh (fun(W:World) (f:Fr NoM w2 W)=>show W.cell? ⟨bb,0,none⟩=some (.slice na NL.length nc)/\W.cell? ⟨bb,1,none⟩=some (.slice ba BL.length bc)from
  ⟨(HF2.out.trans f (fun _ _ q=>q)).cell c0 (fun q=>q),(HF2.out.trans f (fun _ _ q=>q)).cell c1 (fun q=>q)⟩)
 have HbR:=Hh hbR;have HbL:=Hh hbL;clear hBA hnn hbr hbl hbc c0 c1 hbR hbL;go_wp2;obtain⟨w5,hw5⟩:∃w5:World,w5=((w2.alloc (.cells (ze9 encN 0 (root+1)) 3)).alloc (.cells #[] 85)).alloc (.cells #[.slice (some ⟨w2.heap.size+1,0,none⟩) 0 0] 26):=⟨_,rfl⟩;have F5:Fr NoM w2 w5:=by rw[hw5];exact(((Fr.refl NoM w2).alloc _).alloc _).alloc _
 have q6:RowIs 3 encN w5 w2.heap.size (List.replicate (root+1) 0):=by
  rw[hw5];exact((RowIs.made 3 encN w2 0 (root+1)).fr (((Fr.refl NoM _).alloc _).alloc _) (fun q=>q))
 have q7:w5.heap[w2.heap.size+2]?=some (.cells #[.slice (some ⟨w2.heap.size+1,0,none⟩) 0 0] 26 (0,0)):=by
  rw[hw5];have h:=heap_alloc_new ((w2.alloc (.cells (ze9 encN 0 (root+1)) 3)).alloc (.cells #[] 85)) (.cells #[.slice (some ⟨w2.heap.size+1,0,none⟩) 0 0] 26 (0,0));simp only[World.size_alloc]at h;exact h
 have q1:NodeRow (fun _=>False) (w2.heap.size+1) w5 (.slice (some ⟨w2.heap.size+1,0,none⟩) 0 0) []:=by
  refine⟨[],?_,rfl,by simp⟩;have h:=World.ownsRow_made (base:=w2.heap.size+1) (e:=85) (size:=2) (w2.alloc (.cells (ze9 encN 0 (root+1)) 3)) #[] 0 (by simp) (by decide) (by simp);simp only[World.size_alloc]at h;rw[hw5];exact h.alloc _
 rw[show w2.heap.size+1+1=w2.heap.size+2 from rfl,←hw5];have HW5:=Hh hw5;have HF5:=Hh F5;have Q6:=Hh q6;have Q7:=Hh q7;have Q1:=Hh q1;clear hw5 F5 q6 q7 q1;go_loopw [8] (fun i wr=>∃(n:Nat) (T:Nat→Prop) (nv:Value),i=.int .i64 n/\n≤bR+1/\RowIs 3 encN wr w2.heap.size (zay NL BL (zap NL root) root n).1 ∧
   wr.heap[w2.heap.size+2]?=some (.cells #[nv] 26 (0,0))/\NodeRow T (w2.heap.size+1) wr nv (zay NL BL (zap NL root) root n).2/\(∀q,T q→w2.heap.size+2<q)/\(∀q,nv.ownBlock=some q→q≠w2.heap.size+2/\¬T q)/\Fr NoM w2 wr) (fun i _=>bR+1-(intOf i).toNat)
 case atStart=>exact⟨0,_,_,rfl,Nat.zero_le _,Q6.out,Q7.out,Q1.out,fun q h=>h.elim,fun q hq=>by simp[Value.ownBlock]at hq;subst hq;exact⟨by omega,fun h=>h⟩,HF5.out⟩
 case round =>
  obtain⟨n,T,nv,rfl,hn',hat,hbox,hrow,hT,hnv,hfr⟩:=hrel;obtain⟨wo,rfl⟩:∃wo,wo=wr:=⟨_,rfl⟩;obtain⟨c0,c1⟩:=HC.out _ hfr;obtain⟨b1,o1,ha1,d1⟩:=HBn.out _ hfr root bR HbR.out;have ix1:=zaa ba BL.length bc root b1 o1 hrB ha1;have HAt:=Hh hat;have HBox:=Hh hbox;have HRow:=Hh hrow;have HT:=Hh hT;have HNv:=Hh hnv;have HFr:=Hh hfr;clear hat hbox hrow hT hnv hfr ha1;by_cases hlt:n≤bR
  ·go_wp2
   obtain⟨wA,hwA⟩:∃wA:World,wA=(wo.alloc (.cells #[] 85)).alloc (.cells #[] 3):=⟨_,rfl⟩;have FA:Fr NoM wo wA:=by rw[hwA];exact((Fr.refl NoM wo).alloc _).alloc _
   have p1:NodeRow (fun q=>wo.heap.size≤q) wo.heap.size wA (.slice (some ⟨wo.heap.size,0,none⟩) 0 0) []:=by
    refine⟨[],?_,rfl,by simp⟩;rw[hwA];exact(World.ownsRow_made (base:=wo.heap.size) (e:=85) (size:=2) wo #[] 0 (by simp) (by decide) (by simp)).alloc _
   have p2:wA.ownsRow wo.heap.size 3 1 (.slice (some ⟨wo.heap.size+1,0,none⟩) 0 0) 0 []:=by
    have h:=World.ownsRow_made (base:=wo.heap.size) (e:=3) (size:=1) (wo.alloc (.cells #[] 85)) #[] 0 (by simp) (by decide) (by simp);simp only[World.size_alloc]at h;rw[hwA];exact h
   rw[←hwA];have HA1:=Hh p1;have HA2:=Hh p2;have HFA:=Hh FA;clear p1 p2 FA hwA;go_loopw [9,10,11] (fun v f i wq=>∃(k:Nat) (lv fv:Value),lv=v/\fv=f/\i=.int .i64 k/\k≤root+1/\NodeRow (fun q=>wo.heap.size≤q) wo.heap.size wq lv (zdv NL BL (zap NL root) (zay NL BL (zap NL root) root n).1 n k).1 ∧
    wq.ownsRow wo.heap.size 3 1 fv (zdv NL BL (zap NL root) (zay NL BL (zap NL root) root n).1 n k).2.length ((zdv NL BL (zap NL root) (zay NL BL (zap NL root) root n).1 n k).2.map encN)/\Fr NoM wo wq) (fun _ _ i _=>root+1-(intOf i).toNat)
   case atStart=>exact⟨0,_,_,rfl,rfl,rfl,Nat.zero_le _,HA1.out,HA2.out,HFA.out⟩
   case round =>
    obtain⟨k,lv,fv,rfl,rfl,rfl,hk,hlist,hfrom,hfq⟩:=hrel;obtain⟨c0',c1'⟩:=HC.out _ (HFr.out.trans hfq (fun _ _ q=>q));have HL:=Hh hlist;have HFm:=Hh hfrom;have HFq:=Hh hfq;clear hlist hfrom hfq;by_cases hk1:k≤root
    ·have hkN:k<NL.length:=by omega
     have hkB:k<BL.length:=by omega
     obtain⟨bk,hbk⟩:∃x,BL[k]?=some x:=⟨_,List.getElem?_eq_getElem hkB⟩;obtain⟨b2,o2,ha2,d2⟩:=HBn.out _ (HFr.out.trans HFq.out (fun _ _ q=>q)) k bk hbk;have ix2:=zaa ba BL.length bc k b2 o2 hkB ha2;have ix3:=zmr (w.heap.size+1) (root+1) (root+1) k (by omega);have hneed:=(HNeed.out.fr HFr.out (fun q=>q)).fr HFq.out (fun q=>q);have hnl:(zap NL root).length=root+1:=zhf NL root;have d3:=hneed.cell k (by omega);unfold encB at d3;by_cases hpick:(zap NL root)[k]=true/\bk=n
     ·obtain⟨hm,hbn⟩:=hpick
      subst hbn;rw[hm]at d3;obtain⟨b3,o3,xl,xr,ha3,d4,d5,m1,m2⟩:=HN.out _ (HFr.out.trans HFq.out (fun _ _ q=>q)) k NL[k] (List.getElem?_eq_getElem _);have ix4:=zbe na NL.length nc k b3 o3 hkN ha3;have HM1:=Hh m1;have HM2:=Hh m2;have HPick:=Hh (show(zap NL root).getD k false=true/\BL.getD k 0=bk from⟨by rw[List.getD_eq_getElem?_getD,List.getElem?_eq_getElem (by omega)];exact hm,by rw[List.getD_eq_getElem?_getD,hbk];rfl⟩);clear m1 m2 ha3 hneed hnl hm ha2;obtain⟨A,hA⟩:∃A,A=(zay NL BL (zap NL root) root bk).1:=⟨_,rfl⟩;have hAl:A.length=root+1:=by rw[hA];exact(zd0 NL BL _ root bk).1
      have HAA:=Hh (fun(W:World) (f:Fr NoM wr W)=>show Nats W (.slice (some ⟨w2.heap.size,0,none⟩) (root+1) (root+1)) A from by
       have h:=((HAt.out.fr HFq.out (fun q=>q)).fr f (fun q=>q)).slice (by rw[(zd0 NL BL (zap NL root) root bk).1];omega);rw[(zd0 NL BL (zap NL root) root bk).1,←hA]at h;exact h)
      have HN1:=Hh (fun(W:World) (f:Fr NoM wr W)=>HM1.out.fr0 f);have HN2:=Hh (fun(W:World) (f:Fr NoM wr W)=>HM2.out.fr0 f);obtain⟨p1,p2⟩:=HOK.out.opts k NL[k] (List.getElem?_eq_getElem _);obtain⟨q1,q2⟩:=HLen.out NL[k] (List.getElem_mem _);have HX1:=Hh (show ∀(j x:Nat),NL[k].1[j]?=some x→x<A.length from fun j x hx=>by have:=p1 x (List.mem_of_getElem? hx);omega);have HX2:=Hh (show ∀(j x:Nat),NL[k].2[j]?=some x→x<A.length from fun j x hx=>by have:=p2 x (List.mem_of_getElem? hx);omega);have HY1:=Hh (show NL[k].1.length<1000000000000 by omega);have HY2:=Hh (show NL[k].2.length<1000000000000 by omega);have HZ1:=Hh (show(za1 A NL[k].1).length<1000000000000 by simp[za1];omega);have HZ2:=Hh (show(za1 A NL[k].2).length<1000000000000 by simp[za1];omega);have HSS:=Hh (fun(W:World) (f:Fr NoM wr W)=>(⟨f.cell c0' (fun q=>q),f.cell d4 (fun q=>q),f.cell d5 (fun q=>q)⟩:W.cell? ⟨bb,0,none⟩=some (.slice na NL.length nc)/\W.cell? ⟨b3,o3+k*2,none⟩=some xl/\W.cell? ⟨b3,o3+k*2+1,none⟩=some xr));have HA:=Hh hA;have HAl:=Hh hAl;clear hA hAl p1 p2 q1 q2;go_upto_region 12 with fail;go_cut [12]from 36 to 117 (fun x wx=>∃(b:Nat) (l r:Value),x=.pointer (some ⟨b,0,none⟩)/\wx.heap[b]?=some (.cells #[l,r] 85 (0,0))/\wr.heap.size≤b/\Nats wx l (zaf (za1 A NL[k].1))/\Nats wx r (zaf (za1 A NL[k].2))/\(∀q,l.ownBlock=some q→wr.heap.size≤q)/\(∀q,r.ownBlock=some q→wr.heap.size≤q)/\Fr NoM wr wx)
      case first =>
       have F0:Fr NoM wr wr.drew:=(Fr.refl NoM wr).drew;have hs:=HSS.out wr (Fr.refl NoM wr);go_region_held3 (fun(W:World)=>W.cell? ⟨bb,0,none⟩=some (.slice na NL.length nc)/\W.cell? ⟨b3,o3+k*2,none⟩=some xl/\W.cell? ⟨b3,o3+k*2+1,none⟩=some xr)
        (first|exact HSS.out _ (by assumption)|exact HSS.out _ (Fr.alloc (by assumption) _)|exact HSS.out _ (Fr.setCell (Fr.setCell g4 _ _ (fun h=>absurd h (Nat.not_lt.2 (by first|exact g4.size|exact g3.size|exact g2.size|exact g1.size|exact Nat.le_refl _)))) _ _ (fun h=>absurd h (Nat.not_lt.2 (by first|exact g4.size|exact g3.size|exact g2.size|exact g1.size|exact Nat.le_refl _)))))
        (first
         | (go_at_call 79;(with_reducible refine(zei _ xl A NL[k].1 _ (HAA.out _ (by first|assumption|exact Fr.alloc (by assumption) _|exact Fr.drew (Fr.alloc (Fr.refl NoM _) _))) (HN1.out _ (by first|assumption|exact Fr.alloc (by assumption) _|exact Fr.drew (Fr.alloc (Fr.refl NoM _) _))) HX1.out HY1.out).mono ?_);rintro e w5 ⟨v1,rfl,t1,f1⟩;have z1:Nats w5 v1 (za1 A NL[k].1):=zcn t1;clear t1;have g1:Fr NoM wr w5:=Fr.trans (by first|assumption|exact Fr.alloc (by assumption) _|exact Fr.drew (Fr.alloc (Fr.refl NoM _) _)) f1 (fun _ _ q=>q);(first|have hx:=Fr.heap f1 (heap_alloc_new _ _) (fun q=>q)|skip))
         | (go_at_call 117;(with_reducible refine(zk2 v1 (za1 A NL[k].1) _ (by first|exact z1|exact SliceOf.fr0 z1 (Fr.alloc (Fr.refl NoM _) _)) HZ1.out).mono ?_);rintro e w6 ⟨l1,rfl,⟨la1,lc1,rfl,y1a⟩,f2,r1⟩;have y1:Nats w6 (.slice la1 (zaf (za1 A NL[k].1)).length lc1) (zaf (za1 A NL[k].1)):=⟨la1,lc1,rfl,y1a⟩;clear y1a;have h2:Fr NoM w5 w6:=(by first|exact f2|exact Fr.trans (Fr.alloc (Fr.refl NoM _) _) f2 (fun _ _ q=>q));have g2:Fr NoM wr w6:=g1.trans h2 (fun _ _ q=>q);have r1':∀q,(Value.slice la1 (zaf (za1 A NL[k].1)).length lc1).ownBlock=some q→wr.heap.size≤q:=(fun q hq=>Nat.le_trans (Nat.le_trans g1.size (by simp)) (r1 q hq));(first|have hx:=Fr.heap h2 hx (fun q=>q)|have hx:=Fr.heap f2 (heap_alloc_new _ _) (fun q=>q)|skip))
         | (go_at_call 79;(with_reducible refine(zei _ xr A NL[k].2 _ (HAA.out _ (by first|assumption|exact Fr.alloc (by assumption) _)) (HN2.out _ (by first|assumption|exact Fr.alloc (by assumption) _)) HX2.out HY2.out).mono ?_);rintro e w7 ⟨v2,rfl,t2,f3⟩;have z2:Nats w7 v2 (za1 A NL[k].2):=zcn t2;clear t2;have h3:Fr NoM w6 w7:=(by first|exact f3|exact Fr.trans (Fr.alloc (Fr.refl NoM _) _) f3 (fun _ _ q=>q));have g3:Fr NoM wr w7:=g2.trans h3 (fun _ _ q=>q);(first|have hx:=Fr.heap h3 hx (fun q=>q)|have hx:=Fr.heap f3 (heap_alloc_new _ _) (fun q=>q)|skip))
         | (go_at_call 117;(with_reducible refine(zk2 v2 (za1 A NL[k].2) _ (by first|exact z2|exact SliceOf.fr0 z2 (Fr.alloc (Fr.refl NoM _) _)) HZ2.out).mono ?_);rintro e w8 ⟨l2,rfl,⟨la2,lc2,rfl,y2a⟩,f4,r2⟩;have y2:Nats w8 (.slice la2 (zaf (za1 A NL[k].2)).length lc2) (zaf (za1 A NL[k].2)):=⟨la2,lc2,rfl,y2a⟩;clear y2a;have h4:Fr NoM w7 w8:=(by first|exact f4|exact Fr.trans (Fr.alloc (Fr.refl NoM _) _) f4 (fun _ _ q=>q));have g4:Fr NoM wr w8:=g3.trans h4 (fun _ _ q=>q);have r2':∀q,(Value.slice la2 (zaf (za1 A NL[k].2)).length lc2).ownBlock=some q→wr.heap.size≤q:=(fun q hq=>Nat.le_trans (Nat.le_trans g3.size (by simp)) (r2 q hq));(first|have hx:=Fr.heap h4 hx (fun q=>q)|have hx:=Fr.heap f4 (heap_alloc_new _ _) (fun q=>q)|skip);(first|have hc0:=(zf6 hx).1|skip);(first|have hc1:=(zf6 hx).2.1|skip);(first|have hz0:=(zf6 hx).2.2.1|skip);(first|have hz1:=(zf6 hx).2.2.2|skip))
         | fail)
       all_goals
        go_wp2_with fail;go_meet
        case rel =>
         have s1:=f1.size;have s2:=f2.size;have s3:=f3.size;have s4:=f4.size;have s5:=g1.size;try simp at s1
         try simp at s2
         try simp at s3
         try simp at s4
         refine⟨_,_,_,rfl,?_,?_,?_,?_,r1',r2',?_⟩
         ·first|exact heap_alloc_new w8 _|exact(put2 hx).1
         ·first|exact g4.size|exact g3.size|exact g2.size|exact g1.size|exact Nat.le_refl _
         ·first|exact(y1.fr0 (h3.trans h4 (fun _ _ q=>q))).fr0 ((Fr.refl NoM w8).alloc _)|exact(y1.fr0 (h3.trans h4 (fun _ _ q=>q))).fr (put2 hx).2 (fun hne q hq e=>by have t:=r1 q hq;(try simp at t);obtain⟨b,hb,hl⟩:=y1.block hne;rw[hq]at hb;cases hb;omega)
         ·first|exact y2.fr0 ((Fr.refl NoM w8).alloc _)|exact y2.fr (put2 hx).2 (fun hne q hq e=>by have t:=r2 q hq;(try simp at t);obtain⟨b,hb,hl⟩:=y2.block hne;rw[hq]at hb;cases hb;omega)
         ·first|exact g4.alloc _|exact g4.trans (put2 hx).2 (fun q hq e=>by exfalso;omega)
      case rest =>
       obtain⟨xb,xl',xr',rfl,hxb,hxs,hn1,hn2,hr1,hr2,hfx⟩:=hcut;obtain⟨wi,rfl⟩:∃wi,wi=wr:=⟨_,rfl⟩;obtain⟨w12,rfl⟩:∃w12,w12=wc:=⟨_,rfl⟩;obtain⟨LL,hLL⟩:∃s,s=(zdv NL BL (zap NL root) (zay NL BL (zap NL root) root bk).1 bk k).1:=⟨_,rfl⟩;obtain⟨KL,hKL⟩:∃s,s=(zdv NL BL (zap NL root) (zay NL BL (zap NL root) root bk).1 bk k).2:=⟨_,rfl⟩;have hl:=HL.out;have hf:=HFm.out;rw[←hLL]at hl;rw[←hKL]at hf;obtain⟨x,hx⟩:∃x,x=keyF A NL[k]:=⟨_,rfl⟩;rw[show zaf (za1 A NL[k].1)=x.1 from by rw[hx];rfl]at hn1;rw[show zaf (za1 A NL[k].2)=x.2 from by rw[hx];rfl]at hn2;have hlen1:=(zfx NL BL (zap NL root) (zay NL BL (zap NL root) root bk).1 bk k);rw[←hLL,←hKL]at hlen1;have hklt:=zts NL BL (zap NL root) (zay NL BL (zap NL root) root bk).1 bk k;rw[←hKL]at hklt;have hlc:NodeRow (fun q=>wo.heap.size≤q) wo.heap.size w12 lv LL:=hl.fr0 hfx;have hfc:w12.ownsRow wo.heap.size 3 1 fv KL.length (KL.map encN):=za3 hf hfx (fun _ _ q=>q);have HLc:=Hh hlc;have hfc12:=Hh hfc;obtain⟨NV,hrow1,hNV,hNVs⟩:=id hlc;obtain⟨pa,pc,rfl,hpc,hpcm,hpcell⟩:=Pairs.of_owns hrow1;have HXB:=Hh hxb;have HXS:=Hh hxs;have HN1':=Hh hn1;have HN2':=Hh hn2;have HR1:=Hh hr1;have HR2:=Hh hr2;have HFX:=Hh hfx;have HX:=Hh hx;have HLL:=Hh hLL;have HKL:=Hh hKL;have HLen1:=Hh hlen1;have HKlt:=Hh hklt;have HNVl:=Hh hNV;have HNVs:=Hh hNVs;have HPC:=Hh hpcell;clear hxb hxs hn1 hn2 hr1 hr2 hfx hx hLL hKL hlen1 hklt hNV hNVs hpcell hl hf hlc hfc hrow1;go_wp2_with fail;go_loopw [13] (fun i W=>∃j:Nat,i=.int .i64 j/\j≤NV.length/\(∀j' y,j'<j→LL[j']?=some y→zan y x=true)/\Fr NoM w12 W) (fun i _=>NV.length-(intOf i).toNat)
       case atStart=>exact⟨0,rfl,Nat.zero_le _,fun j' y h=>absurd h (Nat.not_lt_zero _),Fr.refl _ _⟩
       case round =>
        obtain⟨j,rfl,hj,hbef,hfw⟩:=hrel;obtain⟨cb,hcb⟩:∃cb:Bool,cb=(decide (j<LL.length) && zan (LL.getD j ([],[])) x):=⟨_,rfl⟩;have HBef:=Hh hbef;have HCb:=Hh hcb;have HFw:=Hh hfw;clear hbef hcb hfw;go_upto_region 14 with fail;go_cut [91]from 80 to 93 (fun c wx=>c=.bool cb/\Fr NoM wr wx)
        case first =>
         by_cases hlt:j<NV.length
         ·have hltL:j<LL.length:=by rw[←HNVl.out];exact hlt
          obtain⟨b5,o5,hpa,d7,d8⟩:=HPC.out j NV[j] (List.getElem?_eq_getElem _);have ix5:=zbe pa NV.length pc j b5 o5 hlt hpa;obtain⟨e1,e2,_,_⟩:=HNVs.out j NV[j] LL[j] (List.getElem?_eq_getElem _) (List.getElem?_eq_getElem _);have hcbe:zan LL[j] x=cb:=by rw[HCb.out,List.getD_eq_getElem?_getD,List.getElem?_eq_getElem hltL,decide_eq_true hltL];rfl
          have hb:=zf6 HXB.out;have HS3:=Hh (fun(W:World) (f:Fr NoM wr W)=>have g:=HFw.out.trans f (fun _ _ q=>q);(⟨g.cell d7 (fun q=>q),g.cell d8 (fun q=>q),g.cell hb.1 (fun q=>q),g.cell hb.2.1 (fun q=>q)⟩:W.cell? ⟨b5,o5+j*2,none⟩=some NV[j].1/\W.cell? ⟨b5,o5+j*2+1,none⟩=some NV[j].2/\W.cell? ⟨xb,0,none⟩=some xl'∧W.cell? ⟨xb,1,none⟩=some xr'));have HE1:=Hh (fun(W:World) (f:Fr NoM wr W)=>e1.fr0 (HFw.out.trans f (fun _ _ q=>q)));have HE2:=Hh (fun(W:World) (f:Fr NoM wr W)=>e2.fr0 (HFw.out.trans f (fun _ _ q=>q)));have HE3:=Hh (fun(W:World) (f:Fr NoM wr W)=>HN1'.out.fr0 (HFw.out.trans f (fun _ _ q=>q)));have HE4:=Hh (fun(W:World) (f:Fr NoM wr W)=>HN2'.out.fr0 (HFw.out.trans f (fun _ _ q=>q)));have hg:decide ((j:Int)<(NV.length:Int))=true:=by simp;omega
          have F0:Fr NoM wr wr.drew:=(Fr.refl NoM wr).drew;have hs3:=HS3.out wr (Fr.refl NoM wr);have HCe:=Hh hcbe;clear d7 d8 e1 e2 hb hpa hcbe;go_region_held3 (fun(W:World)=>W.cell? ⟨b5,o5+j*2,none⟩=some NV[j].1/\W.cell? ⟨b5,o5+j*2+1,none⟩=some NV[j].2/\W.cell? ⟨xb,0,none⟩=some xl'∧W.cell? ⟨xb,1,none⟩=some xr')
           (first|exact HS3.out _ (by assumption))
           (first
            | (go_at_call 118;(with_reducible refine(zmn _ _ _ _ LL[j] x _ (HE1.out _ (by assumption)) (HE2.out _ (by assumption)) (HE3.out _ (by assumption)) (HE4.out _ (by assumption))).mono ?_);rintro e w9 ⟨rfl,f9⟩;have g9:Fr NoM wr w9:=Fr.trans (by assumption) f9 (fun _ _ q=>q))
            | fail)
          all_goals
           go_wp2_with fail;go_meet
           case rel=>exact⟨congrArg Value.bool HCe.out,by assumption⟩
         ·have hltL:¬j<LL.length:=by rw[←HNVl.out];exact hlt
          have hcbe:false=cb:=by rw[HCb.out,decide_eq_false hltL];rfl
          have hg:decide ((j:Int)<(NV.length:Int))=false:=by simp;omega
          have HCe:=Hh hcbe;clear hcbe hltL;go_quiet (fail);go_wp2_with fail;go_meet
          case rel=>exact⟨congrArg Value.bool HCe.out,⟨rfl,rfl,rfl,Nat.le_refl _,fun _ _ _=>rfl⟩⟩
        case rest =>
         obtain⟨rfl,hfc⟩:=hcut;obtain⟨w14,rfl⟩:∃w14,w14=wc:=⟨_,rfl⟩;have HFc:=Hh hfc;clear hfc;cases cb with
         | true =>
          have hall:=HCb.out;have hltL:j<LL.length:=by
           rcases Nat.lt_or_ge j LL.length with h|h
           ·exact h
           ·rw[decide_eq_false (by omega)]at hall;cases hall
          have hah:zan LL[j] x=true:=by
           rw[decide_eq_true hltL,List.getD_eq_getElem?_getD,List.getElem?_eq_getElem hltL]at hall;simpa using hall.symm
          have HAh:=Hh hah;have hltN:j<NV.length:=by rw[HNVl.out];exact hltL
          clear hall hah;go_wp2;go_roundw
          case rel =>
           have:=HNVl.out;refine⟨j+1,by go_num,by omega,fun j' y hj' hy=>?_,HFw.out.trans HFc.out (fun _ _ q=>q)⟩;by_cases e:j'=j
           ·subst e;rw[List.getElem?_eq_getElem hltL]at hy;cases hy;exact HAh.out
           ·exact HBef.out j' y (by omega) hy
          case measure=>have:=HNVl.out;simp[intOf];omega
         | false =>
          have hall:=HCb.out;have hpos:posA LL x=j:=ydm LL x j (by have:=HNVl.out;omega) HBef.out (fun y hy=>by
           have hltL:=(List.getElem?_eq_some_iff.1 hy).1;rw[decide_eq_true hltL,List.getD_eq_getElem?_getD,hy]at hall;simpa using hall.symm)
          obtain⟨xa,xc,rfl,hxa⟩:=id HN1'.out;obtain⟨xa',xc',rfl,hxa'⟩:=id HN2'.out;have hpw:Pairs w14 (.slice pa NV.length pc) NV:=(show Pairs w12 (.slice pa NV.length pc) NV from⟨pa,pc,rfl,hpc,hpcm,HPC.out⟩).fr0 (HFw.out.trans HFc.out (fun _ _ q=>q));obtain⟨v1,r1,s1,q1⟩:=yeq (P:=Tryz.prog) hpw 24 85 _ 48 Tryz.underlying24 zc6 j hj;obtain⟨v2,r2,s2,q2⟩:=yb1 (P:=Tryz.prog) hpw 24 85 _ 48 Tryz.underlying24 zc6 j hj;have HP1:=Hh (fun(W:World) (f:Fr NoM w14 W)=>s1.fr0 f);have HP2:=Hh (fun(W:World) (f:Fr NoM w14 W)=>s2.fr0 f);have hone:∀y∈NV,y.1.oneCell'=true/\y.2.oneCell'=true:=fun y hy=>by
           obtain⟨i,hi,rfl⟩:=List.getElem_of_mem hy;have hiL:i<LL.length:=by rw[←HNVl.out];exact hi
           obtain⟨e1,e2,_,_⟩:=HNVs.out i NV[i] LL[i] (List.getElem?_eq_getElem _) (List.getElem?_eq_getElem _);exact⟨zu1 e1,zu1 e2⟩
          have HO1:=Hh (show ∀y∈NV.take j,y.1.oneCell'=true/\y.2.oneCell'=true from fun y hy=>hone y (List.mem_of_mem_take hy));have HO2:=Hh (show ∀y∈NV.drop j,y.1.oneCell'=true/\y.2.oneCell'=true from fun y hy=>hone y (List.mem_of_mem_drop hy));have HO3:=Hh (show ∀y∈[(Value.slice xa x.1.length xc,Value.slice xa' x.2.length xc')],y.1.oneCell'=true/\y.2.oneCell'=true from fun y hy=>by simp at hy;subst hy;exact⟨rfl,rfl⟩);have hsm:NV.length≤1000000:=by have:=HNVl.out;have:=HLen1.out;omega
          have HC1:=Hh (show(([]:List (Value × Value)).length+(NV.take j).length)*48≤140737488355328 by simp;omega);have HC2:=Hh (show(([]++NV.take j).length + [(Value.slice xa x.1.length xc,Value.slice xa' x.2.length xc')].length)*48≤140737488355328 by simp;omega);have HC3:=Hh (show((([]++NV.take j) ++ [(Value.slice xa x.1.length xc,Value.slice xa' x.2.length xc')]).length+(NV.drop j).length)*48≤140737488355328 by simp;omega);have hxb:=zf6 HXB.out;have d7:=(HFw.out.trans HFc.out (fun _ _ q=>q)).cell hxb.1 (fun q=>q);have d8:=(HFw.out.trans HFc.out (fun _ _ q=>q)).cell hxb.2.1 (fun q=>q);have da7:∀o,(w14.alloc o).cell? ⟨xb,0,none⟩=_:=fun o=>((Fr.refl NoM w14).alloc o).cell d7 (fun q=>q)
          have da8:∀o,(w14.alloc o).cell? ⟨xb,1,none⟩=_:=fun o=>((Fr.refl NoM w14).alloc o).cell d8 (fun q=>q)
          have HPos:=Hh hpos;clear hall hpos hxa hxa' hpw s1 s2 q1 q2 hone hxb;go_upto_region 16 with fail;go_cut [9]from 36 to 117 (fun c wx=>wx.ownsRow w14.heap.size 85 2 c (NV.take j++(Value.slice xa x.1.length xc,Value.slice xa' x.2.length xc')::NV.drop j).length (zb8 (NV.take j++(Value.slice xa x.1.length xc,Value.slice xa' x.2.length xc')::NV.drop j))/\Fr NoM w14 wx)
          case first =>
           go_region_law (first
            | (refine zgc w14.heap.size ((((Fr.refl NoM w14).alloc _).drew).size) rfl (.tmp 94) (.tmp 97) 24 rfl 85 _ 48 Tryz.underlying24 zc6 rfl (.slice (some ⟨w14.heap.size,0,none⟩) 0 0) [] rfl (by exact World.ownsRow_made w14 #[] 0 (Nat.le_refl _) (by decide) (by simp)) v1 rfl (NV.take j) (by exact HP1.out _ (((Fr.refl NoM w14).alloc _).drew)) HO1.out HC1.out (by decide) ?_;intro v3 w3 h3 f3 _;have g3:Fr NoM w14 w3:=Fr.own (e:=85) (size:=2) (n:=0) (xs:=[]) (((Fr.refl NoM w14).alloc _).drew) (by exact World.ownsRow_made w14 #[] 0 (Nat.le_refl _) (by decide) (by simp)) f3;have d7':=Fr.cell g3 d7 (fun q=>q);have d8':=Fr.cell g3 d8 (fun q=>q))
            | (refine zgc w14.heap.size (((((Fr.refl NoM w14).alloc _).alloc _).drew).size) rfl (.tmp 94) (.tmp 97) 24 rfl 85 _ 48 Tryz.underlying24 zc6 rfl (.slice (some ⟨w14.heap.size,0,none⟩) 0 0) [] rfl (by exact(World.ownsRow_made w14 #[] 0 (Nat.le_refl _) (by decide) (by simp)).alloc (.cells #[.slice xa x.1.length xc,.slice xa' x.2.length xc'] 85)) v1 rfl (NV.take j) (by exact HP1.out _ ((((Fr.refl NoM w14).alloc _).alloc _).drew)) HO1.out HC1.out (by decide) ?_;intro v3 w3 h3 f3 _;have g3:Fr NoM w14 w3:=Fr.own (e:=85) (size:=2) (n:=0) (xs:=[]) ((((Fr.refl NoM w14).alloc _).alloc _).drew) (by exact(World.ownsRow_made w14 #[] 0 (Nat.le_refl _) (by decide) (by simp)).alloc (.cells #[.slice xa x.1.length xc,.slice xa' x.2.length xc'] 85)) f3;have d7':=Fr.cell g3 d7 (fun q=>q);have d8':=Fr.cell g3 d8 (fun q=>q))
            | (refine zgc w14.heap.size (((((Fr.refl NoM w14).alloc _).alloc _).drew).size) rfl (.tmp 94) (.tmp 97) 24 rfl 85 _ 48 Tryz.underlying24 zc6 rfl (.slice (some ⟨w14.heap.size+1,0,none⟩) 0 0) [] rfl (by have h:=World.ownsRow_made (base:=w14.heap.size) (e:=85) (size:=2) (w14.alloc (.cells #[.slice xa x.1.length xc,.slice xa' x.2.length xc'] 85)) #[] 0 (by simp) (by decide) (by simp);simp only[World.size_alloc]at h;exact h) v1 rfl (NV.take j) (by exact HP1.out _ ((((Fr.refl NoM w14).alloc _).alloc _).drew)) HO1.out HC1.out (by decide) ?_;intro v3 w3 h3 f3 _;have g3:Fr NoM w14 w3:=Fr.own (e:=85) (size:=2) (n:=0) (xs:=[]) ((((Fr.refl NoM w14).alloc _).alloc _).drew) (by have h:=World.ownsRow_made (base:=w14.heap.size) (e:=85) (size:=2) (w14.alloc (.cells #[.slice xa x.1.length xc,.slice xa' x.2.length xc'] 85)) #[] 0 (by simp) (by decide) (by simp);simp only[World.size_alloc]at h;exact h) f3;have d7':=Fr.cell g3 d7 (fun q=>q);have d8':=Fr.cell g3 d8 (fun q=>q))
            | (refine zgd w14 (by first|exact g3.alloc _|exact g3) rfl (.tmp 98) (.tmp 100) 24 rfl 85 _ 48 Tryz.underlying24 zc6 rfl v3 ([]++NV.take j) rfl (by first|exact h3.alloc _|exact h3) (.slice (some ⟨w3.heap.size,0,none⟩) 1 1) rfl [(.slice xa x.1.length xc,.slice xa' x.2.length xc')] (by exact Pairs.one w3 _ 85) HO3.out HC2.out (by decide) ?_;intro v4 w4 h4 f4)
            | (refine zgd w14 (by first|exact g3.alloc _|exact g3) rfl (.tmp 98) (.tmp 100) 24 rfl 85 _ 48 Tryz.underlying24 zc6 rfl v3 ([]++NV.take j) rfl (by first|exact h3.alloc _|exact h3) (.slice (some ⟨w14.heap.size+1,0,none⟩) 1 1) rfl [(.slice xa x.1.length xc,.slice xa' x.2.length xc')] (by have h:=(Pairs.one (w14.alloc (.cells #[] 85)) (.slice xa x.1.length xc,.slice xa' x.2.length xc') 85).fr (w:=((w14.alloc (.cells #[] 85)).alloc (.cells #[.slice xa x.1.length xc,.slice xa' x.2.length xc'] 85)).drew) f3 (by simp[Own1,Value.ownBlock]);simp only[World.size_alloc]at h;exact h) HO3.out HC2.out (by decide) ?_;intro v4 w4 h4 f4)
            | (refine zgd w14 (by first|exact g3.alloc _|exact g3) rfl (.tmp 98) (.tmp 100) 24 rfl 85 _ 48 Tryz.underlying24 zc6 rfl v3 ([]++NV.take j) rfl (by first|exact h3.alloc _|exact h3) (.slice (some ⟨w14.heap.size,0,none⟩) 1 1) rfl [(.slice xa x.1.length xc,.slice xa' x.2.length xc')] (by exact((Pairs.one w14 (.slice xa x.1.length xc,.slice xa' x.2.length xc') 85).fr0 ((Fr.refl NoM _).alloc (.cells #[] 85))).fr (w:=((w14.alloc (.cells #[.slice xa x.1.length xc,.slice xa' x.2.length xc'] 85)).alloc (.cells #[] 85)).drew) f3 (by simp[Own1,Value.ownBlock])) HO3.out HC2.out (by decide) ?_;intro v4 w4 h4 f4)
            | (refine zgd w14 f4 rfl (.tmp 101) (.tmp 104) 24 rfl 85 _ 48 Tryz.underlying24 zc6 rfl v4 _ rfl h4 v2 rfl (NV.drop j) (by exact HP2.out _ f4) HO2.out HC3.out (by decide) ?_;intro v5 w5 h5 f5)
            | fail)
           all_goals
            go_wp2_with fail;go_meet
            case rel=>exact⟨by simpa using h5,f5⟩
          case rest =>
           obtain⟨hn16,hf16⟩:=hcut;obtain⟨w16,rfl⟩:∃w16,w16=wc:=⟨_,rfl⟩;have hfall:Fr NoM w12 w16:=(HFw.out.trans HFc.out (fun _ _ q=>q)).trans hf16 (fun _ _ q=>q);have hfn:Nats w16 fv KL:=(SliceOf.of_owns (L:=KL) hfc12.out rfl).fr0 hfall;have hjK:j≤KL.length:=by have:=HNVl.out;have:=HLen1.out;omega
           have hKs:KL.length≤1000000:=by have:=HLen1.out;omega
           obtain⟨y1,r1',s1,q1⟩:=zrt (P:=Tryz.prog) hfn 82 3 (.int .i64 0) 8 Tryz.underlying82 za9 j hjK;obtain⟨y2,r2',s2,q2⟩:=sliceFrom (P:=Tryz.prog) hfn 82 3 (.int .i64 0) 8 Tryz.underlying82 za9 j hjK;have HT1:=Hh (fun(W:World) (f:Fr NoM w16 W)=>s1.fr0 f);have HT2:=Hh (fun(W:World) (f:Fr NoM w16 W)=>s2.fr0 f);have HD1:=Hh (show(0+(KL.take j).length)*8≤140737488355328 by simp;omega);have HD2:=Hh (show(0+(KL.take j).length + [k].length)*8≤140737488355328 by simp;omega);have HD3:=Hh (show(0+(KL.take j).length + [k].length+(KL.drop j).length)*8≤140737488355328 by simp;omega);have hstep:zdv NL BL (zap NL root) (zay NL BL (zap NL root) root bk).1 bk (k+1)=(LL.take j++x::LL.drop j,KL.take j++k::KL.drop j):=by
            rw[zf2];unfold zfc;rw[if_pos HPick.out];unfold insF;rw[←HLL.out,←HKL.out,←HA.out,show keyF A (NL.getD k ([],[]))=x from by rw[HX.out,List.getD_eq_getElem?_getD,List.getElem?_eq_getElem hkN];rfl,HPos.out]
           have hio:Fr NoM wo w16:=(HFq.out.trans HFX.out (fun _ _ q=>q)).trans hfall (fun _ _ q=>q);have hnew:∀W,Fr NoM w16 W→NodeRow (fun q=>wo.heap.size≤q) wo.heap.size W _ (LL.take j++x::LL.drop j):=fun W f=>by
            have g:=hfall.trans f (fun _ _ q=>q);have hs1:=HFq.out.size;have hs2:=HFX.out.size;have hs3:=(HFw.out.trans HFc.out (fun _ _ q=>q)).size;refine zmk (za3 (zb3 hn16 (by omega)) f (fun _ _ q=>q)) HNVl.out (by have:=HNVl.out;omega) (fun i a b ha hb=>?_) ⟨HN1'.out.fr0 g,HN2'.out.fr0 g,fun _ q hq=>Nat.le_trans hs1 (HR1.out q hq),fun _ q hq=>Nat.le_trans hs1 (HR2.out q hq)⟩;obtain⟨e1,e2,e3,e4⟩:=HNVs.out i a b ha hb;exact⟨e1.fr0 g,e2.fr0 g,e3,e4⟩
           have HStep:=Hh hstep;have HIo:=Hh hio;have HNew:=Hh hnew;clear hstep hio hnew;have HN16:=Hh hn16;have HF16:=Hh hfall;clear hn16 hf16 hfall s1 s2 q1 q2 hfn d7 d8 da7 da8;go_upto_region 17 with fail
           -- R17
           go_region_law (first
            | (refine zbk (enc:=encN) rfl (.tmp 106) (.tmp 109) 82 rfl w16.heap.size 3 (.int .i64 0) 8 Tryz.underlying82 za9 rfl (.slice (some ⟨w16.heap.size,0,none⟩) 0 0) 0 [] rfl (by exact World.ownsRow_made w16 #[] 0 (Nat.le_refl _) (by decide) (by simp)) y1 rfl (KL.take j) (by exact HT1.out _ (((Fr.refl NoM w16).alloc _).drew)) (fun _=>rfl) HD1.out (by decide) (((Fr.refl NoM w16).alloc _).drew).size ?_;intro v3 w3 h3 f3 q3;have g3:Fr NoM w16 w3:=Fr.own (e:=3) (size:=1) (n:=0) (xs:=[]) (((Fr.refl NoM w16).alloc _).drew) (by exact World.ownsRow_made w16 #[] 0 (Nat.le_refl _) (by decide) (by simp)) f3)
            | (refine zbk (enc:=encN) rfl (.tmp 106) (.tmp 109) 82 rfl w16.heap.size 3 (.int .i64 0) 8 Tryz.underlying82 za9 rfl (.slice (some ⟨w16.heap.size,0,none⟩) 0 0) 0 [] rfl (by exact(World.ownsRow_made w16 #[] 0 (Nat.le_refl _) (by decide) (by simp)).alloc (.cells #[.int .i64 (k:Int)] 3)) y1 rfl (KL.take j) (by exact HT1.out _ ((((Fr.refl NoM w16).alloc _).alloc _).drew)) (fun _=>rfl) HD1.out (by decide) ((((Fr.refl NoM w16).alloc _).alloc _).drew).size ?_;intro v3 w3 h3 f3 q3;have g3:Fr NoM w16 w3:=Fr.own (e:=3) (size:=1) (n:=0) (xs:=[]) ((((Fr.refl NoM w16).alloc _).alloc _).drew) (by exact(World.ownsRow_made w16 #[] 0 (Nat.le_refl _) (by decide) (by simp)).alloc (.cells #[.int .i64 (k:Int)] 3)) f3)
            | (refine zbk (enc:=encN) rfl (.tmp 106) (.tmp 109) 82 rfl w16.heap.size 3 (.int .i64 0) 8 Tryz.underlying82 za9 rfl (.slice (some ⟨w16.heap.size+1,0,none⟩) 0 0) 0 [] rfl (by have h:=World.ownsRow_made (base:=w16.heap.size) (e:=3) (size:=1) (w16.alloc (.cells #[.int .i64 (k:Int)] 3)) #[] 0 (by simp) (by decide) (by simp);simp only[World.size_alloc]at h;exact h) y1 rfl (KL.take j) (by exact HT1.out _ ((((Fr.refl NoM w16).alloc _).alloc _).drew)) (fun _=>rfl) HD1.out (by decide) ((((Fr.refl NoM w16).alloc _).alloc _).drew).size ?_;intro v3 w3 h3 f3 q3;have g3:Fr NoM w16 w3:=Fr.own (e:=3) (size:=1) (n:=0) (xs:=[]) ((((Fr.refl NoM w16).alloc _).alloc _).drew) (by have h:=World.ownsRow_made (base:=w16.heap.size) (e:=3) (size:=1) (w16.alloc (.cells #[.int .i64 (k:Int)] 3)) #[] 0 (by simp) (by decide) (by simp);simp only[World.size_alloc]at h;exact h) f3)
            | (refine zc3 (enc:=encN) w16 (by first|exact g3.alloc _|exact g3) rfl (.tmp 110) (.tmp 112) 82 rfl 3 (.int .i64 0) 8 Tryz.underlying82 za9 rfl v3 (0+(KL.take j).length) ([]++(KL.take j).map encN) rfl (by first|exact h3.alloc _|exact h3) (.slice (some ⟨w3.heap.size,0,none⟩) 1 1) rfl [k] (by exact SliceOf.one encN w3 k 3) (fun _=>rfl) HD2.out (by decide) ?_;intro v4 w4 h4 f4)
            | (refine zc3 (enc:=encN) w16 (by first|exact g3.alloc _|exact g3) rfl (.tmp 110) (.tmp 112) 82 rfl 3 (.int .i64 0) 8 Tryz.underlying82 za9 rfl v3 (0+(KL.take j).length) ([]++(KL.take j).map encN) rfl (by first|exact h3.alloc _|exact h3) (.slice (some ⟨w16.heap.size+1,0,none⟩) 1 1) rfl [k] (by have h:=(SliceOf.one encN (w16.alloc (.cells #[] 3)) k 3).fr (w:=((w16.alloc (.cells #[] 3)).alloc (.cells #[encN k] 3)).drew) f3 (by simp[Own1,Value.ownBlock]);simp only[World.size_alloc]at h;exact h) (fun _=>rfl) HD2.out (by decide) ?_;intro v4 w4 h4 f4)
            | (refine zc3 (enc:=encN) w16 (by first|exact g3.alloc _|exact g3) rfl (.tmp 110) (.tmp 112) 82 rfl 3 (.int .i64 0) 8 Tryz.underlying82 za9 rfl v3 (0+(KL.take j).length) ([]++(KL.take j).map encN) rfl (by first|exact h3.alloc _|exact h3) (.slice (some ⟨w16.heap.size,0,none⟩) 1 1) rfl [k] (by exact((SliceOf.one encN w16 k 3).fr0 ((Fr.refl NoM _).alloc (.cells #[] 3))).fr (w:=((w16.alloc (.cells #[encN k] 3)).alloc (.cells #[] 3)).drew) f3 (by simp[Own1,Value.ownBlock])) (fun _=>rfl) HD2.out (by decide) ?_;intro v4 w4 h4 f4)
            | (refine zc3 (enc:=encN) w16 f4 rfl (.tmp 113) (.tmp 116) 82 rfl 3 (.int .i64 0) 8 Tryz.underlying82 za9 rfl v4 _ _ rfl h4 y2 rfl (KL.drop j) (by exact HT2.out _ f4) (fun _=>rfl) HD3.out (by decide) ?_;intro v5 w5 h5 f5)
            | fail)
           all_goals
            go_wp2;go_roundw
            case rel =>
             have hb16:=HIo.out.size;refine⟨k+1,_,_,rfl,rfl,by go_num,by omega,?_,?_,HIo.out.trans f5 (fun _ _ q=>q)⟩
             ·rw[HStep.out];exact HNew.out _ f5
             ·rw[HStep.out]
              refine zb3 (base:=w16.heap.size) ?_ hb16
              have e1:0+(KL.take j).length + [k].length+(KL.drop j).length=(KL.take j++k::KL.drop j).length:=by simp;omega
              have e2:[]++(KL.take j).map encN ++ [k].map encN++(KL.drop j).map encN=(KL.take j++k::KL.drop j).map encN:=by simp
              rw[←e1,←e2];exact h5
            case measure=>simp[intOf];omega
     ·have hstep:zdv NL BL (zap NL root) (zay NL BL (zap NL root) root n).1 n (k+1)=zdv NL BL (zap NL root) (zay NL BL (zap NL root) root n).1 n k:=by
       rw[zf2];unfold zfc;rw[if_neg];rw[List.getD_eq_getElem?_getD,List.getD_eq_getElem?_getD,hbk,List.getElem?_eq_getElem (by omega)];exact hpick
      have HSt:=Hh hstep;clear hstep;by_cases hm:(zap NL root)[k]=true
      ·have hbn:((bk:Int) == (n:Int))=false:=by rw[beq_eq_false_iff_ne];intro h;exact hpick ⟨hm,by omega⟩
       rw[hm]at d3;clear hpick hm hneed hnl;go_wp2;go_roundw
       case rel=>exact⟨k+1,_,_,rfl,rfl,by go_num,by omega,by rw[HSt.out];exact HL.out,by rw[HSt.out];exact HFm.out,HFq.out⟩
       case measure=>simp[intOf];omega
      ·have hm':(zap NL root)[k]=false:=by simpa using hm
       rw[hm']at d3;clear hpick hm hm' hneed hnl;go_wp2;go_roundw
       case rel=>exact⟨k+1,_,_,rfl,rfl,by go_num,by omega,by rw[HSt.out];exact HL.out,by rw[HSt.out];exact HFm.out,HFq.out⟩
       case measure=>simp[intOf];omega
    ·have hk2:k=root+1:=by omega
     subst hk2;clear hk hk1;obtain⟨wl,rfl⟩:∃wl,wl=wr:=⟨_,rfl⟩;obtain⟨s0,hs0⟩:∃s,s=zay NL BL (zap NL root) root n:=⟨_,rfl⟩;obtain⟨LL,hLL⟩:∃s,s=(zdv NL BL (zap NL root) s0.1 n (root+1)).1:=⟨_,rfl⟩;obtain⟨KL,hKL⟩:∃s,s=(zdv NL BL (zap NL root) s0.1 n (root+1)).2:=⟨_,rfl⟩;have hat:=HAt.out;have hrow:=HRow.out;have hl:=HL.out;have hf:=HFm.out;rw[←hs0]at hat hrow hl hf;rw[←hLL]at hl;rw[←hKL]at hf;have hnext:zay NL BL (zap NL root) root (n+1)=(List.zip LL KL).foldl layF s0:=by
      rw[zh7,←hs0];unfold yaa;rw[←hLL,←hKL]
     have hlen1:=zfx NL BL (zap NL root) s0.1 n (root+1);rw[←hLL,←hKL]at hlen1;have hklt:=zts NL BL (zap NL root) s0.1 n (root+1);rw[←hKL]at hklt;have hs0l:s0.1.length=root+1/\s0.2.length≤n*(root+1):=by rw[hs0];exact zd0 NL BL (zap NL root) root n
     have hsz:=(Array.getElem?_eq_some_iff.1 HBox.out).1;have hrowb:∀q,nv.ownBlock=some q→w2.heap.size+1≤q/\q<wo.heap.size:=fun q hq=>by
      obtain⟨NV,h1,_⟩:=hrow;exact h1.lt q hq
     obtain⟨NV,hrow1,hNV,hNVs⟩:=id hl;have hlvb:=fun q hq=>hrow1.lt q hq
     have hfvb:=fun q hq=>hf.lt q hq
     obtain⟨pa,pc,rfl,hpc,hpcm,hpcell⟩:=Pairs.of_owns hrow1;obtain⟨fa,fc,rfl,hfc,hfcm,hfcell⟩:=SliceOf.of_owns (L:=KL) hf rfl;obtain⟨M,hM⟩:∃M:Nat→Prop,M=fun q=>q=w2.heap.size∨q=w2.heap.size+2∨nv.ownBlock=some q:=⟨_,rfl⟩
     obtain⟨T',hT'⟩:∃T':Nat→Prop,T'=fun q=>(T q/\q<wo.heap.size)∨(wo.heap.size≤q/\q<wl.heap.size):=⟨_,rfl⟩
     have hMlow:∀q,wo.heap.size≤q→¬M q:=fun q hq h=>by
      rw[hM]at h;rcases h with h|h|h
      ·omega
      ·omega
      ·have:=hrowb q h;omega
     have hMT:∀q,T' q→¬M q:=fun q hq h=>by
      rw[hT']at hq;rcases hq with ⟨h1,h2⟩|⟨h1,h2⟩
      ·have:=HT.out q h1
       rw[hM]at h;rcases h with h|h|h
       ·omega
       ·omega
       ·exact(HNv.out q h).2 h1
      ·exact hMlow q h1 h
     have hT2:∀q,T' q→w2.heap.size+2<q/\q<wl.heap.size:=fun q hq=>by
      have:=HFq.out.size;rw[hT']at hq;rcases hq with ⟨h1,h2⟩|⟨h1,h2⟩
      ·have:=HT.out q h1;omega
      ·omega
     have hrow':NodeRow T' (w2.heap.size+1) wl nv s0.2:=(hrow.mono (fun b hb hb'=>by rw[hT'];exact .inl ⟨hb,hb'⟩)).fr0 HFq.out;have hat':RowIs 3 encN wl w2.heap.size s0.1:=hat.fr HFq.out (fun q=>q);have hbox':=HFq.out.heap HBox.out (fun q=>q);have HS0:=Hh hs0;have HLL:=Hh hLL;have HKL:=Hh hKL;have HNext:=Hh hnext;have HLen1:=Hh hlen1;have HKlt:=Hh hklt;have HS0l:=Hh hs0l;have HSz:=Hh hsz;have HRowb:=Hh hrowb;have HNVl:=Hh hNV;have HNVs:=Hh hNVs;have HLvb:=Hh hlvb;have HFvb:=Hh hfvb;have HPC:=Hh hpcell;have HFC:=Hh hfcell;have HM:=Hh hM;have HTd:=Hh hT';have HMlow:=Hh hMlow;have HMT:=Hh hMT;have HT2:=Hh hT2;have HRow':=Hh hrow';have HAt':=Hh hat';have HBox':=Hh hbox';clear hat hrow hl hf hs0 hLL hKL hnext hlen1 hklt hs0l hsz hrowb hrow1 hNV hNVs hlvb hfvb hpcell hfcell hM hT' hMlow hMT hT2 hrow' hat' hbox';go_wp2_with fail;go_loopw [14] (fun i W=>∃(j:Nat) (nv':Value),i=.int .i64 j/\j≤NV.length/\RowIs 3 encN W w2.heap.size (((List.zip LL KL).take j).foldl layF s0).1/\W.heap[w2.heap.size+2]?=some (.cells #[nv'] 26 (0,0)) ∧
      NodeRow T' (w2.heap.size+1) W nv' (((List.zip LL KL).take j).foldl layF s0).2/\(∀q,nv'.ownBlock=some q→nv.ownBlock=some q∨wl.heap.size≤q)/\Fr M wl W) (fun i _=>NV.length-(intOf i).toNat)
     case atStart=>exact⟨0,nv,rfl,Nat.zero_le _,by simpa using HAt'.out,HBox'.out,by simpa using HRow'.out,fun q h=>.inl h,Fr.refl _ _⟩
     case round =>
      obtain⟨j,nv',rfl,hj,hat,hbox,hrow,hnv,hfr⟩:=hrel;obtain⟨sj,hsj⟩:∃s,s=((List.zip LL KL).take j).foldl layF s0:=⟨_,rfl⟩;rw[←hsj]at hat hrow;by_cases hlt:j<NV.length
      ·have hltL:j<LL.length:=by rw[←HNVl.out];exact hlt
       have hltK:j<KL.length:=by have:=HLen1.out;omega
       have hkk:KL[j]<root+1:=HKlt.out _ (List.getElem_mem _);obtain⟨NV',hr',hNl',hNs'⟩:=id hrow;obtain⟨oa,oc,rfl,hoc,hocm,_⟩:=Pairs.of_owns hr';obtain⟨b6,o6,hfa,d9⟩:=HFC.out j KL[j] (List.getElem?_eq_getElem _);obtain⟨b5,o5,hpa,d7,d8⟩:=HPC.out j NV[j] (List.getElem?_eq_getElem _);have hb6:¬M b6:=HMlow.out b6 (HFvb.out b6 (by rw[hfa];rfl)).1;have hb5:¬M b5:=HMlow.out b5 (HLvb.out b5 (by rw[hpa];rfl)).1;obtain⟨e1,e2,e3,e4⟩:=HNVs.out j NV[j] LL[j] (List.getElem?_eq_getElem _) (List.getElem?_eq_getElem _);obtain⟨⟨x1,x2⟩,hxx⟩:∃y,y=NV[j]:=⟨_,rfl⟩;rw[←hxx]at d7 d8 e1 e2 e3 e4;obtain⟨xa,xc,rfl,hx1⟩:=id e1;obtain⟨xa',xc',rfl,hx2⟩:=id e2;dsimp only at d7 d8 e1 e2 e3 e4
       have hsl:sj.1.length=root+1:=by rw[hsj,(zd8 _ _).1];exact HS0l.out.1
       have c9:wr.cell? ⟨b6,o6+j,none⟩=some (.int .i64 (KL[j]:Int)):=hfr.cell d9 hb6;have c7:=hfr.cell d7 hb5;have c8:=hfr.cell d8 hb5;have cat:=hat.cell KL[j] (by omega);have zat:=hat.frozen KL[j];have cbx:wr.cell? ⟨w2.heap.size+2,0,none⟩=some (.slice oa NV'.length oc):=by rw[cell_of_row wr _ 0 _ _ _ hbox];rfl
       have ix6:=zaa fa KL.length fc j b6 o6 hltK hfa;have ix5:=zbe pa NV.length pc j b5 o5 hlt hpa;have ix7:=zdm w2.heap.size (root+1) (root+1) KL[j] hkk;have hstep:((List.zip LL KL).take (j+1)).foldl layF s0=(sj.1.set KL[j] NV'.length,sj.2 ++ [LL[j]]):=by
        rw[List.take_succ_eq_append_getElem (by rw[List.length_zip];omega),List.foldl_append,←hsj,List.getElem_zip];simp only[List.foldl_cons,List.foldl_nil,layF,hNl']
       have hnvb:∀q,(Value.slice oa NV'.length oc).ownBlock=some q→w2.heap.size+1≤q/\q<wr.heap.size/\q≠w2.heap.size+2/\¬T' q:=fun q hq=>by
        obtain⟨h1,h2⟩:=hr'.lt q hq;have h3:=HSz.out;have h4:=HFq.out.size;rcases hnv q hq with h|h
        ·exact⟨h1,h2,(HNv.out q h).1,fun ht=>HMT.out q ht (by rw[HM.out];exact .inr (.inr h))⟩
        ·exact⟨h1,h2,by omega,fun ht=>by have:=(HT2.out q ht).2;omega⟩
       have hbsz:NV'.length≤1000000000000:=by
        have h1:=HS0l.out.2;have h2:=HLen1.out;have h3:sj.2.length≤n*(root+1)+(root+1):=by
         rw[hsj,(zd8 _ _).2,List.length_take,List.length_zip];omega
        have h4:n*(root+1)≤999998*999999:=Nat.mul_le_mul (by omega) (by omega);omega
       have HAt3:=Hh hat;have HBox3:=Hh hbox;have HRow3:=Hh hrow;have HNv3:=Hh hnv;have HFr3:=Hh hfr;have HSj:=Hh hsj;have HStep:=Hh hstep;have HNvb:=Hh hnvb;have HBsz:=Hh hbsz;have HE1:=Hh e1;have HE2:=Hh e2;have HE3:=Hh e3;have HE4:=Hh e4;have HR':=Hh hr';have HNl':=Hh hNl';have HNs':=Hh hNs';have HXX:=Hh hxx;have HB5:=Hh hb5;have HD7:=Hh d7;have HD8:=Hh d8;clear hat hbox hrow hnv hfr hsj hstep hnvb hbsz e1 e2 e3 e4 hr' hNl' hNs' hxx hb5 hb6 d7 d8 d9 hx1 hx2 hpa hfa;go_upto_region 21 with fail;go_cut []from 118 to 141 (fun wx=>RowIs 3 encN wx w2.heap.size (sj.1.set KL[j] NV'.length)/\Fr (fun q=>q=w2.heap.size) wr wx)
       case first =>
        go_region_law (fail);all_goals
         go_wp2_with fail;go_meet
         case rel=>exact⟨HAt3.out.set KL[j] NV'.length,(Fr.setCell (Fr.refl (fun q=>q=w2.heap.size) wr) _ _ (fun _=>rfl)).drew⟩
       case rest =>
        obtain⟨hat4,hf4⟩:=hcut;obtain⟨w21,rfl⟩:∃w21,w21=wc:=⟨_,rfl⟩;have hsz:=HSz.out;have hbox4:=hf4.heap HBox3.out (by omega);have hrow4:=HRow3.out.fr hf4 (fun q hq=>by have:=(HNvb.out q hq).1;omega) (fun q hq=>by have:=(HT2.out q hq).1;omega);have hfl4:Fr M wl w21:=HFr3.out.trans hf4 (fun q _ h=>by rw[HM.out];exact .inl h);have c7:=hfl4.cell HD7.out HB5.out;have c8:=hfl4.cell HD8.out HB5.out;have cbx:w21.cell? ⟨w2.heap.size+2,0,none⟩=some (.slice oa NV'.length oc):=by rw[cell_of_row w21 _ 0 _ _ _ hbox4];rfl
        have zbx:w21.frozen? ⟨w2.heap.size+2,0,none⟩=false:=by simp[World.frozen?,hbox4]
        have cbxa:∀o,(w21.alloc o).cell? ⟨w2.heap.size+2,0,none⟩=_:=fun o=>((Fr.refl NoM w21).alloc o).cell cbx (fun q=>q)
        have HAt4:=Hh hat4;have HF4:=Hh hf4;have HBox4:=Hh hbox4;have HRow4:=Hh hrow4;have HFl4:=Hh hfl4;clear hat4 hf4 hbox4 hrow4 hfl4 hsz;go_upto_region 22 with fail;go_region_law (first
         | (refine zgc (w2.heap.size+1) (by have:=HSz.out;have:=HFq.out.size;have:=HFl4.out.size;simp;omega) rfl (.tmp 134) (.tmp 139) 24 rfl 85 _ 48 Tryz.underlying24 zc6 rfl (.slice oa NV'.length oc) NV' rfl (by exact za3 HR'.out ((HF4.out.alloc _).drew) (fun q hq e=>by have:=(HNvb.out q hq).1;omega)) (.slice (some ⟨w21.heap.size,0,none⟩) 1 1) rfl [(.slice xa LL[j].1.length xc,.slice xa' LL[j].2.length xc')] (by exact Pairs.one w21 _ 85) (fun y hy=>by simp at hy;subst hy;exact⟨rfl,rfl⟩) (by have:=HBsz.out;simp;omega) (by decide) ?_;intro v4 w4 h4 f4 q4;obtain⟨a4,c4,rfl,_⟩:=Pairs.of_owns h4;have f4':Fr (Own1 (.slice oa NV'.length oc)) w21 w4:=Fr.trans ((Fr.refl (Own1 (.slice oa NV'.length oc)) w21).alloc _).drew f4 (fun _ _ q=>q);have cb4:=f4'.cell cbx (fun e=>(HNvb.out _ e).2.2.1 rfl);have zb4:w4.frozen? ⟨w2.heap.size+2,0,none⟩=false:=(by simp[World.frozen?,f4'.heap HBox4.out (fun e=>(HNvb.out _ e).2.2.1 rfl)]))
         | fail)
        all_goals
         go_wp2;go_roundw
         case rel =>
          refine⟨j+1,.slice a4 (NV'.length+1) c4,by go_num,by omega,?_⟩;rw[HStep.out];exact yc0 HF4.out HFl4.out f4' HAt4.out HBox4.out HNv3.out HNvb.out HT2.out HM.out HMlow.out (fun q h1 h2=>by rw[HTd.out];exact .inr ⟨h1,h2⟩) HSz.out HFq.out.size HNl'.out HNs'.out HE1.out HE2.out HE3.out HE4.out h4 q4
         case measure=>simp[intOf];omega
      ·have hjN:j=NV.length:=by omega
       have HAt2:=Hh hat;have HBox2:=Hh hbox;have HRow2:=Hh hrow;have HNv2:=Hh hnv;have HFr2:=Hh hfr;have HSj:=Hh hsj;clear hat hbox hrow hnv hfr hsj;go_wp2;go_roundw
       case rel =>
        have e1:zay NL BL (zap NL root) root (n+1)=sj:=by
         have h1:=HNVl.out;have h2:=HLen1.out;rw[HNext.out,HSj.out,hjN,List.take_of_length_le (by rw[List.length_zip];omega)]
        refine⟨n+1,T',_,by go_num,by omega,by rw[e1];exact HAt2.out,HBox2.out,by rw[e1];exact HRow2.out,fun q hq=>(HT2.out q hq).1,fun q hq=>?_,?_⟩
        ·rcases HNv2.out q hq with h|h
         ·refine⟨by have:=HRowb.out q h;have:=(HNv.out q h).1;omega,fun ht=>HMT.out q ht (by rw[HM.out];exact .inr (.inr h))⟩
         ·have h1:=HSz.out;have h2:=HFq.out.size
          exact⟨by omega,fun ht=>by have:=(HT2.out q ht).2;omega⟩
        ·refine(HFr.out.trans HFq.out (fun _ _ q=>q)).trans HFr2.out (fun q hq h=>?_)
         rw[HM.out]at h;rcases h with h|h|h
         ·omega
         ·omega
         ·have:=HRowb.out q h;omega
       case measure=>simp[intOf];omega
  ·have hn1:n=bR+1:=by omega
   subst hn1;obtain⟨va,vc,e,_⟩:=id (HRow.out.nodeL (R:=AnyB) (fun _ _=>trivial) (fun _ _=>trivial));subst e;have k0:wo.cell? ⟨w2.heap.size+2,0,none⟩=some (.slice va (zay NL BL (zap NL root) root (bR+1)).2.length vc):=by rw[cell_of_row wo _ 0 _ _ _ HBox.out];rfl
   have hb4:=HFr.out.heap HB4.out (fun q=>q);have k4:wo.cell? ⟨w.heap.size,0,none⟩=some (.slice none 0 0):=by rw[cell_of_row wo _ 0 _ _ _ hb4];rfl
   have z4:wo.frozen? ⟨w.heap.size,0,none⟩=false:=by simp[World.frozen?,hb4]
   have hz4:w.heap.size<wo.heap.size:=(Array.getElem?_eq_some_iff.1 hb4).1;have h4:(wo.setCell ⟨w.heap.size,0,none⟩ (.slice va (zay NL BL (zap NL root) root (bR+1)).2.length vc)).heap[w.heap.size]?=some (.cells #[.slice va (zay NL BL (zap NL root) root (bR+1)).2.length vc] 26 (0,0)):=by rw[heap_set hb4];rfl
   have k5:(wo.setCell ⟨w.heap.size,0,none⟩ (.slice va (zay NL BL (zap NL root) root (bR+1)).2.length vc)).cell? ⟨w.heap.size,0,none⟩=some (.slice va (zay NL BL (zap NL root) root (bR+1)).2.length vc):=by rw[cell_of_row _ _ 0 _ _ _ h4];rfl
   have HB5:=Hh hb4;have K5:=Hh k5;clear hb4 h4 k5;go_wp2;have hfin:zd3 NL BL root=(zay NL BL (zap NL root) root (bR+1)).2:=by unfold zd3;rw[List.getD_eq_getElem?_getD,HbR.out];rfl
   have HFin:=Hh hfin;clear hfin;have hs2:=HS2.out;refine bodyPost_ret (v:=.agg #[.slice va (zay NL BL (zap NL root) root (bR+1)).2.length vc]) (by simp[results,Tryz.results72,go_sem,K5.out]) rfl ?_
   have fz:Fr NoM w (wo.setCell ⟨w.heap.size,0,none⟩ (.slice va (zay NL BL (zap NL root) root (bR+1)).2.length vc)):=(HF2.out.trans HFr.out (fun _ _ q=>q)).setCell _ _ (fun h=>absurd h (Nat.lt_irrefl _));refine⟨_,rfl,?_,fz⟩;rw[HFin.out];refine⟨_,_,HRow.out.fr (M:=fun k=>k=w.heap.size) (Fr.set wo ⟨w.heap.size,0,none⟩ _) (fun b hb e=>?_) (fun b hb e=>?_),by omega,fun q hq=>by have:=HT.out q hq;omega,fun q hq=>(HNv.out q hq).2⟩
   ·obtain⟨NV,h1,_⟩:=HRow.out
    have:=(h1.lt b hb).1;omega
   ·have:=HT.out b hb;omega
theorem zi2 {S:Nat→Prop}(bb root:Nat)(NL:List PL)(BL:List Nat)(w:World)(hB:BookS S w bb NL BL)(hOK:BookOK NL BL)(hr:root<NL.length)(hn:NL.length<1000000)(hlen:∀y∈NL,y.1.length<100000000/\y.2.length<100000000) :
  Calls Tryz.prog 72 #[.pointer (some ⟨bb,0,none⟩),.int .i64 (root:Int)] w fun e w'=>∃v',e=.returned (.agg #[v'])/\NodeL (fun b=>w.heap.size≤b) encN w' v' (zd3 NL BL root)/\Fr NoM w w':=by
 refine(zuh bb root NL BL w hB hOK hr hn hlen).mono ?_
 rintro e w' ⟨v',rfl,h,f⟩;exact⟨v',rfl,h.nodeL,f⟩
end Go.Proofs.YtghekfmfonoocaaGreatDoor
