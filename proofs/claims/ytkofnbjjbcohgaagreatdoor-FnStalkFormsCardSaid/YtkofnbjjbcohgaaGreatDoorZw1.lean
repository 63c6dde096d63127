import Derived.Test.YtkofnbjjbcohgaaGreatDoorZwi
/- Lemmas. -/
namespace Go.Proofs.YtkofnbjjbcohgaaGreatDoor
set_option linter.unusedVariables false
set_option linter.unusedSimpArgs false
open Go.RowKit
abbrev PL:=List Nat × List Nat
def posA (LL:List PL)(x:PL):Nat:=(LL.takeWhile fun y=>zac y x).length
def keyF (A:List Nat)(y:PL):PL:=(za6 (za1 A y.1),za6 (za1 A y.2))
def insF (s:List PL × List Nat)(x:PL)(k:Nat):List PL × List Nat :=
 (s.1.take (posA s.1 x)++x::s.1.drop (posA s.1 x),s.2.take (posA s.1 x)++k::s.2.drop (posA s.1 x))
def zd7 (NL:List PL)(BL:List Nat)(need:List Bool)(A:List Nat)(born:Nat)(s:List PL × List Nat)(k:Nat):List PL × List Nat :=
 if need.getD k false=true/\BL.getD k 0=born then insF s (keyF A (NL.getD k ([],[]))) k else s
def zc9 (NL:List PL)(BL:List Nat)(need:List Bool)(A:List Nat)(born n:Nat):List PL × List Nat:=(List.range n).foldl (zd7 NL BL need A born) ([],[])
def layF (s:List Nat × List PL)(p:PL × Nat):List Nat × List PL:=(s.1.set p.2 s.2.length,s.2 ++ [p.1])
def zrk (NL:List PL)(BL:List Nat)(need:List Bool)(root:Nat)(s:List Nat × List PL)(born:Nat):List Nat × List PL :=
 (List.zip (zc9 NL BL need s.1 born (root+1)).1 (zc9 NL BL need s.1 born (root+1)).2).foldl layF s
def zag (NL:List PL)(BL:List Nat)(need:List Bool)(root n:Nat):List Nat × List PL:=(List.range n).foldl (zrk NL BL need root) (List.replicate (root+1) 0,[])
def ze7 (NL:List PL)(BL:List Nat)(root:Nat):List PL:=(zag NL BL (zab NL root) root (BL.getD root 0+1)).2
theorem zcp (NL:List PL)(BL:List Nat)(need:List Bool)(A:List Nat)(born n:Nat):zc9 NL BL need A born (n+1)=zd7 NL BL need A born (zc9 NL BL need A born n) n:=by simp[zc9,List.range_succ]
theorem ze6 (NL:List PL)(BL:List Nat)(need:List Bool)(root n:Nat):zag NL BL need root (n+1)=zrk NL BL need root (zag NL BL need root n) n:=by simp[zag,List.range_succ]
theorem ze8 (NL:List PL)(m:List Bool)(k:Nat):(zbe NL m k).length=m.length:=by
 unfold zbe;split
 ·rw[zah,zah]
 ·rfl
theorem ze9 (NL:List PL)(n:Nat)(m:List Bool):(zb1 NL n m).length=m.length:=by
 induction n generalizing m with
 | zero=>rfl
 | succ n ih=>unfold zb1;rw[ih,ze8]
theorem zfg (NL:List PL)(root:Nat):(zab NL root).length=root+1:=by unfold zab;rw[ze9];simp
theorem zxk (LL:List PL)(x:PL):posA LL x≤LL.length:=(List.takeWhile_sublist _).length_le
theorem zxm (LL:List PL)(x:PL)(k:Nat)(hk:k≤LL.length)(hb:∀j y,j<k→LL[j]?=some y→zac y x=true)(he:∀y,LL[k]?=some y→zac y x=false):posA LL x=k:=by
 induction LL generalizing k with
 | nil=>simp at hk;subst hk;rfl
 | cons a l ih =>
  cases k with
  | zero=>have:=he a rfl;simp[posA,List.takeWhile_cons,this]
  | succ k =>
   have h0:=hb 0 a (by omega) rfl;have:=ih k (by simpa using hk) (fun j y hj hy=>hb (j+1) y (by omega) (by simpa using hy)) (fun y hy=>he y (by simpa using hy));simp only[posA,List.takeWhile_cons,h0,if_true,List.length_cons]at this ⊢
   omega
theorem znt (s:List PL × List Nat)(x:PL)(k:Nat)(h:s.1.length=s.2.length):(insF s x k).1.length=s.1.length+1/\(insF s x k).2.length=s.2.length+1:=by
 have:=zxk s.1 x;simp only[insF,List.length_append,List.length_take,List.length_cons,List.length_drop];omega
theorem zeg (NL:List PL)(BL:List Nat)(need:List Bool)(A:List Nat)(born n:Nat):(zc9 NL BL need A born n).1.length=(zc9 NL BL need A born n).2.length/\(zc9 NL BL need A born n).1.length≤n:=by
 induction n with
 | zero=>simp[zc9]
 | succ n ih =>
  rw[zcp];unfold zd7;split
  ·have:=znt _ (keyF A (NL.getD n ([],[]))) n ih.1
   omega
  ·omega
theorem zvg (s:List PL × List Nat)(x:PL)(k y:Nat):y∈(insF s x k).2↔y∈s.2∨y=k:=by
 simp only[insF,List.mem_append,List.mem_cons];constructor
 ·rintro(h|h|h)
  ·exact .inl (List.mem_of_mem_take h)
  ·exact .inr h
  ·exact .inl (List.mem_of_mem_drop h)
 ·rintro(h|h)
  ·rw[←List.take_append_drop (posA s.1 x) s.2,List.mem_append]at h
   rcases h with h|h
   ·exact .inl h
   ·exact .inr (.inr h)
  ·exact .inr (.inl h)
theorem zoq (NL:List PL)(BL:List Nat)(need:List Bool)(A:List Nat)(born n:Nat):∀y∈(zc9 NL BL need A born n).2,y<n:=by
 induction n with
 | zero=>simp[zc9]
 | succ n ih =>
  rw[zcp];unfold zd7;intro y hy;split at hy
  ·rcases (zvg _ _ _ _).1 hy with h|h
   ·have:=ih y h;omega
   ·omega
  ·have:=ih y hy;omega
theorem zc3 (l:List (PL × Nat))(s:List Nat × List PL):(l.foldl layF s).1.length=s.1.length/\(l.foldl layF s).2.length=s.2.length+l.length:=by
 induction l generalizing s with
 | nil=>simp
 | cons x l ih =>
  rw[List.foldl_cons];have:=ih (layF s x);simp only[layF,List.length_set,List.length_append,List.length_cons,List.length_nil]at this ⊢
  omega
theorem zbv (NL:List PL)(BL:List Nat)(need:List Bool)(root n:Nat):(zag NL BL need root n).1.length=root+1/\(zag NL BL need root n).2.length≤n*(root+1):=by
 induction n with
 | zero=>simp[zag]
 | succ n ih =>
  rw[ze6];unfold zrk;have h:=zc3 (List.zip (zc9 NL BL need (zag NL BL need root n).1 n (root+1)).1 (zc9 NL BL need (zag NL BL need root n).1 n (root+1)).2) (zag NL BL need root n);have h2:=zeg NL BL need (zag NL BL need root n).1 n (root+1);rw[List.length_zip]at h;rw[Nat.succ_mul];omega
def NodeRow (T:Nat→Prop) (base:Nat) (w:World) (v:Value) (LL:List PL):Prop :=
  ∃ NV : List (Value × Value), w.ownsRow base 55 2 v NV.length (zay NV) ∧ NV.length = LL.length ∧
    ∀ (j:Nat) (x:Value × Value) (y:PL),NV[j]?=some x→LL[j]?=some y→Nats w x.1 y.1∧Nats w x.2 y.2∧(y.1≠[]→∀ q,x.1.ownBlock=some q→T q)∧(y.2≠[]→∀ q,x.2.ownBlock=some q→T q)
section
variable {T:Nat→Prop}{base:Nat}{w w':World}{v:Value}{LL:List PL}
theorem NodeRow.fr {M:Nat→Prop}(h:NodeRow T base w v LL)(hf:Fr M w w')(hv:∀b,v.ownBlock=some b→¬M b)(hT:∀b,T b→¬M b):NodeRow T base w' v LL:=by
 obtain⟨NV,h1,h2,h3⟩:=h;refine⟨NV,za2 h1 hf hv,h2,fun j x y hx hy=>?_⟩;obtain⟨s1,s2,t1,t2⟩:=h3 j x y hx hy;exact⟨s1.fr hf (fun hne q hq=>hT q (t1 hne q hq)),s2.fr hf (fun hne q hq=>hT q (t2 hne q hq)),t1,t2⟩
theorem NodeRow.fr0 (h:NodeRow T base w v LL)(hf:Fr NoM w w'):NodeRow T base w' v LL:=h.fr hf (fun _ _ q=>q) (fun _ _ q=>q)
theorem NodeRow.mono {T':Nat→Prop}(h:NodeRow T base w v LL)(ht:∀b,T b→b<w.heap.size→T' b):NodeRow T' base w v LL:=by
 obtain⟨NV,h1,h2,h3⟩:=h;refine⟨NV,h1,h2,fun j x y hx hy=>?_⟩;obtain⟨s1,s2,t1,t2⟩:=h3 j x y hx hy;refine⟨s1,s2,fun hne q hq=>ht q (t1 hne q hq) ?_,fun hne q hq=>ht q (t2 hne q hq) ?_⟩
 ·obtain⟨b,hb,hl⟩:=s1.block hne;rw[hq]at hb;cases hb;exact hl
 ·obtain⟨b,hb,hl⟩:=s2.block hne;rw[hq]at hb;cases hb;exact hl
theorem NodeRow.nodeL {R:Nat→Prop}(h:NodeRow T base w v LL)(hR:∀b,base≤b→R b)(hT:∀b,T b→R b):NodeL R encN w v LL:=by
 obtain⟨NV,h1,h2,h3⟩:=h;have hb:=fun b hb=>(h1.lt b hb).1
 obtain⟨a,c,rfl,h4,h5,h6⟩:=Pairs.of_owns h1;rw[h2]at h4 hb ⊢;refine⟨a,c,rfl,h4,h5,fun j y hy=>?_⟩;have hj:=(List.getElem?_eq_some_iff.1 hy).1;obtain⟨x,hx⟩:∃x,NV[j]?=some x:=⟨NV[j]'(by rw[h2];exact hj),List.getElem?_eq_getElem _⟩;obtain⟨b,off,rfl,c1,c2⟩:=h6 j x hx;obtain⟨s1,s2,t1,t2⟩:=h3 j x y hx hy;exact⟨b,off,x.1,x.2,rfl,hR b (hb b rfl),c1,c2,s1,s2,fun hne q hq=>hT q (t1 hne q hq),fun hne q hq=>hT q (t2 hne q hq)⟩
def NodeOwn (D:Nat)(w:World)(v:Value)(LL:List PL):Prop:=∃(T:Nat→Prop) (base:Nat),NodeRow T base w v LL/\D≤base/\(∀q,T q→D≤q)/\∀q,v.ownBlock=some q→¬T q
theorem NodeOwn.nodeL {D:Nat}(h:NodeOwn D w v LL):NodeL (fun b=>D≤b) encN w v LL:=by
 obtain⟨T,base,h1,h2,h3,_⟩:=h;exact h1.nodeL (fun b hb=>Nat.le_trans h2 hb) h3
theorem NodeOwn.fr {M:Nat→Prop}{D:Nat}(h:NodeOwn D w v LL)(hf:Fr M w w')(hM:∀q,D≤q→¬M q):NodeOwn D w' v LL:=by
 obtain⟨T,base,h1,h2,h3,h4⟩:=h;have hb:∀b,v.ownBlock=some b→base≤b:=by
  obtain⟨NV,o,_⟩:=h1;exact fun b hb=>(o.lt b hb).1
 exact⟨T,base,h1.fr hf (fun b e=>hM b (Nat.le_trans h2 (hb b e))) (fun b e=>hM b (h3 b e)),h2,h3,h4⟩
theorem NodeOwn.mono {D D':Nat}(h:NodeOwn D w v LL)(hD:D'≤D):NodeOwn D' w v LL:=by
 obtain⟨T,base,h1,h2,h3,h4⟩:=h;exact⟨T,base,h1,Nat.le_trans hD h2,fun q hq=>Nat.le_trans hD (h3 q hq),h4⟩
end
theorem zer {P:Program}{w:World}{ops:Array Oper}{o:Oper}{a:Act}{K:Act→World→Prop}{Q:Exit→Act→World→Prop}{E:Prop}(base:Nat)(hb:base≤w.heap.size)(hg:o.guard=none)(s x:Operand)(t:TypeId)
  (hop:o.op=Op.call { callee:=Callee.builtin Builtin.append,args:=#[s,x],argTypes:=#[t,t] }) (e:TypeId) (z:Value) (bytes:Nat) (ht:P.underlying t=some (.slice e))
  (hi:(P.info? e).map (fun i=>(i.zero,i.size,i.bytes))=some (some z,2,bytes)) (hz:z.cells.size=2) (v:Value) (XV:List (Value × Value)) (hs:a.eval s=v) (hown:w.ownsRow base e 2 v XV.length (zay XV))
  (xv:Value) (hx:a.eval x=xv) (NV:List (Value × Value)) (hsrc:Pairs w xv NV) (h1:∀x∈NV,x.1.oneCell'=true/\x.2.oneCell'=true) (hn:(XV.length+NV.length)*bytes≤140737488355328) (hb1:0<bytes)
  (hK:∀(v':Value) (w':World),w'.ownsRow base e 2 v' (XV++NV).length (zay (XV++NV))→Fr (Own1 v) w w'→(v'.ownBlock=v.ownBlock∨∃b,v'.ownBlock=some b/\w.heap.size≤b)→K (a.put o.dst v') w') :
  if Region.wanted o (yielded ops a.tmps)=true then Oper.wp P o a w K Q else E:=by
 have hw:Region.wanted o (yielded ops a.tmps)=true:=by simp[Region.wanted,hg]
 rw[if_pos hw];obtain⟨v',w',hr,h2,h3,h4⟩:=zee (P:=P) w t o.type base e z bytes ht hi hz v XV hown xv NV hsrc h1 hn hb1 hb;unfold Oper.wp execOp;simp only[hop,resolve,invoke,builtin,Sem.run_bind,Sem.run_pure,Result.andThen_ok,List.map_toArray,List.map_cons,List.map_nil,hs,hx,hr];exact hK v' w' h2 h3 h4
theorem zt4 {α:Type}(l:List α)(a:α)(j i:Nat)(hj:j≤l.length):(l.take j++a::l.drop j)[i]?=if i<j then l[i]? else if i=j then some a else l[i-1]?:=by
 have ht:(l.take j).length=j:=by simp;omega
 by_cases h1:i<j
 ·rw[if_pos h1,List.getElem?_append_left (by omega),List.getElem?_take,if_pos h1]
 ·rw[if_neg h1,List.getElem?_append_right (by omega),ht]
  by_cases h2:i=j
  ·subst h2;simp
  ·rw[if_neg h2,show i-j=(i-j-1)+1 from by omega,List.getElem?_cons_succ,List.getElem?_drop]
   congr 1;omega
theorem zhr {T:Nat→Prop}{base:Nat}{w:World}{v:Value}{LL:List PL}{NV:List (Value × Value)}{x:PL}{xv:Value × Value}{j:Nat}(h:w.ownsRow base 55 2 v (NV.take j++xv::NV.drop j).length (zay (NV.take j++xv::NV.drop j)))
  (hl:NV.length=LL.length) (hj:j≤LL.length)
  (hV:∀(i:Nat) (x:Value × Value) (y:PL),NV[i]?=some x→LL[i]?=some y→Nats w x.1 y.1/\Nats w x.2 y.2/\(y.1≠[]→∀q,x.1.ownBlock=some q→T q)/\(y.2≠[]→∀q,x.2.ownBlock=some q→T q))
  (hx:Nats w xv.1 x.1/\Nats w xv.2 x.2/\(x.1≠[]→∀q,xv.1.ownBlock=some q→T q)/\(x.2≠[]→∀q,xv.2.ownBlock=some q→T q)):NodeRow T base w v (LL.take j++x::LL.drop j):=by
 refine⟨_,h,by simp;omega,fun i a b ha hb=>?_⟩;rw[zt4 NV xv j i (by omega)]at ha;rw[zt4 LL x j i hj]at hb;by_cases h1:i<j
 ·rw[if_pos h1]at ha hb;exact hV i a b ha hb
 ·rw[if_neg h1]at ha hb
  by_cases h2:i=j
  ·rw[if_pos h2]at ha hb;cases ha;cases hb;exact hx
  ·rw[if_neg h2]at ha hb;exact hV _ a b ha hb
theorem zm7 {T:Nat→Prop}{base:Nat}{w:World}{v:Value}{LL:List PL}{NV:List (Value × Value)}{x:PL}{xv:Value × Value}(h:w.ownsRow base 55 2 v (NV ++ [xv]).length (zay (NV ++ [xv])))
  (hl:NV.length=LL.length)
  (hV:∀(i:Nat) (x:Value × Value) (y:PL),NV[i]?=some x→LL[i]?=some y→Nats w x.1 y.1/\Nats w x.2 y.2/\(y.1≠[]→∀q,x.1.ownBlock=some q→T q)/\(y.2≠[]→∀q,x.2.ownBlock=some q→T q))
  (hx:Nats w xv.1 x.1/\Nats w xv.2 x.2/\(x.1≠[]→∀q,xv.1.ownBlock=some q→T q)/\(x.2≠[]→∀q,xv.2.ownBlock=some q→T q)):NodeRow T base w v (LL ++ [x]):=by
 have:=zhr (NV:=NV) (LL:=LL) (x:=x) (xv:=xv) (j:=LL.length) (v:=v) (by rw[←hl,List.take_length,List.drop_length];exact h) hl (Nat.le_refl _) hV hx;rw[List.take_length,List.drop_length]at this
 exact this
theorem zov {w:World}{v:Value}{L:List Nat}(h:Nats w v L):v.oneCell'=true:=by
 obtain⟨a,c,rfl,_⟩:=h;rfl
theorem zdt {w:World}{b:Nat}{v1 v2:Value}{e:TypeId}(h:w.heap[b]?=some (.cells #[v1,v2] e (0,0))):w.cell? ⟨b,0,none⟩=some v1/\w.cell? ⟨b,1,none⟩=some v2/\w.frozen? ⟨b,0,none⟩=false/\w.frozen? ⟨b,1,none⟩=false :=
 ⟨by rw[cell_of_row w b 0 _ _ _ h];rfl,by rw[cell_of_row w b 1 _ _ _ h];rfl,by simp[World.frozen?,h],by simp[World.frozen?,h]⟩
theorem put2 {w:World}{b:Nat}{v1 v2 u1 u2:Value}{e:TypeId}(h:w.heap[b]?=some (.cells #[v1,v2] e (0,0))):((w.setCell ⟨b,0,none⟩ u1).setCell ⟨b,1,none⟩ u2).heap[b]?=some (.cells #[u1,u2] e (0,0))/\Fr (fun q=>q=b) w ((w.setCell ⟨b,0,none⟩ u1).setCell ⟨b,1,none⟩ u2):=by
 constructor
 ·have h1:(w.setCell ⟨b,0,none⟩ u1).heap[b]?=some (.cells #[u1,v2] e (0,0)):=by rw[heap_set h];rfl
  rw[heap_set h1];rfl
 ·exact Fr.setCell (Fr.setCell (Fr.refl (fun q=>q=b) w) ⟨b,0,none⟩ u1 (fun _=>rfl)) ⟨b,1,none⟩ u2 (fun _=>rfl)
theorem zvp {a wos:Nat}{wl wr w21 w4:World}{M T':Nat→Prop}{nv:Value}{oa a4:Option Addr}{oc c4:Nat}{NV':List (Value × Value)}{SL:List PL}{lv rv:Value}{y:PL}{sA:List Nat}{o:Obj}
  (hF4:Fr (fun q=>q=a) wr w21) (hFl:Fr M wl w21) (f4:Fr (Own1 (.slice oa NV'.length oc)) w21 w4) (hat:RowIs 3 encN w21 a sA)
  (hbox:w21.heap[a+2]?=some (.cells #[.slice oa NV'.length oc] 27 (0,0))) (hnv:∀q,(Value.slice oa NV'.length oc).ownBlock=some q→nv.ownBlock=some q∨wl.heap.size≤q)
  (hnb:∀q,(Value.slice oa NV'.length oc).ownBlock=some q→a+1≤q/\q<wr.heap.size/\q≠a+2/\¬T' q) (hT2:∀q,T' q→a+2<q/\q<wl.heap.size)
  (hM:M=fun q=>q=a∨q=a+2∨nv.ownBlock=some q) (hMlow:∀q,wos≤q→¬M q) (hmem:∀q,wos≤q→q<wl.heap.size→T' q) (hsz:a+2<wos) (hwl:wos≤wl.heap.size) (hlen:NV'.length=SL.length)
  (hms:∀(i:Nat) (x:Value × Value) (y:PL),NV'[i]?=some x→SL[i]?=some y→Nats wr x.1 y.1/\Nats wr x.2 y.2/\(y.1≠[]→∀q,x.1.ownBlock=some q→T' q)/\(y.2≠[]→∀q,x.2.ownBlock=some q→T' q))
  (e1:Nats wl lv y.1) (e2:Nats wl rv y.2) (e3:y.1≠[]→∀q,lv.ownBlock=some q→wos≤q) (e4:y.2≠[]→∀q,rv.ownBlock=some q→wos≤q)
  (h4:w4.ownsRow (a+1) 55 2 (.slice a4 (NV' ++ [(lv,rv)]).length c4) (NV' ++ [(lv,rv)]).length (zay (NV' ++ [(lv,rv)])))
  (q4:(Value.slice a4 (NV' ++ [(lv,rv)]).length c4).ownBlock=(Value.slice oa NV'.length oc).ownBlock∨∃b,(Value.slice a4 (NV' ++ [(lv,rv)]).length c4).ownBlock=some b/\(w21.alloc o).drew.heap.size≤b) :
  RowIs 3 encN (w4.setCell ⟨a+2,0,none⟩ (.slice a4 (NV'.length+1) c4)) a sA/\(w4.setCell ⟨a+2,0,none⟩ (.slice a4 (NV'.length+1) c4)).heap[a+2]?=some (.cells #[.slice a4 (NV'.length+1) c4] 27 (0,0)) ∧
   NodeRow T' (a+1) (w4.setCell ⟨a+2,0,none⟩ (.slice a4 (NV'.length+1) c4)) (.slice a4 (NV'.length+1) c4) (SL ++ [y])/\(∀q,(Value.slice a4 (NV'.length+1) c4).ownBlock=some q→nv.ownBlock=some q∨wl.heap.size≤q)/\Fr M wl (w4.setCell ⟨a+2,0,none⟩ (.slice a4 (NV'.length+1) c4)):=by
 have fX:Fr (fun q=>q=a+2) w4 (w4.setCell ⟨a+2,0,none⟩ (.slice a4 (NV'.length+1) c4)):=Fr.setCell (Fr.refl (fun q=>q=a+2) w4) _ _ (fun _=>rfl);have hb4:=f4.heap hbox (fun e=>(hnb _ e).2.2.1 rfl);have hs21:=hFl.size;have hs4:(w21.alloc o).drew.heap.size=w21.heap.size+1:=by simp
 rw[hs4]at q4;have hX:NodeRow T' (a+1) w4 (.slice a4 (NV' ++ [(lv,rv)]).length c4) (SL ++ [y]):=by
  have hE:∀(v:Value) (L:List Nat),Nats wl v L→(L≠[]→∀q,v.ownBlock=some q→wos≤q)→Nats w4 v L/\(L≠[]→∀q,v.ownBlock=some q→T' q):=fun v L h1 h2=>by
   have hq:L≠[]→∀q,v.ownBlock=some q→T' q:=fun hne q hq=>by
    obtain⟨b,hb,hl⟩:=h1.block hne;rw[hq]at hb;cases hb
    exact hmem q (h2 hne q hq) hl
   exact⟨(h1.fr hFl (fun hne q hq=>hMlow q (h2 hne q hq))).fr f4 (fun hne b hb e=>(hnb b e).2.2.2 (hq hne b hb)),hq⟩
  obtain⟨g1,g2⟩:=hE _ _ e1 e3;obtain⟨g3,g4⟩:=hE _ _ e2 e4;refine zm7 h4 hlen (fun i a' b ha hb=>?_) ⟨g1,g3,g2,g4⟩;obtain⟨s1,s2,s3,s4⟩:=hms i a' b ha hb;exact⟨(s1.fr hF4 (fun hne q hq e=>by have:=(hT2 q (s3 hne q hq)).1;omega)).fr f4 (fun hne q hq e=>(hnb q e).2.2.2 (s3 hne q hq)),
   (s2.fr hF4 (fun hne q hq e=>by have:=(hT2 q (s4 hne q hq)).1;omega)).fr f4 (fun hne q hq e=>(hnb q e).2.2.2 (s4 hne q hq)),s3,s4⟩
 have hown:∀q,(Value.slice a4 (NV' ++ [(lv,rv)]).length c4).ownBlock=some q→(Value.slice oa NV'.length oc).ownBlock=some q∨w21.heap.size≤q:=fun q hq=>by
  rcases q4 with h|⟨b,h,hle⟩
  ·rw[h]at hq;exact .inl hq
  ·rw[h]at hq;cases hq;exact .inr (by omega)
 rw[show(NV' ++ [(lv,rv)]).length=NV'.length+1 from by simp]at hX hown;refine⟨(hat.fr f4 (fun e=>by have:=(hnb _ e).1;omega)).fr fX (by omega),by rw[heap_set hb4];rfl,?_,?_,?_⟩
 ·refine hX.fr fX (fun q hq e=>?_) (fun q hq e=>by have:=(hT2 q hq).1;omega)
  rcases hown q hq with h|h
  ·exact(hnb q h).2.2.1 e
  ·omega
 ·intro q hq
  rcases hown q hq with h|h
  ·exact hnv q h
  ·exact .inr (by omega)
 ·refine(hFl.trans f4 (fun q hq e=>?_)).trans fX (fun q _ e=>by rw[hM];exact .inr (.inl e))
  rcases hnv q e with h|h
  ·rw[hM];exact .inr (.inr h)
  ·omega
def dg (d:Nat):UInt8:=UInt8.ofNat (if d<10 then 48+d else 87+d)
def undg (b:UInt8):Nat:=if b.toNat<58 then b.toNat-48 else b.toNat-87
def d36 (n:Nat):List UInt8:=if n<36 then [dg n]else d36 (n/36) ++ [dg (n%36)]
 termination_by n
 decreasing_by omega
theorem zpe (d:Nat)(h:d<36):(dg d).toNat=if d<10 then 48+d else 87+d:=by
 unfold dg;rw[UInt8.toNat_ofNat'];split <;> omega
theorem zrr (d:Nat)(h:d<36):undg (dg d)=d:=by
 unfold undg;rw[zpe d h];by_cases h1:d<10
 ·rw[if_pos h1,if_pos (by omega)];omega
 ·rw[if_neg h1,if_neg (by omega)];omega
theorem zz2 (n:Nat):∀b∈d36 n,48≤b.toNat/\b.toNat<123/\b.toNat≠44/\b.toNat≠124:=by
 have key:∀d,d<36→48≤(dg d).toNat/\(dg d).toNat<123/\(dg d).toNat≠44/\(dg d).toNat≠124:=by
  intro d h;rw[zpe d h];split <;> omega
 induction n using Nat.strongRecOn with
 | _ n ih =>
  intro b hb;unfold d36 at hb;split at hb
  ·simp at hb;subst hb;exact key _ (by assumption)
  ·rw[List.mem_append,List.mem_singleton]at hb
   rcases hb with hb|rfl
   ·exact ih (n/36) (by omega) b hb
   ·exact key _ (Nat.mod_lt _ (by decide))
theorem zz1 (n:Nat):d36 n≠[]:=by
 unfold d36;split <;> simp
def zxd (l:List UInt8):Nat:=l.foldl (fun v b=>v*36+undg b) 0
theorem zkm (n:Nat):zxd (d36 n)=n:=by
 induction n using Nat.strongRecOn with
 | _ n ih =>
  unfold d36;split
  ·rename_i h;simp[zxd,zrr n h]
  ·have:=ih (n/36) (by omega)
   unfold zxd at this ⊢
   rw[List.foldl_append,this];simp only[List.foldl_cons,List.foldl_nil];rw[zrr _ (Nat.mod_lt _ (by decide))];omega
theorem zyb {a b:Nat}(h:d36 a=d36 b):a=b:=by rw[←zkm a,h,zkm]
def keyL (l:List Nat):List UInt8:=l.flatMap fun i=>d36 i ++ [44]
def keyS (x:PL):List UInt8:=keyL x.1++124::keyL x.2
theorem zmd (l:List Nat)(i:Nat):keyL (l ++ [i])=keyL l++d36 i ++ [44]:=by simp[keyL]
theorem ziy {α:Type}(c:α):∀(a b x y:List α),c ∉ a→c ∉ b→a++c::x=b++c::y→a=b/\x=y
 | [],[],x,y,_,_,h=>by simp at h;exact⟨rfl,h⟩
 | [],q::b,x,y,_,hb,h=>by simp at h;exact absurd (by rw[h.1];exact List.mem_cons_self) hb
 | p::a,[],x,y,ha,_,h=>by simp at h;exact absurd (by rw[←h.1];exact List.mem_cons_self) ha
 | p::a,q::b,x,y,ha,hb,h=>by
  simp only[List.cons_append,List.cons.injEq]at h;obtain⟨h1,h2⟩:=ziy c a b x y (fun q=>ha (List.mem_cons_of_mem _ q)) (fun q=>hb (List.mem_cons_of_mem _ q)) h.2;exact⟨by rw[h.1,h1],h2⟩
theorem zti (n:Nat)(c:UInt8)(h:c.toNat=44∨c.toNat=124):c ∉ d36 n:=fun hc=>by
 have:=zz2 n c hc;omega
theorem zve {l:List Nat}(h:keyL l=[]):l=[]:=by
 cases l with
 | nil=>rfl
 | cons i t=>simp[keyL]at h
theorem zkb:∀(l m:List Nat),keyL l=keyL m→l=m
 | [],m,h=>(zve (by rw[←h];rfl)).symm
 | i::t,[],h=>by simp[keyL]at h
 | i::t,j::u,h=>by
  have h':d36 i++44::keyL t=d36 j++44::keyL u:=by simpa [keyL] using h
  obtain⟨h1,h2⟩:=ziy 44 _ _ _ _ (zti i 44 (.inl rfl)) (zti j 44 (.inl rfl)) h';rw[zyb h1,zkb t u h2]
theorem zvd:∀(x y:PL),keyS x=keyS y→x=y:=by
 intro⟨l,r⟩ ⟨l',r'⟩ h;have no:∀m:List Nat,(124:UInt8) ∉ keyL m:=by
  intro m hm;obtain⟨i,_,hi⟩:=List.mem_flatMap.1 hm;rw[List.mem_append,List.mem_singleton]at hi;rcases hi with hi|hi
  ·exact zti i 124 (.inr rfl) hi
  ·cases hi
 obtain⟨h1,h2⟩:=ziy 124 _ _ _ _ (no l) (no l') h;rw[zkb l l' h1,zkb r r' h2]
def enc3 (lv rv:Nat→Value)(i:Nat):List Value:=[encN i,lv i,rv i]
def zem (lv rv:Nat→Value)(G:List Nat):List Value:=G.flatMap (enc3 lv rv)
theorem zmn (lv rv:Nat→Value)(G:List Nat):(zem lv rv G).length=G.length*3:=by
 induction G with
 | nil=>rfl
 | cons y l ih=>simp only[zem,List.flatMap_cons,List.length_append,enc3,List.length_cons,List.length_nil]at ih ⊢;omega
theorem zmp (lv rv:Nat→Value)(G:List Nat)(j x:Nat)(h:G[j]?=some x):(zem lv rv G)[j*3]?=some (encN x)/\(zem lv rv G)[j*3+1]?=some (lv x)/\(zem lv rv G)[j*3+2]?=some (rv x):=by
 induction G generalizing j with
 | nil=>cases h
 | cons y l ih =>
  cases j with
  | zero=>simp at h;subst h;exact⟨rfl,rfl,rfl⟩
  | succ j =>
   have:=ih j (by simpa using h);simp only[zem,List.flatMap_cons]at this ⊢
   rw[show(j+1)*3=j*3+1+1+1 from by omega];exact this
def encU (b:UInt8):Value:=.int .u8 (b.toNat:Int)
theorem zme:(Tryz.prog.info? 5).map (fun i=>(i.zero,i.size,i.bytes))=some (some (.int .u8 0),1,1):=by kernel_rfl
def digs:ByteArray:=⟨#[48,49,50,51,52,53,54,55,56,57,97,98,99,100,101,102,103,104,105,106,107,108,109,110,111,112,113,114,115,116,117,118,119,120,121,122]⟩
theorem zya:∀k:Fin 36,digs[k.1]?=some (dg k.1):=by decide
theorem zof (k:Nat)(hk:k<36)(ik:IntKind)(W:World):(Instr.index 9 (.string digs) (.int ik (k:Int))).run Tryz.prog W=.ok (encU (dg k)) W:=by
 have h:=zya ⟨k,hk⟩;simp only at h;simp[Instr.index,asIntOf,run_underlying Tryz.underlying9,h,encU]
theorem zkv (g j:Nat)(hj:j<65)(W:World):(Instr.sliceAt 166 (.pointer (some ⟨g,0,none⟩)) (some (.int .i64 (j:Int))) none none).run Tryz.prog W=.ok (.slice (some ⟨g,j,none⟩) (65-j) (65-j)) W:=by
 have h1:¬ 65=j:=by omega
 have h2:j≤65:=by omega
 simp[Instr.sliceAt,run_underlying Tryz.underlying166,Instr.sliceBounds,Instr.sliceBound,asIntOf,Instr.sureAddr,Tryz.sizeOf5,h1,h2,Addr.add];omega
theorem RowIs.sliceFrom {α:Type}{e:TypeId}{enc:α→Value}{w:World}{g:Nat}{L:List α}(h:RowIs e enc w g L)(k n:Nat)(hn:L.length=n)(hl:n≤9223372036854775807):SliceOf enc w (.slice (some ⟨g,k,none⟩) (n-k) (n-k)) (L.drop k) :=
 ⟨_,_,by rw[List.length_drop,hn],by rw[List.length_drop];omega,by omega,fun j x hx=>⟨g,k,rfl,by
  rw[List.getElem?_drop]at hx;have hj:=(List.getElem?_eq_some_iff.1 hx).1;rw[h.cell (k+j) hj];rw[List.getElem?_eq_getElem hj]at hx;cases hx;rfl⟩⟩
theorem zkg (k n:Nat)(hk:0<k)(h:n<36^k):(d36 n).length≤k:=by
 induction k generalizing n with
 | zero=>omega
 | succ k ih =>
  unfold d36;split
  ·simp
  ·rename_i h36
   have hk0:0<k:=by
    rcases Nat.eq_zero_or_pos k with e|e
    ·subst e;simp at h;omega
    ·exact e
   have:=ih (n/36) hk0 (by rw[Nat.div_lt_iff_lt_mul (by decide)];rw[Nat.pow_succ]at h;exact h);simp;omega
set_option maxRecDepth 4000 in
set_option maxHeartbeats 4000000 in
theorem zif {base:Nat}(v:Value)(xs:List UInt8)(n:Nat)(w:World)(hown:w.ownsRow base 5 1 v xs.length (xs.map encU))(hn:n<1000000000000)(hb:base≤w.heap.size)(hx:xs.length≤1000000000000) :
  Calls Tryz.prog 116 #[v,.int .u64 (n:Int),.int .i64 36,.bool false,.bool true] w fun e w'=>∃v' s,e=.returned (.tuple #[v',.string s])/\w'.ownsRow base 5 1 v' (xs++d36 n).length ((xs++d36 n).map encU)/\Fr (Own1 v) w w':=by
 have HO:=Hh hown;have Hn:=Hh hn;have Hb:=Hh hb;have Hx:=Hh hx;have hbt:bits BinOp.and IntKind.i64 36 35=32:=by rfl
 clear hown hb hx;go_enter Tryz.func116,Tryz.ntmps116;go_wp2;generalize hw1:w.alloc _=w1
 have F1:Fr NoM w w1:=by rw[←hw1];exact(Fr.refl NoM w).alloc _
 have hr1:RowIs 166 encU w1 w.heap.size (List.replicate 65 0):=by
  rw[←hw1];exact(heap_alloc_new w _).trans (congrArg (fun c=>some (Obj.cells c 166 (0,0))) (by kernel_rfl))
 have HF1:=Hh F1;have HR1:=Hh hr1;have HW1:=Hh hw1;clear F1 hr1 hw1;have hd12:=zkg 12 n (by decide) (by omega);have Hd:=Hh hd12;clear hd12;go_loopw [1,13] (fun u i W=>∃(m j:Nat) (D:List UInt8),u=.int .u64 m/\i=.int .i64 j/\m≤n/\j≤65/\D.length=65/\d36 n=d36 m++D.drop j/\RowIs 166 encU W w.heap.size D/\Fr NoM w W) (fun u _ _=>(intOf u).toNat)
 case atStart=>exact⟨n,65,_,rfl,rfl,Nat.le_refl _,Nat.le_refl _,by simp,by simp,HR1.out,HF1.out⟩
 case round =>
  obtain⟨m,j,D,rfl,rfl,hm,hj,hD,hd,hrow,hfr⟩:=hrel;have hlen:=Hd.out;have hne:(d36 m).length≠0:=by have:=zz1 m;cases h:d36 m with|nil=>exact absurd h this|cons _ _=>simp
  have hjl:65-j<12:=by rw[hd]at hlen;simp[hD]at hlen;omega
  have HD:=Hh hD;have Hdd:=Hh hd;have HRow:=Hh hrow;have HFr:=Hh hfr;clear hlen hne hD hd hrow hfr;by_cases h36:36≤m
  ·have hmod:m%36<36:=Nat.mod_lt _ (by decide)
   have hdg:=zof (m%36) hmod .u64;unfold digs at hdg;rw[show((m%36:Nat):Int)=(m:Int)-(m:Int)/36*36 from by omega]at hdg;have cj:=HRow.out.cell (j-1) (by rw[HD.out];omega);have zj:=HRow.out.frozen (j-1);unfold encU at hdg cj;have hset:=HRow.out.set (j-1) (dg (m%36));unfold encU at hset;have hf:=Fr.setCell HFr.out ⟨w.heap.size,j-1,none⟩ (.int .u8 ((dg (m%36)).toNat:Int)) (fun h=>absurd h (Nat.lt_irrefl _));have HSet:=Hh hset;have HF:=Hh hf;clear hset hf;go_wp2;go_roundw
   case rel =>
    refine⟨m/36,j-1,D.set (j-1) (dg (m%36)),by go_num,by go_num,by omega,by omega,by simp[HD.out],?_,HSet.out,HF.out⟩;have h1:d36 m=d36 (m/36) ++ [dg (m%36)]:=by rw[d36,if_neg (by omega)]
    have h2:(D.set (j-1) (dg (m%36))).drop (j-1)=dg (m%36)::D.drop j:=by
     rw[List.drop_eq_getElem_cons (by simp[HD.out];omega),List.getElem_set_self,List.drop_set_of_lt (by omega),show j-1+1=j from by omega]
    rw[Hdd.out,h1,h2];simp
   case measure=>simp[intOf];omega
  ·have hmod:m<36:=by omega
   have hdg:=zof m hmod .u64;unfold digs at hdg;have cj:=HRow.out.cell (j-1) (by rw[HD.out];omega);have zj:=HRow.out.frozen (j-1);unfold encU at hdg cj;have hset:=HRow.out.set (j-1) (dg m);unfold encU at hset;have hf:=Fr.setCell HFr.out ⟨w.heap.size,j-1,none⟩ (.int .u8 ((dg m).toNat:Int)) (fun h=>absurd h (Nat.lt_irrefl _));have HSet:=Hh hset;have HF:=Hh hf;clear hset hf;have hsl:=zkv w.heap.size (j-1) (by omega);rw[show((j-1:Nat):Int)=(j:Int)-1 from by omega]at hsl;have hD2:d36 n=(D.set (j-1) (dg m)).drop (j-1):=by
    have h1:d36 m=[dg m]:=by rw[d36,if_pos hmod]
    rw[Hdd.out,h1,List.drop_eq_getElem_cons (l:=D.set (j-1) (dg m)) (by simp[HD.out];omega),List.getElem_set_self,List.drop_set_of_lt (by omega),show j-1+1=j from by omega];rfl
   have hsrc:=RowIs.sliceFrom (show RowIs 166 encU (wr.setCell ⟨w.heap.size,j-1,none⟩ (.int .u8 ((dg m).toNat:Int))) w.heap.size (D.set (j-1) (dg m))from HSet.out) (j-1) 65 (by simp[HD.out]) (by decide);rw[←hD2]at hsrc;have HSrc:=Hh hsrc;have HD2:=Hh hD2;clear hsrc hD2;go_wp2_with (at_builtin;refine zaq (enc:=encU) _ rfl _ _ 22 rfl base 5 (.int .u8 0) 1 Tryz.underlying22 zme rfl v xs.length (xs.map encU) rfl (za2 HO.out HF.out (fun _ _ q=>q)) _ rfl (d36 n) HSrc.out (fun _=>rfl) ?c1 (by decide) ?c2 ?_)
   case c1=>have:=Hd.out;have:=Hx.out;omega
   case c2=>exact Nat.le_trans Hb.out HFr.out.size
   intro v' w' h1 h2 _;have H1:=Hh h1;have H2:=Hh h2;clear h1 h2;go_wp2;go_ret2;refine⟨v',_,rfl,?_,(HF.out.mono (fun _ _ q=>q.elim)).trans H2.out (fun _ _ q=>q)⟩;rw[List.length_append,List.map_append];exact H1.out
set_option maxRecDepth 4000 in
set_option maxHeartbeats 4000000 in
theorem zfz {base:Nat}(v:Value)(xs:List UInt8)(n:Nat)(w:World)(hown:w.ownsRow base 5 1 v xs.length (xs.map encU))(hn:n<1000000000000)(hb:base≤w.heap.size)(hx:xs.length≤1000000000000) :
  Calls Tryz.prog 32 #[v,.int .i64 (n:Int),.int .i64 36] w fun e w'=>∃v',e=.returned v'∧w'.ownsRow base 5 1 v' (xs++d36 n).length ((xs++d36 n).map encU)/\Fr (Own1 v) w w':=by
 have HC:=Hh (zif v xs n w hown hn hb hx);clear hown hb hx;go_enter Tryz.func32,Tryz.ntmps32;go_wp2_with (first|(go_at_call 116;refine HC.out.mono ?_;rintro e w' ⟨v',s,rfl,h1,h2⟩;have H1:=Hh h1;have H2:=Hh h2;clear h1 h2)|go_in);go_ret;exact⟨v',rfl,H1.out,H2.out⟩
def hasL (c i:Nat):Prop:=c.testBit (2*i)=true
def hasR (c i:Nat):Prop:=c.testBit (2*i+1)=true
instance (c i:Nat):Decidable (hasL c i):=inferInstanceAs (Decidable (_=_))
instance (c i:Nat):Decidable (hasR c i):=inferInstanceAs (Decidable (_=_))
def optC (c i:Nat):Prop:=hasL c i∨hasR c i
instance (c i:Nat):Decidable (optC c i):=inferInstanceAs (Decidable (_∨_))
def ztv (g:Nat→Nat)(L:List Nat):Nat:=L.foldr (fun i n=>n ||| 2^g i) 0
def mkC (L R:List Nat):Nat:=ztv (fun i=>2*i) L ||| ztv (fun i=>2*i+1) R
theorem zh8 (g:Nat→Nat)(L:List Nat)(j:Nat):(ztv g L).testBit j=decide (∃i∈L,g i=j):=by
 induction L with
 | nil=>simp[ztv]
 | cons x l ih =>
  unfold ztv at ih ⊢;rw[List.foldr_cons,Nat.testBit_or,ih,Nat.testBit_two_pow];by_cases h1:∃i∈l,g i=j
  ·obtain⟨i,hi,e⟩:=h1
   have h2:∃i∈x::l,g i=j:=⟨i,List.mem_cons_of_mem _ hi,e⟩;have h1:∃i∈l,g i=j:=⟨i,hi,e⟩;rw[decide_eq_true h1,decide_eq_true h2];rfl
  ·rw[decide_eq_false h1,Bool.false_or]
   congr 1
   simp only[eq_iff_iff];constructor
   ·intro e;exact⟨x,List.mem_cons_self,e⟩
   ·rintro⟨i,hi,e⟩
    rcases List.mem_cons.1 hi with rfl|hi
    ·exact e
    ·exact absurd ⟨i,hi,e⟩ h1
theorem zam (L R:List Nat)(i:Nat):hasL (mkC L R) i↔i∈L:=by
 unfold hasL mkC;rw[Nat.testBit_or,zh8,zh8,Bool.or_eq_true,decide_eq_true_eq,decide_eq_true_eq];constructor
 ·rintro(⟨j,hj,e⟩|⟨j,hj,e⟩)
  ·have:j=i:=by omega
   subst this;exact hj
  ·omega
 ·intro h;exact .inl ⟨i,h,rfl⟩
theorem zak (L R:List Nat)(i:Nat):hasR (mkC L R) i↔i∈R:=by
 unfold hasR mkC;rw[Nat.testBit_or,zh8,zh8,Bool.or_eq_true,decide_eq_true_eq,decide_eq_true_eq];constructor
 ·rintro(⟨j,hj,e⟩|⟨j,hj,e⟩)
  ·omega
  ·have:j=i:=by omega
   subst this;exact hj
 ·intro h;exact .inr ⟨i,h,rfl⟩
theorem zpg {c d:Nat}(h1:∀i,hasL c i↔hasL d i)(h2:∀i,hasR c i↔hasR d i):c=d:=by
 apply Nat.eq_of_testBit_eq
 intro j;have e:∀a b:Bool,(a=true↔b=true)→a=b:=by decide
 apply e
 rcases Nat.mod_two_eq_zero_or_one j with h|h
 ·have:=h1 (j/2);unfold hasL at this;rwa [show 2*(j/2)=j from by omega]at this
 ·have:=h2 (j/2);unfold hasR at this;rwa [show 2*(j/2)+1=j from by omega]at this
theorem zz3 {c j:Nat}(h:c.testBit j=true):j<c:=Nat.lt_of_lt_of_le Nat.lt_two_pow_self (Nat.ge_two_pow_of_testBit h)
theorem zai {c i:Nat}(h:optC c i):i<c:=by
 rcases h with h|h <;> have:=zz3 h <;> omega
theorem zsx {L R L' R':List Nat}(h1:∀i,i∈L↔i∈L')(h2:∀i,i∈R↔i∈R'):mkC L R=mkC L' R' :=
 zpg (fun i=>by rw[zam,zam,h1]) (fun i=>by rw[zak,zak,h2])
def zvc (c:Nat):List Nat:=(List.range c).filter fun i=>decide (hasL c i)
def zom (c:Nat):List Nat:=(List.range c).filter fun i=>decide (hasR c i)
theorem zfn {c i:Nat}:i∈zvc c↔hasL c i:=by
 unfold zvc;rw[List.mem_filter,List.mem_range,decide_eq_true_eq];exact⟨fun h=>h.2,fun h=>⟨zai (.inl h),h⟩⟩
theorem zey {c i:Nat}:i∈zom c↔hasR c i:=by
 unfold zom;rw[List.mem_filter,List.mem_range,decide_eq_true_eq];exact⟨fun h=>h.2,fun h=>⟨zai (.inr h),h⟩⟩
def bornC (c:Nat):Nat:=((List.range c).attach.filter fun i=>decide (optC c i.1)).foldl (fun m i=>max m (bornC i.1+1)) 0
 termination_by c
 decreasing_by exact List.mem_range.1 i.2
theorem zhz {α:Type}(g:α→Nat)(L:List α)(m:Nat):m≤L.foldl (fun m i=>max m (g i)) m/\(∀x∈L,g x≤L.foldl (fun m i=>max m (g i)) m)/\(L.foldl (fun m i=>max m (g i)) m=m∨∃x∈L,L.foldl (fun m i=>max m (g i)) m=g x):=by
 induction L generalizing m with
 | nil=>exact⟨Nat.le_refl _,by simp,.inl rfl⟩
 | cons y l ih =>
  rw[List.foldl_cons];obtain⟨h1,h2,h3⟩:=ih (max m (g y));refine⟨by omega,fun x hx=>?_,?_⟩
  ·rcases List.mem_cons.1 hx with rfl|hx
   ·omega
   ·exact h2 x hx
  ·rcases h3 with h3|⟨x,hx,h3⟩
   ·by_cases hm:g y≤m
    ·exact .inl (by rw[h3];omega)
    ·exact .inr ⟨y,List.mem_cons_self,by rw[h3];omega⟩
   ·exact .inr ⟨x,List.mem_cons_of_mem _ hx,h3⟩
theorem zh7 {c i:Nat}(h:optC c i):bornC i<bornC c:=by
 rw[bornC.eq_1 c];have:=(zhz (fun(i:{x // x∈List.range c})=>bornC i.1+1) ((List.range c).attach.filter fun i=>decide (optC c i.1)) 0).2.1 ⟨i,List.mem_range.2 (zai h)⟩ (by simp[h]);simp only at this
 omega
theorem zx1 (c:Nat):bornC c=0∨∃i,optC c i/\bornC c=bornC i+1:=by
 rw[bornC.eq_1 c];rcases (zhz (fun(i:{x // x∈List.range c})=>bornC i.1+1) ((List.range c).attach.filter fun i=>decide (optC c i.1)) 0).2.2 with h|⟨x,hx,h⟩
 ·exact .inl h
 ·exact .inr ⟨x.1,by simpa using (List.mem_filter.1 hx).2,h⟩
theorem zx2 {c m:Nat}(h1:∀i,optC c i→bornC i<m)(h2:m=0∨∃i,optC c i/\m≤bornC i+1):bornC c=m:=by
 rcases zx1 c with h|⟨i,hi,h⟩
 ·rcases h2 with h2|⟨i,hi,h2⟩
  ·omega
  ·have:=zh7 hi;omega
 ·have:=h1 i hi
  rcases h2 with h2|⟨j,hj,h2⟩
  ·omega
  ·have:=zh7 hj;omega
inductive SubC (c:Nat):Nat→Prop
 | root:SubC c c
 | step {x y:Nat}:SubC c x→optC x y→SubC c y
structure BookC (NL:List PL) (C:List Nat):Prop where
 len:C.length=NL.length
 opts:∀(j:Nat) (x:PL),NL[j]?=some x→(∀i∈x.1,i<j)/\∀i∈x.2,i<j
 up:∀(j:Nat) (x:PL),NL[j]?=some x→x.1.Pairwise (· < ·)/\x.2.Pairwise (· < ·)
 code:∀(j:Nat) (x:PL),NL[j]?=some x→C.getD j 0=mkC (za1 C x.1) (za1 C x.2)
 nodup:C.Nodup
theorem zgh {L M:List Nat}(hL:L.Pairwise (· < ·))(hM:M.Pairwise (· < ·))(h:∀x,x∈L↔x∈M):L=M:=by
 induction L generalizing M with
 | nil=>cases M with
  | nil=>rfl
  | cons y m=>exact absurd ((h y).2 List.mem_cons_self) (by simp)
 | cons x l ih =>
  cases M with
  | nil=>exact absurd ((h x).1 List.mem_cons_self) (by simp)
  | cons y m =>
   rw[List.pairwise_cons]at hL hM;have hxy:x=y:=by
    rcases List.mem_cons.1 ((h x).1 List.mem_cons_self)with e|hx
    ·exact e
    ·rcases List.mem_cons.1 ((h y).2 List.mem_cons_self)with e|hy
     ·exact e.symm
     ·have:=hL.1 y hy;have:=hM.1 x hx;omega
   subst hxy;rw[ih hL.2 hM.2 (fun z=>?_)];constructor
   ·intro hz
    rcases List.mem_cons.1 ((h z).1 (List.mem_cons_of_mem _ hz))with e|hz'
    ·subst e;have:=hL.1 z hz;omega
    ·exact hz'
   ·intro hz
    rcases List.mem_cons.1 ((h z).2 (List.mem_cons_of_mem _ hz))with e|hz'
    ·subst e;have:=hM.1 z hz;omega
    ·exact hz'
theorem zbh {C:List Nat}(h:C.Nodup){i j:Nat}(hi:i<C.length)(hj:j<C.length)(e:C.getD i 0=C.getD j 0):i=j:=by
 rw[List.getD_eq_getElem?_getD,List.getD_eq_getElem?_getD,List.getElem?_eq_getElem hi,List.getElem?_eq_getElem hj]at e;exact(List.getElem_inj h).1 e
theorem zda {C:List Nat}{i:Nat}(hi:i<C.length):C.getD i 0∈C:=by
 rw[List.getD_eq_getElem?_getD,List.getElem?_eq_getElem hi];exact List.getElem_mem _
theorem zfp {C:List Nat}{x:Nat}(h:x∈C):∃i,i<C.length/\C.getD i 0=x:=by
 obtain⟨i,hi,e⟩:=List.getElem_of_mem h;exact⟨i,hi,by rw[List.getD_eq_getElem?_getD,List.getElem?_eq_getElem hi];exact e⟩
theorem za5 {C L:List Nat}{x:Nat}:x∈za1 C L↔∃i∈L,C.getD i 0=x:=by
 unfold za1;exact List.mem_map
def klt (b1:Nat)(x1:PL)(b2:Nat)(x2:PL):Prop:=b1<b2∨b1=b2/\zac x1 x2=true
theorem zep:∀(a b:List Nat),cmpL a b=- cmpL b a
 | [],[]=>rfl
 | [],y::b=>by simp[cmpL]
 | x::a,[]=>by simp[cmpL]
 | x::a,y::b=>by
  unfold cmpL;have:=zep a b;by_cases h:x=y
  ·subst h;simpa using this
  ·have h':¬y=x:=fun q=>h q.symm
   by_cases h1:x<y
   ·have:¬y<x:=by omega
    simp[h,h',h1,this]
   ·have:y<x:=by omega
    simp[h,h',h1,this]
theorem zdg {x y:PL}(h:zac x y=true):zac y x=false:=by
 unfold zac at h ⊢;have h1:=zep x.1 y.1;have h2:=zep x.2 y.2;by_cases e:cmpL x.1 y.1=0
 ·rw[if_pos e]at h
  rw[if_pos (by omega)];simp at h ⊢;omega
 ·rw[if_neg e]at h
  rw[if_neg (by omega)];simp at h ⊢;omega
theorem zmc {b1 b2:Nat}{x1 x2:PL}(h:klt b1 x1 b2 x2):¬klt b2 x2 b1 x1:=by
 rintro(h'|⟨e,h'⟩)
 ·rcases h with h|⟨e,_⟩ <;> omega
 ·rcases h with h|⟨_,h⟩
  ·omega
  ·rw[zdg h']at h;cases h
structure FormAt (c:Nat) (FN:List PL) (P:List Nat):Prop where
 book:BookC FN P
 sub:∀x,x∈P↔SubC c x
 up:∀(i j:Nat) (x y:PL),i<j→FN[i]?=some x→FN[j]?=some y→klt (bornC (P.getD i 0)) x (bornC (P.getD j 0)) y
def FormC (c:Nat)(FN:List PL):Prop:=∃P,FormAt c FN P
theorem zku {FN FN':List PL}{P P':List Nat}(B:BookC FN P)(B':BookC FN' P')(k a:Nat)(hag:∀j,j<k→P.getD j 0=P'.getD j 0)(hk:k<P.length)(hka:k≤a)(ha:a<P'.length)(he:P.getD k 0=P'.getD a 0)
  (x y:PL) (hx:FN[k]?=some x) (hy:FN'[a]?=some y):x=y:=by
 have c1:=B.code k x hx;have c2:=B'.code a y hy;rw[he,c2]at c1;obtain⟨o1,o2⟩:=B.opts k x hx;obtain⟨p1,p2⟩:=B'.opts a y hy;obtain⟨u1,u2⟩:=B.up k x hx;obtain⟨v1,v2⟩:=B'.up a y hy;have side:∀l m:List Nat,(∀i∈l,i<k)→(∀i∈m,i<a)→(∀z,z∈za1 P l↔z∈za1 P' m)→∀i,i∈l↔i∈m:=by
  intro l m hl hm h i;constructor
  ·intro hi
   obtain⟨j,hj,e⟩:=za5.1 ((h (P.getD i 0)).1 (za5.2 ⟨i,hi,rfl⟩));rw[hag i (hl i hi)]at e;have:=hl i hi;have:=hm j hj;rw[←zbh B'.nodup (by omega) (by omega) e];exact hj
  ·intro hi
   obtain⟨j,hj,e⟩:=za5.1 ((h (P'.getD i 0)).2 (za5.2 ⟨i,hi,rfl⟩));rw[hag j (hl j hj)]at e;have:=hl j hj;have:=hm i hi;rw[←zbh B'.nodup (by omega) (by omega) e];exact hj
 have e1:x.1=y.1:=zgh u1 v1 (side _ _ o1 p1 fun z=>by rw[←zam _ (za1 P x.2),←zam _ (za1 P' y.2),c1]);have e2:x.2=y.2:=zgh u2 v2 (side _ _ o2 p2 fun z=>by rw[←zak (za1 P x.1),←zak (za1 P' y.1),c1]);exact Prod.ext e1 e2
theorem zvn {c:Nat}{FN FN':List PL}{P P':List Nat}(A:FormAt c FN P)(A':FormAt c FN' P'):FN=FN'∧P=P':=by
 have key:∀k,k<P.length→k<P'.length→P.getD k 0=P'.getD k 0/\FN[k]?=FN'[k]?:=by
  intro k;induction k using Nat.strongRecOn with
  | _ k ih =>
   intro hk hk';have hag:∀j,j<k→P.getD j 0=P'.getD j 0:=fun j hj=>(ih j hj (by omega) (by omega)).1
   have hxF:=List.getElem?_eq_getElem (l:=FN) (i:=k) (by rw[←A.book.len];exact hk)
   have hyF:=List.getElem?_eq_getElem (l:=FN') (i:=k) (by rw[←A'.book.len];exact hk')
   obtain⟨a,ha,ea⟩:=zfp ((A'.sub _).2 ((A.sub _).1 (zda hk)));obtain⟨b,hb,eb⟩:=zfp ((A.sub _).2 ((A'.sub _).1 (zda hk')));have hka:k≤a:=by
    rcases Nat.lt_or_ge a k with h|h
    ·have:=hag a h;rw[ea]at this;exact absurd (zbh A.book.nodup (by omega) hk this) (by omega)
    ·exact h
   have hkb:k≤b:=by
    rcases Nat.lt_or_ge b k with h|h
    ·have:=hag b h;rw[eb]at this;exact absurd (zbh A'.book.nodup (by omega) hk' this.symm) (by omega)
    ·exact h
   have hyA:=List.getElem?_eq_getElem (l:=FN') (i:=a) (by rw[←A'.book.len];exact ha)
   have hxB:=List.getElem?_eq_getElem (l:=FN) (i:=b) (by rw[←A.book.len];exact hb)
   have n1:=zku A.book A'.book k a hag hk hka ha ea.symm _ _ hxF hyA;have n2:=zku A'.book A.book k b (fun j hj=>(hag j hj).symm) hk' hkb hb eb.symm _ _ hyF hxB;rcases Nat.lt_or_ge k a with hlt|hge
   ·have k1:=A'.up k a _ _ hlt hyF hyA
    rw[ea,←n1]at k1;rcases Nat.lt_or_ge k b with hltb|hgeb
    ·have k2:=A.up k b _ _ hltb hxF hxB
     rw[eb,←n2]at k2;exact absurd k1 (zmc k2)
    ·have:b=k:=by omega
     subst this
     exact absurd (zbh A'.book.nodup ha hk' (ea.trans eb)) (by omega)
   ·have:a=k:=by omega
    subst this
    exact⟨ea.symm,by rw[hxF,hyF,n1]⟩
 have hl:P.length=P'.length:=by
  refine Nat.le_antisymm ?_ ?_
  ·exact A.book.nodup.length_le_of_subset (fun x hx=>(A'.sub x).2 ((A.sub x).1 hx))
  ·exact A'.book.nodup.length_le_of_subset (fun x hx=>(A.sub x).2 ((A'.sub x).1 hx))
 have hPl:=A.book.len;have hPl':=A'.book.len;constructor
 ·apply List.ext_getElem?
  intro k;rcases Nat.lt_or_ge k P.length with h|h
  ·exact(key k h (by omega)).2
  ·rw[List.getElem?_eq_none (by omega),List.getElem?_eq_none (by omega)]
 ·apply List.ext_getElem hl
  intro k h1 h2;have:=(key k h1 h2).1;rw[List.getD_eq_getElem?_getD,List.getD_eq_getElem?_getD,List.getElem?_eq_getElem h1,List.getElem?_eq_getElem h2]at this
  exact this
theorem FormC.one {c:Nat}{FN FN':List PL}(h:FormC c FN)(h':FormC c FN'):FN=FN':=by
 obtain⟨P,h⟩:=h;obtain⟨P',h'⟩:=h';exact(zvn h h').1
theorem zsf (y:Nat)(l:List Nat)(n:Nat):putN (y::l) n=if y<n then y::putN l n else if y=n then y::l else n::y::l:=by
 unfold putN posN;by_cases h:y<n
 ·simp only[List.takeWhile_cons,h,decide_true,if_true,List.length_cons,List.getElem?_cons_succ,List.take_succ_cons,List.drop_succ_cons,List.cons_append]
  split <;> rfl
 ·simp only[List.takeWhile_cons,h,decide_false,Bool.false_eq_true,if_false,List.length_nil,List.getElem?_cons_zero,List.take_zero,List.drop_zero,List.nil_append,Option.some.injEq]
theorem zxi {L:List Nat}(n:Nat)(h:L.Pairwise (· < ·)):(putN L n).Pairwise (· < ·):=by
 induction L with
 | nil=>simp[putN,posN]
 | cons y l ih =>
  rw[List.pairwise_cons]at h;rw[zsf];split
  ·refine List.pairwise_cons.2 ⟨fun z hz=>?_,ih h.2⟩
   rcases (zop l n z).1 hz with hz|rfl
   ·exact h.1 z hz
   ·assumption
  ·split
   ·exact List.pairwise_cons.2 h
   ·refine List.pairwise_cons.2 ⟨fun z hz=>?_,List.pairwise_cons.2 h⟩
    rcases List.mem_cons.1 hz with rfl|hz
    ·omega
    ·have:=h.1 z hz;omega
theorem zd3 (L:List Nat):(za6 L).Pairwise (· < ·):=by
 suffices h:∀(L A:List Nat),A.Pairwise (· < ·)→(L.foldl putN A).Pairwise (· < ·)by simpa [za6] using h L [] (by simp)
 intro L;induction L with
 | nil=>intro A h;exact h
 | cons y l ih=>intro A h;rw[List.foldl_cons];exact ih _ (zxi y h)
inductive ReachV (V:List PL) (R:List Nat):Nat→Prop
 | root {x:Nat}:x∈R→ReachV V R x
 | left {x y:Nat}:ReachV V R x→y∈(V.getD x ([],[])).1→ReachV V R y
 | right {x y:Nat}:ReachV V R x→y∈(V.getD x ([],[])).2→ReachV V R y
def zd0 (Q:List Nat)(L:List Nat):List Nat:=za6 (L.map fun x=>Q.idxOf x)
def zb7 (Q:List Nat)(x:PL):PL:=(zd0 Q x.1,zd0 Q x.2)
structure OrderIs (V:List PL) (BV:List Nat) (R:List Nat) (Q:List Nat) (FN:List PL):Prop where
 nodup:Q.Nodup
 mem:∀x,x∈Q↔ReachV V R x
 nodes:FN=Q.map fun x=>zb7 Q (V.getD x ([],[]))
 up:∀(i j:Nat) (x y:PL),i<j→FN[i]?=some x→FN[j]?=some y→klt (BV.getD (Q.getD i 0) 0) x (BV.getD (Q.getD j 0) 0) y
section
variable {V:List PL}{C:List Nat}
theorem BookC.getD (B:BookC V C){j:Nat}(hj:j<V.length):V[j]?=some (V.getD j ([],[])):=by
 rw[List.getD_eq_getElem?_getD,List.getElem?_eq_getElem hj];rfl
theorem BookC.left (B:BookC V C){x y:Nat}(hx:x<V.length)(hy:y∈(V.getD x ([],[])).1):y<x/\hasL (C.getD x 0) (C.getD y 0) :=
 ⟨(B.opts x _ (B.getD hx)).1 y hy,by rw[B.code x _ (B.getD hx),zam];exact za5.2 ⟨y,hy,rfl⟩⟩
theorem BookC.right (B:BookC V C){x y:Nat}(hx:x<V.length)(hy:y∈(V.getD x ([],[])).2):y<x/\hasR (C.getD x 0) (C.getD y 0) :=
 ⟨(B.opts x _ (B.getD hx)).2 y hy,by rw[B.code x _ (B.getD hx),zak];exact za5.2 ⟨y,hy,rfl⟩⟩
theorem zdv (B:BookC V C){R:List Nat}(hR:∀r∈R,r<V.length){x:Nat}(h:ReachV V R x):x<V.length:=by
 induction h with
 | root h=>exact hR _ h
 | left _ hy ih=>have:=(B.left ih hy).1;omega
 | right _ hy ih=>have:=(B.right ih hy).1;omega
theorem ze3 {Q:List Nat}{y:Nat}(h:y∈Q):Q.idxOf y<Q.length/\Q.getD (Q.idxOf y) 0=y:=by
 have hl:=List.idxOf_lt_length_of_mem h;refine⟨hl,?_⟩;rw[List.getD_eq_getElem?_getD,List.getElem?_eq_getElem hl];exact List.getElem_idxOf hl
theorem zdp {Q L:List Nat}{i:Nat}:i∈zd0 Q L↔∃y∈L,Q.idxOf y=i:=by
 unfold zd0;rw[zav,List.mem_map]
theorem zr3 (B:BookC V C){BV:List Nat}(hb:∀j,j<V.length→BV.getD j 0=bornC (C.getD j 0)){r:Nat}(hr:r<V.length){Q:List Nat}{FN:List PL}(O:OrderIs V BV [r] Q FN):FormAt (C.getD r 0) FN (Q.map fun x=>C.getD x 0):=by
 have hlt:∀x∈Q,x<V.length:=fun x hx=>zdv B (by simpa using hr) ((O.mem x).1 hx)
 have hF:∀(j:Nat) (x:PL),FN[j]?=some x→∃y,Q[j]?=some y/\y∈Q/\x=zb7 Q (V.getD y ([],[])):=by
  intro j x hx;rw[O.nodes,List.getElem?_map]at hx;cases hq:Q[j]? with
  | none=>rw[hq]at hx;cases hx
  | some y=>rw[hq]at hx;exact⟨y,rfl,List.mem_of_getElem? hq,(Option.some.inj hx).symm⟩
 have hP:∀y∈Q,(Q.map fun x=>C.getD x 0).getD (Q.idxOf y) 0=C.getD y 0:=by
  intro y hy;obtain⟨h1,h2⟩:=ze3 hy;rw[List.getD_eq_getElem?_getD,List.getElem?_map,List.getElem?_eq_getElem h1];rw[List.getD_eq_getElem?_getD,List.getElem?_eq_getElem h1]at h2;simp only[Option.getD_some]at h2;simp only[Option.map_some,Option.getD_some,h2]
 have hPj:∀(j y:Nat),Q[j]?=some y→(Q.map fun x=>C.getD x 0).getD j 0=C.getD y 0:=by
  intro j y h;rw[List.getD_eq_getElem?_getD,List.getElem?_map,h];rfl
 have hQj:∀(j y:Nat),Q[j]?=some y→Q.getD j 0=y:=by
  intro j y h;rw[List.getD_eq_getElem?_getD,h];rfl
 have hin1:∀y∈Q,∀z∈(V.getD y ([],[])).1,z∈Q:=fun y hy z hz=>(O.mem z).2 (.left ((O.mem y).1 hy) hz)
 have hin2:∀y∈Q,∀z∈(V.getD y ([],[])).2,z∈Q:=fun y hy z hz=>(O.mem z).2 (.right ((O.mem y).1 hy) hz)
 have hlow:∀(j y z:Nat),Q[j]?=some y→z∈Q→bornC (C.getD z 0)<bornC (C.getD y 0)→Q.idxOf z<j:=by
  intro j y z hy hz hbo;have hyQ:=List.mem_of_getElem? hy;have hj:=(List.getElem?_eq_some_iff.1 hy).1;obtain⟨h1,h2⟩:=ze3 hz;rcases Nat.lt_trichotomy (Q.idxOf z) j with h|h|h
  ·exact h
  ·rw[h,hQj j y hy]at h2;subst h2;omega
  ·have hl:FN.length=Q.length:=by rw[O.nodes];simp
   have:=O.up j (Q.idxOf z) _ _ h (List.getElem?_eq_getElem (l:=FN) (by omega)) (List.getElem?_eq_getElem (l:=FN) (by omega));rw[hQj j y hy,h2,hb y (hlt y hyQ),hb z (hlt z hz)]at this
   rcases this with h|⟨h,_⟩ <;> omega
 have hside:∀(y:Nat) (l:List Nat),(∀z∈l,z∈Q)→∀i,i∈za1 (Q.map fun x=>C.getD x 0) (zd0 Q l)↔i∈za1 C l:=by
  intro y l hl i;rw[za5,za5];constructor
  ·rintro⟨k,hk,e⟩
   obtain⟨z,hz,rfl⟩:=zdp.1 hk;rw[hP z (hl z hz)]at e;exact⟨z,hz,e⟩
  ·rintro⟨z,hz,e⟩
   exact⟨Q.idxOf z,zdp.2 ⟨z,hz,rfl⟩,by rw[hP z (hl z hz)];exact e⟩
 refine⟨⟨by rw[O.nodes];simp,fun j x hx=>?_,fun j x hx=>?_,fun j x hx=>?_,?_⟩,fun x=>⟨fun hx=>?_,fun hx=>?_⟩,fun i j x y hij hx hy=>?_⟩
 ·obtain⟨y,hy,hyQ,rfl⟩:=hF j x hx
  constructor
  ·intro i hi
   obtain⟨z,hz,rfl⟩:=zdp.1 hi;exact hlow j y z hy (hin1 y hyQ z hz) (zh7 (.inl (B.left (hlt y hyQ) hz).2))
  ·intro i hi
   obtain⟨z,hz,rfl⟩:=zdp.1 hi;exact hlow j y z hy (hin2 y hyQ z hz) (zh7 (.inr (B.right (hlt y hyQ) hz).2))
 ·obtain⟨y,hy,hyQ,rfl⟩:=hF j x hx
  exact⟨zd3 _,zd3 _⟩
 ·obtain⟨y,hy,hyQ,rfl⟩:=hF j x hx
  rw[hPj j y hy,B.code y _ (B.getD (hlt y hyQ))];exact zsx (fun i=>(hside y _ (hin1 y hyQ) i).symm) (fun i=>(hside y _ (hin2 y hyQ) i).symm)
 ·refine List.nodup_iff_pairwise_ne.2 (List.pairwise_map.2 ((List.nodup_iff_pairwise_ne.1 O.nodup).imp_of_mem fun {a b} ha hb' hne e=>hne ?_))
  have hl:=B.len;exact zbh B.nodup (by have:=hlt a ha;omega) (by have:=hlt b hb';omega) e
 ·obtain⟨y,hy,rfl⟩:=List.mem_map.1 hx
  have hr':=(O.mem y).1 hy;clear hx hy;induction hr' with
  | root h=>simp at h;subst h;exact .root
  | left h hz ih=>exact .step ih (.inl (B.left (zdv B (by simpa using hr) h) hz).2)
  | right h hz ih=>exact .step ih (.inr (B.right (zdv B (by simpa using hr) h) hz).2)
 ·induction hx with
  | root=>exact List.mem_map.2 ⟨r,(O.mem r).2 (.root (by simp)),rfl⟩
  | step _ ho ih =>
   obtain⟨y,hy,rfl⟩:=List.mem_map.1 ih;rw[B.code y _ (B.getD (hlt y hy))]at ho;rcases ho with ho|ho
   ·rw[zam]at ho
    obtain⟨z,hz,rfl⟩:=za5.1 ho;exact List.mem_map.2 ⟨z,hin1 y hy z hz,rfl⟩
   ·rw[zak]at ho
    obtain⟨z,hz,rfl⟩:=za5.1 ho;exact List.mem_map.2 ⟨z,hin2 y hy z hz,rfl⟩
 ·obtain⟨a,ha,haQ,rfl⟩:=hF i x hx
  obtain⟨b,hb',hbQ,rfl⟩:=hF j y hy;have:=O.up i j _ _ hij hx hy;rw[hQj i a ha,hQj j b hb',hb a (hlt a haQ),hb b (hlt b hbQ)]at this
  rw[hPj i a ha,hPj j b hb'];exact this
end
theorem zi4:∀(a b:List Nat),cmpL a b=0→a=b
 | [],[]=>fun _=>rfl
 | [],y::b=>fun h=>by simp[cmpL]at h
 | x::a,[]=>fun h=>by simp[cmpL]at h
 | x::a,y::b=>fun h=>by
  unfold cmpL at h;by_cases e:x=y
  ·subst e;rw[if_pos rfl]at h;rw[zi4 a b h]
  ·rw[if_neg e]at h;split at h <;> cases h
theorem zgc:∀(a b c:List Nat),cmpL a b<0→cmpL b c<0→cmpL a c<0
 | [],[],c=>fun h _=>by simp[cmpL]at h
 | [],y::b,[]=>fun _ h=>by simp[cmpL]at h
 | [],y::b,z::c=>fun _ _=>by simp[cmpL]
 | x::a,[],c=>fun h _=>by simp[cmpL]at h
 | x::a,y::b,[]=>fun _ h=>by simp[cmpL]at h
 | x::a,y::b,z::c=>fun h1 h2=>by
  have ih:=zgc a b c;unfold cmpL at h1 h2 ⊢;by_cases e1:x=y
  ·subst e1
   rw[if_pos rfl]at h1;by_cases e2:x=z
   ·subst e2;rw[if_pos rfl]at h2 ⊢;exact ih h1 h2
   ·rw[if_neg e2]at h2 ⊢;exact h2
  ·rw[if_neg e1]at h1
   have hxy:x<y:=by
    by_cases q:x<y
    ·exact q
    ·rw[if_neg q]at h1;omega
   by_cases e2:y=z
   ·subst e2;rw[if_neg e1,if_pos hxy];omega
   ·rw[if_neg e2]at h2
    have hyz:y<z:=by
     by_cases q:y<z
     ·exact q
     ·rw[if_neg q]at h2;omega
    rw[if_neg (by omega),if_pos (by omega)];omega
theorem zdf {x y z:PL}(h1:zac x y=true)(h2:zac y z=true):zac x z=true:=by
 unfold zac at h1 h2 ⊢;by_cases e1:cmpL x.1 y.1=0
 ·rw[if_pos e1]at h1
  rw[zi4 _ _ e1];by_cases e2:cmpL y.1 z.1=0
  ·rw[if_pos e2]at h2 ⊢
   simp only[decide_eq_true_eq]at h1 h2 ⊢;exact zgc _ _ _ h1 h2
  ·rw[if_neg e2]at h2 ⊢;exact h2
 ·rw[if_neg e1]at h1
  simp only[decide_eq_true_eq]at h1;by_cases e2:cmpL y.1 z.1=0
  ·rw[←zi4 _ _ e2,if_neg e1];simpa using h1
  ·rw[if_neg e2]at h2
   simp only[decide_eq_true_eq]at h2;have:=zgc _ _ _ h1 h2;rw[if_neg (by omega)];simpa using this
theorem zge {x y:PL}(h1:zac x y=false)(h2:zac y x=false):x=y:=by
 unfold zac at h1 h2;have s1:=zep x.1 y.1;have s2:=zep x.2 y.2;by_cases e:cmpL x.1 y.1=0
 ·rw[if_pos e]at h1
  rw[if_pos (by omega)]at h2;simp only[decide_eq_false_iff_not]at h1 h2;exact Prod.ext (zi4 _ _ e) (zi4 _ _ (by omega))
 ·rw[if_neg e]at h1
  rw[if_neg (by omega)]at h2;simp only[decide_eq_false_iff_not]at h1 h2;omega
def za3 (V:List PL)(BV:List Nat)(L R:List Nat):List PL × List Nat × Nat :=
 if (za6 L,za6 R)∈V then (V,BV,V.idxOf (za6 L,za6 R))else (V ++ [(za6 L,za6 R)],BV ++ [za9 BV (za9 BV 0 (za6 L)) (za6 R)],V.length)
theorem zg4 (V:List PL)(BV:List Nat)(L R:List Nat):(za3 V BV L R).2.2<(za3 V BV L R).1.length/\(za3 V BV L R).1.length≤V.length+1/\V <+: (za3 V BV L R).1:=by
 unfold za3;split
 ·rename_i h;exact⟨List.idxOf_lt_length_of_mem h,by simp,List.prefix_refl _⟩
 ·simp
def za4 (V:List PL)(x:Nat):PL:=V.getD x ([],[])
structure QOk (V:List PL) (BV:List Nat) (Q:List Nat):Prop where
 nodup:Q.Nodup
 sorted:Q.Pairwise fun a b=>BV.getD a 0≤BV.getD b 0
 opt1:∀x∈Q,∀y∈(za4 V x).1,y∈Q/\BV.getD y 0<BV.getD x 0
 opt2:∀x∈Q,∀y∈(za4 V x).2,y∈Q/\BV.getD y 0<BV.getD x 0
 up:∀x∈Q,(za4 V x).1.Pairwise (· < ·)/\(za4 V x).2.Pairwise (· < ·)
 inj:∀x∈Q,∀y∈Q,za4 V x=za4 V y→x=y
structure GInv (V:List PL) (BV:List Nat) (Q A:List Nat) (n:Nat):Prop where
 le:n≤Q.length
 perm:A.Perm (Q.take n)
 cut:∀x∈Q.take n,∀y∈Q.drop n,BV.getD x 0<BV.getD y 0
 up:A.Pairwise fun x y=>klt (BV.getD x 0) (zb7 A (za4 V x)) (BV.getD y 0) (zb7 A (za4 V y))
theorem GInv.start (V:List PL)(BV Q:List Nat):GInv V BV Q [] 0:=⟨Nat.zero_le _,by simp,by simp,by simp⟩
theorem zgt {A G:List Nat}{x:Nat}(h:x∈A):(A++G).idxOf x=A.idxOf x:=by
 rw[List.idxOf_append,if_pos h]
theorem zgi {A G l:List Nat}(h:∀x∈l,x∈A):zd0 (A++G) l=zd0 A l:=by
 unfold zd0;rw[List.map_congr_left fun x hx=>zgt (h x hx)]
theorem zbn {A G:List Nat}{x:PL}(h1:∀y∈x.1,y∈A)(h2:∀y∈x.2,y∈A):zb7 (A++G) x=zb7 A x:=by
 unfold zb7;rw[zgi h1,zgi h2]
theorem zkz {A l l':List Nat}(h:∀x∈l,x∈A)(h':∀x∈l',x∈A)(u:l.Pairwise (· < ·))(u':l'.Pairwise (· < ·))(e:zd0 A l=zd0 A l'):l=l':=by
 have key:∀ {a b:List Nat},(∀x∈a,x∈A)→(∀x∈b,x∈A)→zd0 A a=zd0 A b→∀x∈a,x∈b:=by
  intro a b ha hb e x hx;have:A.idxOf x∈zd0 A b:=by rw[←e];exact zdp.2 ⟨x,hx,rfl⟩
  obtain⟨y,hy,hxy⟩:=zdp.1 this
  have h1:=(ze3 (ha x hx)).2;have h2:=(ze3 (hb y hy)).2;rw[hxy]at h2;rw[←h1,h2];exact hy
 exact zgh u u' fun x=>⟨key h h' e x,key h' h e.symm x⟩
section
variable {V:List PL}{BV Q A:List Nat}{n:Nat}
theorem GInv.mem (h:GInv V BV Q A n)(x:Nat):x∈A↔x∈Q.take n:=h.perm.mem_iff
theorem QOk.low (q:QOk V BV Q)(h:GInv V BV Q A n){x y:Nat}(hx:x∈Q)(hy:y∈Q)(hlt:BV.getD y 0<BV.getD x 0)(hb:x∈A∨∀z∈Q.drop n,BV.getD x 0≤BV.getD z 0):y∈A:=by
 rw[h.mem];have:y∈Q.take n++Q.drop n:=by rw[List.take_append_drop];exact hy
 rcases List.mem_append.1 this with this|this
 ·exact this
 ·rcases hb with hb|hb
  ·have:=h.cut x ((h.mem x).1 hb) y this;omega
  ·have:=hb y this;omega
theorem QOk.closed (q:QOk V BV Q)(h:GInv V BV Q A n){x:Nat}(hx:x∈A):(∀y∈(za4 V x).1,y∈A)/\∀y∈(za4 V x).2,y∈A:=by
 have hxQ:x∈Q:=List.mem_of_mem_take ((h.mem x).1 hx);exact⟨fun y hy=>q.low h hxQ (q.opt1 x hxQ y hy).1 (q.opt1 x hxQ y hy).2 (.inl hx),fun y hy=>q.low h hxQ (q.opt2 x hxQ y hy).1 (q.opt2 x hxQ y hy).2 (.inl hx)⟩
theorem QOk.group (q:QOk V BV Q)(h:GInv V BV Q A n)(hn:n<Q.length){x:Nat}(hx:x∈Q)(hb:BV.getD x 0=BV.getD (Q.getD n 0) 0):(∀y∈(za4 V x).1,y∈A)/\∀y∈(za4 V x).2,y∈A:=by
 have hz:∀z∈Q.drop n,BV.getD x 0≤BV.getD z 0:=by
  intro z hz;rw[hb];rw[List.drop_eq_getElem_cons hn]at hz;rcases List.mem_cons.1 hz with rfl|hz
  ·rw[List.getD_eq_getElem?_getD (l:=Q),List.getElem?_eq_getElem hn];exact Nat.le_refl _
  ·have:=q.sorted
   rw[←List.take_append_drop n Q,List.pairwise_append]at this
   have h2:=this.2.1
   rw[List.drop_eq_getElem_cons hn,List.pairwise_cons]at h2;have h3:=h2.1 z hz;rw[List.getD_eq_getElem?_getD (l:=Q),List.getElem?_eq_getElem hn];exact h3
 exact⟨fun y hy=>q.low h hx (q.opt1 x hx y hy).1 (q.opt1 x hx y hy).2 (.inr hz),fun y hy=>q.low h hx (q.opt2 x hx y hy).1 (q.opt2 x hx y hy).2 (.inr hz)⟩
theorem GInv.step (q:QOk V BV Q)(h:GInv V BV Q A n){m:Nat}{G G':List Nat}(hm:0<m)(hnm:n+m≤Q.length)(hG:G=(Q.drop n).take m)(hb:∀x∈G,BV.getD x 0=BV.getD (Q.getD n 0) 0)
  (hend:n+m=Q.length∨BV.getD (Q.getD (n+m) 0) 0≠BV.getD (Q.getD n 0) 0) (hp:G'.Perm G) (hs:G'.Pairwise fun a b=>zac (zb7 A (za4 V b)) (zb7 A (za4 V a))=false):GInv V BV Q (A++G') (n+m):=by
 have hn:n<Q.length:=by omega
 have htake:Q.take (n+m)=Q.take n++(Q.drop n).take m:=List.take_add;have hdrop:Q.drop (n+m)=(Q.drop n).drop m:=by rw[List.drop_drop]
 have hGQ:∀x∈G,x∈Q:=fun x hx=>by rw[hG]at hx;exact List.mem_of_mem_drop (List.mem_of_mem_take hx)
 have hG'Q:∀x∈G',x∈G:=fun x hx=>(hp.mem_iff).1 hx
 have hGd:∀x∈G,x∈Q.drop n:=fun x hx=>by rw[hG]at hx;exact List.mem_of_mem_take hx
 have hnd:G'.Nodup:=by
  rw[hp.nodup_iff,hG];exact(List.take_sublist _ _).nodup ((List.drop_sublist _ _).nodup q.nodup)
 refine⟨hnm,?_,?_,?_⟩
 ·rw[htake,←hG];exact h.perm.append hp
 ·intro x hx y hy
  have hyb:BV.getD (Q.getD n 0) 0<BV.getD y 0:=by
   have hlt:n+m<Q.length:=by
    rcases Nat.lt_or_ge (n+m) Q.length with h1|h1
    ·exact h1
    ·rw[List.drop_eq_nil_of_le h1]at hy;cases hy
   have hne:BV.getD (Q.getD (n+m) 0) 0≠BV.getD (Q.getD n 0) 0:=by
    rcases hend with h1|h1
    ·omega
    ·exact h1
   have e1:Q.getD n 0=Q[n]:=by rw[List.getD_eq_getElem?_getD,List.getElem?_eq_getElem hn];rfl
   have e2:Q.getD (n+m) 0=Q[n+m]:=by rw[List.getD_eq_getElem?_getD,List.getElem?_eq_getElem hlt];rfl
   have h1:=List.pairwise_iff_getElem.1 q.sorted n (n+m) hn hlt (by omega);rw[←e1,←e2]at h1;rw[List.drop_eq_getElem_cons hlt]at hy;rcases List.mem_cons.1 hy with rfl|hy
   ·rw[←e2];omega
   ·have:=q.sorted
    rw[←List.take_append_drop (n+m) Q,List.pairwise_append]at this
    have h2:=this.2.1
    rw[List.drop_eq_getElem_cons hlt,List.pairwise_cons]at h2;have h3:=h2.1 y hy;rw[←e2]at h3;omega
  rw[htake,←hG,List.mem_append]at hx;rcases hx with hx|hx
  ·refine h.cut x hx y ?_
   rw[hdrop]at hy;exact List.mem_of_mem_drop hy
  ·rw[hb x hx];exact hyb
 ·have hA:∀x∈A,zb7 (A++G') (za4 V x)=zb7 A (za4 V x):=fun x hx=>zbn (q.closed h hx).1 (q.closed h hx).2
  have hGr:∀x∈G',zb7 (A++G') (za4 V x)=zb7 A (za4 V x):=fun x hx =>
   have hg:=q.group h hn (hGQ x (hG'Q x hx)) (hb x (hG'Q x hx));zbn hg.1 hg.2
  refine List.pairwise_append.2 ⟨h.up.imp_of_mem fun {a b} ha hb' hk=>?_,?_,fun x hx y hy=>?_⟩
  ·rw[hA a ha,hA b hb'];exact hk
  ·refine((List.nodup_iff_pairwise_ne.1 hnd).and hs).imp_of_mem fun {a b} ha hb' hk=>?_
   have ga:=hG'Q a ha;have gb:=hG'Q b hb';have g1:=q.group h hn (hGQ a ga) (hb a ga);have g2:=q.group h hn (hGQ b gb) (hb b gb);rw[hGr a ha,hGr b hb'];refine .inr ⟨by rw[hb a ga,hb b gb],?_⟩;cases hc:zac (zb7 A (za4 V a)) (zb7 A (za4 V b))with
   | true=>rfl
   | false =>
    exfalso
    have e:=zge hc hk.2;unfold zb7 at e;have e1:=zkz g1.1 g2.1 (q.up a (hGQ a ga)).1 (q.up b (hGQ b gb)).1 (congrArg Prod.fst e);have e2:=zkz g1.2 g2.2 (q.up a (hGQ a ga)).2 (q.up b (hGQ b gb)).2 (congrArg Prod.snd e);exact hk.1 (q.inj a (hGQ a ga) b (hGQ b gb) (Prod.ext e1 e2))
  ·exact .inl (h.cut x ((h.mem x).1 hx) y ((hGd y (hG'Q y hy))) |> fun h1=>h1)
theorem GInv.order (h:GInv V BV Q A Q.length)(hn:Q.Nodup){R:List Nat}(hr:∀x,x∈Q↔ReachV V R x):OrderIs V BV R A (A.map fun x=>zb7 A (za4 V x)):=by
 have hp:=h.perm;rw[List.take_length]at hp;refine⟨(hp.nodup_iff).2 hn,fun x=>(hp.mem_iff).trans (hr x),rfl,fun i j x y hij hx hy=>?_⟩;rw[List.getElem?_map]at hx hy;cases ha:A[i]? with
 | none=>rw[ha]at hx;cases hx
 | some a =>
  cases hb:A[j]? with
  | none=>rw[hb]at hy;cases hy
  | some b =>
   rw[ha]at hx;rw[hb]at hy;cases hx;cases hy
   obtain⟨hi,rfl⟩:=List.getElem?_eq_some_iff.1 ha
   obtain⟨hj,rfl⟩:=List.getElem?_eq_some_iff.1 hb
   rw[List.getD_eq_getElem?_getD (l:=A),ha,List.getD_eq_getElem?_getD (l:=A),hb];exact List.pairwise_iff_getElem.1 h.up i j hi hj hij
end
end Go.Proofs.YtkofnbjjbcohgaaGreatDoor
