import Derived.Test.YtiidnnpanickaaaGreatDoorZdTinyR
import Derived.Test.YtiidnnpanickaaaGreatDoorZdNumFits
/- What the claim of FnTinyCard needs of: TinyFits StarP. -/
namespace Go.Proofs.YtiidnnpanickaaaGreatDoor
set_option linter.unusedVariables false
set_option linter.unusedSimpArgs false
open Go.RowKit
theorem few_one {a b:Nat} (ha:FewC a) (hb:FewC b):FewC (mkC [a] [b]):=fun x hx=>by
  rcases subC_top hx with rfl | ⟨y,hy,hs⟩
  · refine ⟨fun A hA h => one_len hA fun x hx y hy => ?_, fun A hA h => one_len hA fun x hx y hy => ?_⟩
    · rw [mk_left1 (h x hx),mk_left1 (h y hy)]
    · rw [mk_right1 (h x hx),mk_right1 (h y hy)]
  · rcases hy with h | h
    · rw [mk_left1 h] at hs;exact ha x hs
    · rw [mk_right1 h] at hs;exact hb x hs
theorem few_zero:FewC zeroC:=fun x hx=>by
  rcases subC_top hx with rfl | ⟨y,hy,hs⟩
  · refine ⟨fun A hA h=>one_len hA fun x hx y hy=>absurd (h x hx) (zeroL x),fun A hA h=>one_len hA fun x hx y hy=>absurd (h x hx) (zeroR x)⟩
  · rcases hy with h | h
    · exact absurd h (zeroL y)
    · exact absurd h (zeroR y)
theorem few_neg {c:Nat} (h:FewC c):FewC (negC c):=fun x hx=>by
  obtain ⟨y,hy,rfl⟩:=hx.neg
  obtain ⟨f1,f2⟩:=h y hy
  refine ⟨fun A hA hA'=>?_,fun A hA hA'=>?_⟩
  · have h1 := hA.length_le_of_subset (l₂ := (rights y).map negC) fun z hz => by
      obtain ⟨r,hr,e⟩:=(hasL_neg _ _).1 (hA' z hz)
      exact List.mem_map.2 ⟨r,mem_rights.2 hr,e⟩
    rw [List.length_map] at h1
    have h2:=f2 (rights y) (rights_nodup y) fun a ha=>mem_rights.1 ha
    omega
  · have h1 := hA.length_le_of_subset (l₂ := (lefts y).map negC) fun z hz => by
      obtain ⟨r,hr,e⟩:=(hasR_neg _ _).1 (hA' z hz)
      exact List.mem_map.2 ⟨r,mem_lefts.2 hr,e⟩
    rw [List.length_map] at h1
    have h2:=f1 (lefts y) (lefts_nodup y) fun a ha=>mem_lefts.1 ha
    omega
theorem fits_in {c:Nat} {U:List Nat} (hU:∀ x,SubC c x→x∈U) (hl:U.length≤120) (hf:FewC c):fitsB (formOf c)=true:=by
  have h:DF U (formOf c):=⟨c,rfl,hU⟩
  exact fits_of_few (by have:=h.props.2.1;omega) hf
theorem tiny_num {t:Int} {p:Nat} (hr:Red t p) (h0:0≤t) (h9:t≤9) (hp:p≤2):fitsB (numN t p)=true∧fitsB (tinyN (numN t p))=true:=by
  have hsub:∀ x,SubC (numC t p) x→x∈numU t p 10:=fun x hx=>num_in hr (by
    have h2:(0:Int) < 2 ^ p:=Int.pow_pos (by decide)
    have q1:0≤t / 2 ^ p:=Int.ediv_nonneg h0 (Int.le_of_lt h2)
    have q2:t / 2 ^ p≤t:=Int.ediv_le_self _ h0
    omega) hx
  have hl:(numU t p 10).length≤27:=by rw [numU_len];omega
  have hf:FewC (numC t p):=by rw [← nr_of hr];exact few_nr _ _
  refine ⟨fits_in hsub (by omega) hf,?_⟩
  unfold tinyN
  have e:codeF (numN t p)=numC t p:=by unfold numN;rw [codeF_formOf]
  rw [e]
  refine fits_in (U:=zeroC :: ((numU t p 10).map negC ++ [halfC (numC t p),tinyC (numC t p)])) (fun x hx=>?_) (by simp;omega) (few_one few_zero (few_one few_zero (few_neg hf)))
  have hz:∀ x,SubC zeroC x→x=zeroC:=fun x hx=>by
    rcases subC_top hx with rfl | ⟨y,hy,hs⟩
    · rfl
    · rcases hy with h | h
      · exact absurd h (zeroL y)
      · exact absurd h (zeroR y)
  rcases subC_top hx with rfl | ⟨y,hy,hs⟩
  · simp
  · rcases hy with h | h
    · rw [mk_left1 h] at hs;rw [hz x hs];simp
    · rw [mk_right1 h] at hs
      rcases subC_top hs with rfl | ⟨y,hy,hs⟩
      · simp
      · rcases hy with h | h
        · rw [mk_left1 h] at hs;rw [hz x hs];simp
        · rw [mk_right1 h] at hs
          obtain ⟨z,hz',rfl⟩:=hs.neg
          exact List.mem_cons_of_mem _ (List.mem_append_left _ (List.mem_map.2 ⟨z,hsub z hz',rfl⟩))
theorem up_fits:fitsB (formOf upC)=true:=by
  refine fits_in (U:=[zeroC,starC,upC]) (fun x hx=>?_) (by decide) (few_one few_zero (few_one few_zero few_zero))
  have hz:∀ x,SubC zeroC x→x=zeroC:=fun x hx=>by
    rcases subC_top hx with rfl | ⟨y,hy,hs⟩
    · rfl
    · rcases hy with h | h
      · exact absurd h (zeroL y)
      · exact absurd h (zeroR y)
  rcases subC_top hx with rfl | ⟨y,hy,hs⟩
  · simp
  · rcases hy with h | h
    · rw [mk_left1 h] at hs;rw [hz x hs];simp
    · rw [mk_right1 h] at hs
      rcases subC_top hs with rfl | ⟨y,hy,hs⟩
      · simp
      · rcases hy with h | h
        · rw [mk_left1 h] at hs;rw [hz x hs];simp
        · rw [mk_right1 h] at hs;rw [hz x hs];simp
def starL:Nat→List Nat
  | 0=>[]
  | n + 1=>starL n ++ [mkC (starL n) (starL n)]
def starK (n:Nat):Nat:=mkC (starL n) (starL n)
theorem starL_len (n:Nat):(starL n).length=n:=by
  induction n with
  | zero=>rfl
  | succ n ih=>rw [starL,List.length_append,ih];rfl
structure OneSt (U:List Nat) (pb sb:Nat) (mo mc ms:Value) (w0:World) (V0:List PL) (M0 I0:Nat→Prop) (W:World) (lv:Value) (cs:List Nat) (V:List PL) (BV:List Nat) (M I:Nat→Prop) (f:Nat→Option Nat) (L:List Nat):Prop where
  st:PSt encN NegMO U pb sb mo mc ms (.map (some sb)) W V BV M I f
  nx:PNx sb w0 V0 M0 I0 W V M I
  rl:NRow w0.heap.size W lv L
  cl:RowC V L cs
  sl:∀ q,lv.ownBlock=some q→¬ M q∧¬ I q∧q≠sb
section
variable {U:List Nat} {pb sb:Nat} {mo mc ms:Value} {w0 W W' Wa:World} {V0 V V':List PL} {BV BV' cs L:List Nat} {M0 I0 M I M' I':Nat→Prop} {f f':Nat→Option Nat} {lv v':Value} {x c:Nat}
theorem OneSt.call (h:OneSt U pb sb mo mc ms w0 V0 M0 I0 W lv cs V BV M I f L) (st:PSt encN NegMO U pb sb mo mc ms (.map (some sb)) W' V' BV' M' I' f') (nx:PNx sb W V M I W' V' M' I') :
    OneSt U pb sb mo mc ms w0 V0 M0 I0 W' lv cs V' BV' M' I' f' L:=by
  refine ⟨st,h.nx.trans nx,h.rl.fr nx.fr (fun q hq e=>e.elim (h.sl q hq).1 (h.sl q hq).2.2),h.cl.mono nx.pre,fun q hq=>?_⟩
  have hl:=(h.rl.own.lt q hq).2
  obtain ⟨a,b,c⟩:=h.sl q hq
  exact ⟨fun e=>(nx.mM q e).elim a (fun z=>by omega),fun e=>(nx.mI q e).elim b (fun z=>by omega),c⟩
theorem OneSt.fr0 (h:OneSt U pb sb mo mc ms w0 V0 M0 I0 W lv cs V BV M I f L) (hf:Fr NoM W W'):OneSt U pb sb mo mc ms w0 V0 M0 I0 W' lv cs V BV M I f L:=h.call (h.st.fr0 hf) (PNx.of0 hf)
theorem OneSt.push (h:OneSt U pb sb mo mc ms w0 V0 M0 I0 W lv cs V BV M I f L) (ha:Fr NoM W Wa) (ho:W'.ownsRow w0.heap.size 3 1 v' (L.length + 1) (L.map encN ++ [encN x])) (hf:Fr (Own1 lv) Wa W')
    (hq:v'.ownBlock=lv.ownBlock∨∃ b,v'.ownBlock=some b∧Wa.heap.size≤b) (hx:x < V.length) (hc:(codesOf V).getD x 0=c) :
    OneSt U pb sb mo mc ms w0 V0 M0 I0 W' v' (cs ++ [c]) V BV M I f (L ++ [x]):=by
  have h:=h.fr0 ha
  refine ⟨h.st.fr hf (fun q hq'=>⟨(h.sl q hq').1,(h.sl q hq').2.1,(h.sl q hq').2.2⟩),h.nx.own hf (fun q hq'=>(h.rl.own.lt q hq').1),NRow.snoc ho,h.cl.snoc hx hc,fun q e=>?_⟩
  have nw:lv.ownBlock=some q∨Wa.heap.size≤q:=by
    rcases hq with h1 | ⟨b,h1,h2⟩
    · exact .inl (h1 ▸ e)
    · rw [h1] at e;cases e;exact .inr h2
  rcases nw with e' | e'
  · exact h.sl q e'
  · refine ⟨fun z => ?_, fun z => ?_, fun z => ?_⟩
    · have:=(h.st.mlt q z).1;omega
    · have:=(h.st.ilt q z).1;omega
    · have:=h.st.map.lt;omega
theorem OneSt.start (h:PSt encN NegMO U pb sb mo mc ms (.map (some sb)) W V BV M I f):OneSt U pb sb mo mc ms W V M I (W.alloc (.cells #[] 3)) (.slice (some ⟨W.heap.size,0,none⟩) 0 0) [] V BV M I f []:=by
  have hs:=h.map.lt
  refine ⟨h.fr0 ((Fr.refl NoM W).alloc _),PNx.of0 ((Fr.refl NoM W).alloc _),NRow.made W,RowC.nil _,fun q hq=>?_⟩
  have e:W.heap.size=q:=Option.some.inj hq
  refine ⟨fun z=>?_,fun z=>?_,fun z=>?_⟩
  · have:=(h.mlt q z).1;omega
  · have:=(h.ilt q z).1;omega
  · omega
end
set_option maxRecDepth 8000 in
set_option maxHeartbeats 8000000 in
theorem star_any {U:List Nat} (hUl:U.length < 1000000) (pb sb:Nat) (mo mc ms:Value) (n:Nat) (hn:n≤1000) (hU:∀ k,k≤n→starK k∈U) (V:List PL) (BV:List Nat) (M I:Nat→Prop) (f:Nat→Option Nat) (w:World) (hst:PSt encN NegMO U pb sb mo mc ms (.map (some sb)) w V BV M I f) :
    Calls Tryz.prog 130 #[.pointer (some ⟨pb,0,none⟩),.int .i64 (n:Int)] w fun e w'=>NegPost U pb sb mo mc ms w V M I (starK n) e w':=by
  obtain ⟨w1,hw1⟩:∃ w1,w1=w.alloc (.cells #[] 3):=⟨_,rfl⟩
  have hs:=OneSt.start hst
  rw [← hw1] at hs
  have HS:=Lib.hid hs;have HUl:=Lib.hid hUl;have HU:=Lib.hid hU
  clear hst hs hUl hU
  obtain ⟨q1,hq1⟩:∃ q1,q1=Value.slice (some ⟨w.heap.size,0,none⟩) 0 0:=⟨_,rfl⟩
  go_enter Tryz.func130,Tryz.ntmps130
  go_wp2_with fail
  rw [← hw1,← hq1]
  rw [← hq1] at HS
  clear hw1 hq1
  go_loopw [5,8] (fun v5 t W=>∃ (k:Nat) (lv:Value) (V1:List PL) (B1:List Nat) (M1 I1:Nat→Prop) (f1:Nat→Option Nat) (L:List Nat),lv=v5∧t=.int .i64 k∧k≤n∧OneSt U pb sb mo mc ms w V M I W lv (starL k) V1 B1 M1 I1 f1 L) (fun _ t _=>n - (intOf t).toNat)
  case atStart=>exact ⟨0,_,V,BV,M,I,f,[],rfl,rfl,Nat.zero_le _,HS.out⟩
  case round =>
    obtain ⟨k,lv,V1,B1,M1,I1,f1,L,rfl,rfl,hk,hs⟩:=hrel
    obtain ⟨w7,rfl⟩:∃ w7,w7=wr:=⟨_,rfl⟩
    obtain ⟨lb,lc,rfl⟩:=hs.rl.shape
    have hl:L.length=k:=by rw [hs.cl.len,starL_len]
    have HNd:=Lib.hid (nodeN_any (U:=U) HUl.out (some ⟨lb,0,none⟩) (some ⟨lb,0,none⟩) L.length L.length lc lc rfl rfl hs.st hs.rl.nats hs.rl.nats hs.cl hs.cl (show mkC (starL k) (starL k)∈U from HU.out k hk) (by omega) (by omega))
    have HS:=Lib.hid hs;have HL:=Lib.hid hl
    clear hs hl
    by_cases hkn:k < n
    · go_wp2_with fail
      (with_reducible refine HNd.out.mono ?_)
      rintro e w8 ⟨i,V2,B2,M2,I2,f2,rfl,st2,nx2,hi2,hc2⟩
      have HS8:=Lib.hid (HS.out.call st2 nx2);have HI2:=Lib.hid hi2;have HC2:=Lib.hid hc2
      clear st2 nx2 hi2 hc2
      go_wp2_with (at_builtin;refine wpList_appS (enc:=encN) _ rfl (.tmp 10) (.tmp 15) 26 rfl w.heap.size 3 (.int .i64 0) 8 Tryz.underlying26 infoInt rfl (.slice (some ⟨lb,0,none⟩) L.length lc) L.length (L.map encN) rfl (HS8.out.fr0 ((Fr.refl NoM w8).alloc _)).rl.own (.slice (some ⟨w8.heap.size,0,none⟩) 1 1) rfl [i] (SliceOf.one encN w8 i 3) (fun _=>rfl) (by have:=HL.out;simp only [List.length_singleton];omega) (by decide) (by have:=HS8.out.nx.fr.size;rw [World.size_alloc];omega) ?_)
      intro v9 w9 h9 f9 q9
      have HS9:=Lib.hid (HS8.out.push ((Fr.refl NoM w8).alloc _) h9 f9 (by rw [World.size_alloc];exact q9) HI2.out HC2.out)
      clear h9 f9 q9
      go_wp2
      go_roundw
      case rel=>exact ⟨k + 1,v9,V2,B2,M2,I2,f2,L ++ [i],rfl,by go_num,by omega,HS9.out⟩
      case measure=>simp [intOf];omega
    · obtain rfl : k = n := by omega
      go_wp2_with fail
      (with_reducible refine HNd.out.mono ?_)
      rintro e w8 ⟨i,V2,B2,M2,I2,f2,rfl,st2,nx2,hi2,hc2⟩
      have HE:=Lib.hid (show NegPost U pb sb mo mc ms w V M I (starK k) (.returned (.int .i64 (i:Int))) w8 from ⟨i,V2,B2,M2,I2,f2,rfl,st2,HS.out.nx.trans nx2,hi2,hc2⟩)
      clear st2 nx2 hi2 hc2
      go_wp2
      go_ret
      exact HE.out
set_option maxRecDepth 8000 in
set_option maxHeartbeats 8000000 in
theorem ups0_any {U:List Nat} (hUl:U.length < 1000000) (pb sb:Nat) (mo mc ms:Value) (n:Nat) (hn:n≤1000) (hU:∀ k,k≤n→starK k∈U) (V:List PL) (BV:List Nat) (M I:Nat→Prop) (f:Nat→Option Nat) (w:World) (hst:PSt encN NegMO U pb sb mo mc ms (.map (some sb)) w V BV M I f) :
    Calls Tryz.prog 65 #[.pointer (some ⟨pb,0,none⟩),.int .i64 0,.int .i64 (n:Int)] w fun e w'=>NegPost U pb sb mo mc ms w V M I (starK n) e w':=by
  have HNz:=Lib.hid (nodeN_any (L:=[]) (R:=[]) hUl none none 0 0 0 0 rfl rfl hst (SliceOf.nil _ _) (SliceOf.nil _ _) (RowC.nil _) (RowC.nil _) (show mkC [] []∈U from hU 0 (Nat.zero_le _)) (by simp) (by simp))
  have HSt:=Lib.hid (fun (W:World) (V1:List PL) (B1:List Nat) (M1 I1:Nat→Prop) (f1:Nat→Option Nat) (h:PSt encN NegMO U pb sb mo mc ms (.map (some sb)) W V1 B1 M1 I1 f1)=>star_any hUl pb sb mo mc ms n hn hU V1 B1 M1 I1 f1 W h)
  clear hst hU hUl hn
  go_enter Tryz.func65,Tryz.ntmps65
  go_wp2_with fail
  (with_reducible refine HNz.out.mono ?_)
  rintro e w1 ⟨z0,V1,B1,M1,I1,f1,rfl,st1,nx1,l1,q1⟩
  have HS:=Lib.hid (HSt.out w1 V1 B1 M1 I1 f1 st1);have HNx:=Lib.hid nx1
  clear st1 nx1 l1 q1
  go_wp2_with fail
  (with_reducible refine HS.out.mono ?_)
  rintro e w2 ⟨i,V2,B2,M2,I2,f2,rfl,st2,nx2,l2,q2⟩
  have HE:=Lib.hid (show NegPost U pb sb mo mc ms w V M I (starK n) (.returned (.int .i64 (i:Int))) w2 from ⟨i,V2,B2,M2,I2,f2,rfl,st2,HNx.out.trans nx2,l2,q2⟩)
  clear st2 nx2 l2 q2
  go_wp2
  go_ret
  exact HE.out
set_option maxRecDepth 8000 in
set_option maxHeartbeats 8000000 in
theorem ups1_any {U:List Nat} (hUl:U.length < 1000000) (pb sb:Nat) (mo mc ms:Value) (hU:zeroC∈U∧starC∈U∧upC∈U) (V:List PL) (BV:List Nat) (M I:Nat→Prop) (f:Nat→Option Nat) (w:World) (hst:PSt encN NegMO U pb sb mo mc ms (.map (some sb)) w V BV M I f) :
    Calls Tryz.prog 65 #[.pointer (some ⟨pb,0,none⟩),.int .i64 1,.int .i64 0] w fun e w'=>NegPost U pb sb mo mc ms w V M I upC e w':=by
  have HNz:=Lib.hid (nodeN_any (L:=[]) (R:=[]) hUl none none 0 0 0 0 rfl rfl hst (SliceOf.nil _ _) (SliceOf.nil _ _) (RowC.nil _) (RowC.nil _) (show mkC [] []∈U from hU.1) (by simp) (by simp))
  have HU0:=Lib.hid (fun (W:World) (V1:List PL) (B1:List Nat) (M1 I1:Nat→Prop) (f1:Nat→Option Nat) (h:PSt encN NegMO U pb sb mo mc ms (.map (some sb)) W V1 B1 M1 I1 f1)=>show Calls Tryz.prog 65 #[.pointer (some ⟨pb,0,none⟩),.int .i64 0,.int .i64 1] W fun e w'=>NegPost U pb sb mo mc ms W V1 M1 I1 starC e w' from ups0_any hUl pb sb mo mc ms 1 (by decide) (fun k hk=>by
    match k,hk with
    | 0,_=>exact hU.1
    | 1,_=>exact hU.2.1) V1 B1 M1 I1 f1 W h)
  have HUu:=Lib.hid hU.2.2;have HUl:=Lib.hid hUl
  clear hst hU hUl
  go_enter Tryz.func65,Tryz.ntmps65
  go_wp2_with fail
  (with_reducible refine HNz.out.mono ?_)
  rintro e w1 ⟨z0,V1,B1,M1,I1,f1,rfl,st1,nx1,l1,q1⟩
  obtain ⟨w2,hw2⟩:∃ w2,w2=w1.alloc (.cells #[.int .i64 (z0:Int)] 3):=⟨_,rfl⟩
  have g2:Fr NoM w1 w2:=by rw [hw2];exact (Fr.refl NoM w1).alloc _
  have n2:Nats w2 (.slice (some ⟨w1.heap.size,0,none⟩) 1 1) [z0]:=by rw [hw2];exact SliceOf.one encN w1 z0 3
  have hZ2:¬ M1 w1.heap.size∧w1.heap.size≠sb∧w1.heap.size < w2.heap.size:=⟨fun h=>by have:=(st1.mlt _ h).1;omega,by have:=st1.map.lt;omega,by rw [hw2];simp⟩
  have HS:=Lib.hid (HU0.out w2 V1 B1 M1 I1 f1 (st1.fr0 g2));have HNx:=Lib.hid (nx1.trans (PNx.of0 g2));have HN2:=Lib.hid n2;have HZ2:=Lib.hid hZ2;have HL1:=Lib.hid (And.intro l1 q1)
  clear st1 nx1 l1 q1 g2 n2 hZ2
  go_wp2_with fail
  rw [← hw2]
  clear hw2
  rw [show bits BinOp.xor IntKind.i64 0 1=1 from by decide]
  (with_reducible refine HS.out.mono ?_)
  rintro e w3 ⟨s0,V3,B3,M3,I3,f3,rfl,st3,nx3,l3,q3⟩
  obtain ⟨w4,hw4⟩:∃ w4,w4=w3.alloc (.cells #[.int .i64 (s0:Int)] 3):=⟨_,rfl⟩
  have g4:Fr NoM w3 w4:=by rw [hw4];exact (Fr.refl NoM w3).alloc _
  have n4:Nats w4 (.slice (some ⟨w3.heap.size,0,none⟩) 1 1) [s0]:=by rw [hw4];exact SliceOf.one encN w3 s0 3
  have h3:=own_row HN2.out (nx3.trans (PNx.of0 g4)) HZ2.out
  have hz3:z0 < V3.length∧(codesOf V3).getD z0 0=zeroC:=⟨by have:=nx3.pre.length_le;have:=HL1.out.1;omega,by rw [code_mono nx3.pre HL1.out.1];exact HL1.out.2⟩
  have HNd:=Lib.hid (show Calls Tryz.prog 68 #[.pointer (some ⟨pb,0,none⟩),.slice (some ⟨w1.heap.size,0,none⟩) 1 1,.slice (some ⟨w3.heap.size,0,none⟩) 1 1] w4 fun e w'=>NegPost U pb sb mo mc ms w4 V3 M3 I3 upC e w' from nodeN_any (U:=U) HUl.out (some ⟨w1.heap.size,0,none⟩) (some ⟨w3.heap.size,0,none⟩) 1 1 1 1 rfl rfl (st3.fr0 g4) h3.1 n4 ((RowC.nil V3).snoc hz3.1 hz3.2) ((RowC.nil V3).snoc l3 q3) (show mkC [zeroC] [starC]∈U from HUu.out) (by simp) (by simp))
  have HNx3:=Lib.hid (HNx.out.trans (nx3.trans (PNx.of0 g4)))
  clear st3 nx3 l3 q3 g4 n4 h3 hz3
  go_wp2_with fail
  rw [← hw4]
  clear hw4
  (with_reducible refine HNd.out.mono ?_)
  rintro e w5 ⟨i,V5,B5,M5,I5,f5,rfl,st5,nx5,l5,q5⟩
  have HE:=Lib.hid (show NegPost U pb sb mo mc ms w V M I upC (.returned (.int .i64 (i:Int))) w5 from ⟨i,V5,B5,M5,I5,f5,rfl,st5,HNx3.out.trans nx5,l5,q5⟩)
  clear st5 nx5 l5 q5
  go_wp2
  go_ret
  exact HE.out
set_option maxRecDepth 4000 in
set_option maxHeartbeats 8000000 in
theorem upForm_any (w:World):Calls Tryz.prog 26 #[.int .i64 1,.int .i64 0] w fun e w'=>∃ v',e=.returned (.tuple #[.agg #[v'],.bool true])∧NodesS w.heap.size w' v' (formOf upC)∧Fr NoM w w':=by
  obtain ⟨RN,hRN⟩:∃ RN,RN=formOf upC:=⟨_,rfl⟩
  rw [← hRN]
  have HRN:=Lib.hid hRN
  clear hRN
  obtain ⟨w1,hw1⟩:∃ w1,w1=w.alloc (.cells #[.slice none 0 0] 31):=⟨_,rfl⟩
  have f1:Fr NoM w w1:=by rw [hw1];exact (Fr.refl NoM w).alloc _
  have hs1:w1.heap.size=w.heap.size + 1:=by rw [hw1];simp
  have e1:w1.heap[w.heap.size]?=some (.cells #[.slice none 0 0] 31 (0,0)):=by rw [hw1];exact heap_alloc_new w _
  have HK:=Lib.hid (fun (W:World) (f:Fr (fun q=>w1.heap.size≤q) w1 W)=>(by
    have h1:=f.heap e1 (fun q=>by omega)
    exact ⟨by rw [cell_of_row W _ 0 _ _ _ h1];rfl,by simp [World.frozen?,h1]⟩:W.cell? ⟨w.heap.size,0,none⟩=some (.slice none 0 0)∧W.frozen? ⟨w.heap.size,0,none⟩=false))
  have F1:=Lib.hid f1;have HS1:=Lib.hid hs1
  clear f1 hs1 e1
  go_enter Tryz.func26,Tryz.ntmps26
  go_wp2_with fail
  rw [← hw1]
  clear hw1
  (with_reducible refine (newPool_any w1).mono ?_)
  rintro e w3 ⟨rfl,hp3,hmaps,f3⟩
  obtain ⟨pb,hpb⟩:∃ pb,pb=w1.heap.size + 5:=⟨_,rfl⟩
  obtain ⟨sb,hsb⟩:∃ sb,sb=w1.heap.size + 4:=⟨_,rfl⟩
  have hmap:=hmaps 4 (by omega)
  rw [← hsb] at hmap hp3
  rw [← hpb] at hp3 ⊢
  obtain ⟨mo,hmo⟩:∃ v,v=Value.map (some (w1.heap.size + 1)):=⟨_,rfl⟩
  obtain ⟨mc,hmc⟩:∃ v,v=Value.map (some (w1.heap.size + 2)):=⟨_,rfl⟩
  obtain ⟨ms,hms⟩:∃ v,v=Value.map (some (w1.heap.size + 3)):=⟨_,rfl⟩
  rw [← hmo,← hmc,← hms] at hp3
  clear hmaps hmo hmc hms
  have hlo:=hp3.low
  have hst:PSt encN NegMO [zeroC,starC,upC] pb sb mo mc ms (.map (some sb)) w3 [] [] (fun q=>(q=w1.heap.size∨q=pb)∧q < w3.heap.size) (fun q=>NoM q∧q < w3.heap.size) (fun _=>none) :=
    ⟨hlo,PoolOK.nil,fun x hx=>by simp at hx,⟨#[],0,hmap,by simp,by simp,by simp⟩,NegMO.none [],fun q hq=>⟨hq.2,by rcases hq.1 with h | h <;> omega⟩,fun q hq=>⟨hq.2,hq.1.elim⟩⟩
  have HUp:=Lib.hid (ups1_any (U:=[zeroC,starC,upC]) (by simp) pb sb mo mc ms ⟨by simp,by simp,by simp⟩ [] [] _ _ _ w3 hst)
  have F3:=Lib.hid f3;have HPb:=Lib.hid (And.intro hpb hsb)
  clear hp3 hlo hst hmap f3 hpb hsb
  go_wp2_with fail
  (with_reducible refine HUp.out.mono ?_)
  rintro e wy ⟨tt,Vy,By,My,Iy,fy,rfl,sty,nxy,ly,qy⟩
  have hlen:=sty.len
  have HFm:=Lib.hid (pform_any pb tt Vy By mo mc ms (.map (some sb)) wy sty.pool sty.ok ly (by simp at hlen;omega))
  have hfo:=formB_of sty.ok ly qy
  have HRs:=Lib.hid (fun (okf:Bool) (FR:List PL) (hres:FormRes Vy By tt okf FR)=>(by
    obtain ⟨h1,h2⟩:=FormRes.is sty.ok ly hres
    rw [hfo] at h1 h2
    rw [up_fits] at h1
    refine ⟨h1,?_⟩
    rw [HRN.out,h2,h1];rfl:okf=true∧FR=RN))
  have Fy:=Lib.hid (F3.out.any.trans nxy.fr (fun k _ h=>by
    have:=HPb.out
    rcases h with h | h
    · rcases h.1 with h | h <;> omega
    · omega):Fr (fun q=>w1.heap.size≤q) w1 wy)
  clear sty nxy ly qy hlen hfo
  go_wp2_with fail
  (with_reducible refine HFm.out.mono ?_)
  rintro e wz ⟨nv,okf,FR,rfl,hres,hns,fz⟩
  obtain ⟨rfl,rfl⟩:=HRs.out okf FR hres
  have Fz:=Lib.hid (Fy.out.trans fz (fun _ _ q=>q.elim))
  have HNs:=Lib.hid hns
  have HZz:=Lib.hid (show w.heap.size + 1≤wy.heap.size from by have:=Fy.out.size;have:=HS1.out;omega)
  obtain ⟨an,cn,rfl,zz⟩:=id hns.nodeL
  clear zz hns fz hres
  obtain ⟨k1,k2⟩:=HK.out wz Fz.out
  go_wp2
  refine bodyPost_ret (v:=.tuple #[.agg #[.slice an FR.length cn],.bool true]) (by simp [results,Tryz.results26,go_sem,k1,k2]) rfl ?_
  refine ⟨_,rfl,?_,(F1.out.trans Fz.out (fun k hk h=>by have h:w1.heap.size≤k:=h;have:=HS1.out;omega)).setCell _ _ (fun h=>by have h:w.heap.size < w.heap.size:=h;omega)⟩
  exact (HNs.out.fr (Fr.set wz ⟨w.heap.size,0,none⟩ (.slice an FR.length cn)) (fun q hq _ e=>by have e:q=w.heap.size:=e;have:=HZz.out;omega)).base (D':=w.heap.size) (by have:=HZz.out;omega)
end Go.Proofs.YtiidnnpanickaaaGreatDoor
