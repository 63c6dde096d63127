import Derived.Test.YtiidnnpanickaaaGreatDoorZdOrderFn
import Derived.Test.YtiidnnpanickaaaGreatDoorShelfG
/- What the claim of FnTinyCard needs of: OrderSort. -/
namespace Go.Proofs.YtiidnnpanickaaaGreatDoor
set_option linter.unusedVariables false
set_option linter.unusedSimpArgs false
open Go.RowKit Go.Sort
def ecmp (x y:PL):Int:=orI (cmpL x.1 y.1) (cmpL x.2 y.2)
theorem ecmp_lt (x y:PL):decide (ecmp x y < 0)=aheadB x y:=by
  unfold ecmp orI aheadB
  split <;> rfl
theorem swo_ahead {α:Type} [Inhabited α] (f:α→PL):SWO (ltOf fun x y:α=>ecmp (f x) (f y)):=by
  have e:∀ x y:α,ltOf (fun x y:α=>ecmp (f x) (f y)) x y=aheadB (f x) (f y):=fun x y=>ecmp_lt _ _
  have asy:∀ a b:PL,aheadB a b=true→aheadB b a=false:=fun a b=>aheadB_asymm
  refine ⟨fun x=>?_,fun x y z h1 h2=>?_,fun x y z h1 h2=>?_⟩
  · rw [e]
    cases h:aheadB (f x) (f x) with
    | false=>rfl
    | true=>have:=aheadB_asymm h;rw [h] at this;cases this
  · rw [e] at h1 h2 ⊢;exact aheadB_trans h1 h2
  · rw [e] at h1 h2 ⊢
    cases h:aheadB (f x) (f z) with
    | false=>rfl
    | true =>
      exfalso
      cases q:aheadB (f y) (f x) with
      | true=>rw [aheadB_trans q h] at h2;cases h2
      | false=>rw [aheadB_tri h1 q] at h;rw [h] at h2;cases h2
theorem swo_born {α:Type} [Inhabited α] (f:α→Nat):SWO (ltOf fun x y:α=>Lib.compareInt (f x:Int) (f y:Int)):=by
  have e:∀ x y:α,ltOf (fun x y:α=>Lib.compareInt (f x:Int) (f y:Int)) x y=decide (f x < f y):=fun x y=>by
    unfold ltOf
    apply decide_eq_decide.2
    show Lib.compareInt (f x:Int) (f y:Int) < 0↔f x < f y
    unfold Lib.compareInt
    constructor
    · intro h
      split at h
      · omega
      · split at h <;> omega
    · intro h
      rw [if_pos (by omega)];omega
  refine ⟨fun x=>?_,fun x y z h1 h2=>?_,fun x y z h1 h2=>?_⟩
  · rw [e];simp
  · rw [e] at h1 h2 ⊢;simp at h1 h2 ⊢;omega
  · rw [e] at h1 h2 ⊢;simp at h1 h2 ⊢;omega
theorem perm_of_permIn {α:Type} [Inhabited α] {d d':Array α} (h:PermIn 0 d.size d d'):d'.toList.Perm d.toList:=by
  obtain ⟨hs,_,hp⟩:=h
  have e1:d.extract 0 d.size=d:=by simp
  have e2:d'.extract 0 d.size=d':=by rw [← hs];simp
  rwa [e1,e2] at hp
theorem pairwise_of_sortedIn {α:Type} [Inhabited α] {lt:α→α→Bool} {d:Array α} (h:SortedIn lt 0 d.size d):d.toList.Pairwise fun a b=>lt b a=false:=by
  refine List.pairwise_iff_getElem.2 fun i j hi hj hij=>?_
  have:=h i j (Nat.zero_le _) hij (by simpa using hj)
  rw [getElem!_pos d i (by simpa using hi),getElem!_pos d j (by simpa using hj)] at this
  simpa using this
theorem subtype_list {n:Nat} (Q:List Nat) (hQ:∀ x∈Q,x < n):∃ D:List {x:Nat // x < n},D.map Subtype.val=Q:=by
  induction Q with
  | nil=>exact ⟨[],rfl⟩
  | cons y l ih =>
    obtain ⟨D,hD⟩:=ih fun x hx=>hQ x (List.mem_cons_of_mem _ hx)
    exact ⟨⟨y,hQ y (List.mem_cons_self ..)⟩ :: D,by simp [hD]⟩
set_option maxHeartbeats 1000000 in
theorem sortQ_any {base g cap B pb:Nat} (Q BV:List Nat) (bv:Value) (w:World) (h:w.ownsRow base 3 1 (.slice (some ⟨g,0,none⟩) Q.length cap) Q.length (Q.map encN)) (hQ:∀ x∈Q,x < BV.length) (hne:0 < BV.length) (hl:Q.length < 1000000000)
    (h0:w.cell? ⟨B,0,none⟩=some (.pointer (some ⟨pb,0,none⟩))) (h1:w.cell? ⟨pb,2,none⟩=some bv) (hbv:Nats w bv BV) (gB:B≠g) (gp:pb≠g) (gb:∀ q,bv.ownBlock=some q→q≠g) :
    Calls Tryz.prog 177 #[.slice (some ⟨g,0,none⟩) Q.length cap,.func (.func 178) #[] #[.pointer (some ⟨B,0,none⟩)]] w fun e w' =>
      e=.returned (.tuple #[])∧∃ Q':List Nat,Q'.Perm Q∧(Q'.Pairwise fun a b=>BV.getD a 0≤BV.getD b 0)∧w'.ownsRow base 3 1 (.slice (some ⟨g,0,none⟩) Q'.length cap) Q'.length (Q'.map encN)∧Fr (fun k=>k=g) w w':=by
  obtain ⟨D,hD⟩:=subtype_list Q hQ
  haveI:Inhabited {x:Nat // x < BV.length}:=⟨⟨0,hne⟩⟩
  let enc:{x:Nat // x < BV.length}→Value:=fun x=>encN x.1
  let cf:{x:Nat // x < BV.length}→{x:Nat // x < BV.length}→Int:=fun x y=>Lib.compareInt (BV.getD x.1 0:Int) (BV.getD y.1 0:Int)
  have hlen:D.length=Q.length:=by rw [← hD];simp
  have hx:Q.map encN=D.toArray.toList.map enc:=by rw [← hD,List.map_map];rfl
  have hds:D.toArray.size=Q.length:=by simpa using hlen
  have hH:=holds_of_owns (enc:=enc) h D.toArray hx
  have hlt:g < w.heap.size:=(h.lt g rfl).2
  have eg:∀ args w,(callFunc 178 args).run Tryz.prog w=.ok (.enter 178 args) w:=enters_of Tryz.func178 (by kernel_rfl) rfl
  have hcmp:CmpLays1 Tryz.prog 178 #[.pointer (some ⟨B,0,none⟩)] enc cf g 0 D.toArray.size w:=by
    intro m os dk hs x y
    obtain ⟨_,hf⟩:=owns_putRow (enc:=enc) h dk (by rw [hs,hds]) m os
    have hc:=ord1_any B pb x.1 y.1 BV bv (sortWorld enc w g 0 m dk os) (hf.cell h0 gB) (hf.cell h1 gp) (hbv.fr hf (fun _ q hq=>gb q hq)) x.2 y.2
    refine Calls.mono (P:=Tryz.prog) hc ?_
    rintro e w' ⟨rfl,q,rfl⟩
    refine ⟨?_,q,#[],by rw [grow_empty]⟩
    show _=Ending.returned (.int .i64 (Lib.compareInt (BV.getD x.1 0:Int) (BV.getD y.1 0:Int)))
    rw [List.getD_eq_getElem?_getD,List.getElem?_eq_getElem x.2,List.getD_eq_getElem?_getD,List.getElem?_eq_getElem y.2];rfl
  have hc:=Any.slices_SortFunc Tryz.laySortI enc (fun _=>rfl) cf (swo_born fun x:{x:Nat // x < BV.length}=>BV.getD x.1 0) 178 #[.pointer (some ⟨B,0,none⟩)] g 0 cap D.toArray w eg hcmp hH hlt (by omega)
  rw [hds] at hc
  refine Calls.mono (P:=Tryz.prog) hc ?_
  rintro e w' ⟨rfl,d',n,os,hp,hso,rfl⟩
  have hsz:d'.size=Q.length:=by rw [hp.1,hds]
  rw [← hds] at hp
  have hpp:=(perm_of_permIn hp).map Subtype.val
  rw [List.toList_toArray,hD] at hpp
  rw [← hsz] at hso
  have hpw:=pairwise_of_sortedIn hso
  obtain ⟨h2,h3⟩:=owns_putRow (enc:=enc) h d' hsz n os
  refine ⟨rfl,d'.toList.map Subtype.val,hpp,List.pairwise_map.2 (hpw.imp fun {a b} hab=>?_),?_,h3⟩
  · unfold ltOf at hab
    simp only [decide_eq_false_iff_not] at hab
    show BV.getD a.1 0≤BV.getD b.1 0
    have hab:¬ Lib.compareInt (BV.getD b.1 0:Int) (BV.getD a.1 0:Int) < 0:=hab
    rcases Nat.lt_or_ge (BV.getD b.1 0) (BV.getD a.1 0) with hlt | hge
    · exfalso; apply hab
      unfold Lib.compareInt
      rw [if_pos (by omega)];omega
    · exact hge
  · have e1 : (d'.toList.map Subtype.val).length = Q.length := by simp [hsz]
    rw [e1,List.map_map]
    exact h2
theorem holdsF_of_owns {w:World} {base:Nat} {e:TypeId} {g n cap s:Nat} {xs:List Value} (h:w.ownsRow base e s (.slice (some ⟨g,0,none⟩) n cap) n xs) (d:Array Value) (hx:d.toList=xs):Holds id w g 0 d:=by
  rcases h.2 with ⟨h0,_⟩ | ⟨g',cap',cur,hv,hb,hg,hnc,hcm,hs,ht⟩
  · cases h0
  · cases hv
    have hl:xs.length=n * s:=h.1
    intro j hj
    have hjn:j < n * s:=by rw [← hx] at hl;simp at hl;omega
    refine ⟨?_,by simp [World.frozen?,hg]⟩
    rw [Nat.zero_add,cell_of_row w g j cur _ _ hg]
    have:(cur.toList.take (n * s))[j]?=some (id d[j]!):=by
      rw [ht,← hx,Array.getElem?_toList,Array.getElem?_eq_getElem hj,getElem!_pos d j hj];rfl
    rw [List.getElem?_take,if_pos (by omega)] at this
    simpa using this
theorem owns_putRowF {w:World} {base:Nat} {e:TypeId} {g n cap s:Nat} {xs:List Value} (h:w.ownsRow base e s (.slice (some ⟨g,0,none⟩) n cap) n xs) (d:Array Value) (hd:d.size=n * s) (q:Nat) (os:Array Obj) :
    (grow (putRow id (Sort.ahead w q) g 0 d) os).ownsRow base e s (.slice (some ⟨g,0,none⟩) n cap) n d.toList∧Fr (fun k=>k=g) w (grow (putRow id (Sort.ahead w q) g 0 d) os):=by
  rcases h.2 with ⟨h0,_⟩ | ⟨g',cap',cur,hv,hb,hg,hnc,hcm,hs,ht⟩
  · cases h0
  · cases hv
    obtain ⟨h1,h2⟩:=heap_putRow (enc:=id) hg d q os
    refine ⟨⟨by simp [hd],.inr ⟨g,cap,_,rfl,hb,h1,hnc,hcm,by simp [putCells,hs],?_⟩⟩,h2⟩
    have hcs:n * s≤cur.size:=by rw [hs];exact Nat.mul_le_mul_right _ hnc
    apply List.ext_getElem?
    intro i
    rw [List.getElem?_take]
    by_cases hi:i < n * s
    · rw [if_pos hi, Array.getElem?_toList, Array.getElem?_toList, Array.getElem?_eq_getElem (xs := d) (i := i) (by omega)]
      unfold putCells
      rw [Array.getElem?_mapIdx,Array.getElem?_eq_getElem (by omega)]
      simp only [Option.map_some]
      rw [if_pos ⟨Nat.zero_le _,by omega⟩,Nat.sub_zero,getElem!_pos d i (by omega)];rfl
    · rw [if_neg hi,Array.getElem?_toList,Array.getElem?_eq_none (by omega)]
theorem flatK_flat3 (lv rv:Nat→Value) (d:Array Nat):(flatK (enc3 lv rv) 3 d).toList=flat3 lv rv d.toList:=by
  apply List.ext_getElem?
  intro t
  have hsz:(flatK (enc3 lv rv) 3 d).size=d.size * 3:=by simp [flatK]
  by_cases ht:t < d.size * 3
  · obtain ⟨q, m, hm, rfl⟩ : ∃ q m, m < 3 ∧ t = q * 3 + m := ⟨t / 3, t % 3, by omega, by omega⟩
    have e1:(q * 3 + m) / 3=q:=by omega
    have e2:(q * 3 + m) % 3=m:=by omega
    have hq:q < d.size:=by omega
    have hg:d.toList[q]?=some d[q]! := by rw [Array.getElem?_toList,Array.getElem?_eq_getElem hq,getElem!_pos d _ hq]
    obtain ⟨g0,g1,g2⟩:=flat3_get lv rv d.toList q _ hg
    have he:(flatK (enc3 lv rv) 3 d).toList[q * 3 + m]?=some ((enc3 lv rv d[q]!)[m]!):=by
      rw [Array.getElem?_toList]
      unfold flatK
      rw [Array.getElem?_map,Array.getElem?_range,if_pos ht]
      simp only [Option.map_some,e1,e2]
    rw [he]
    match m,hm with
    | 0,_=>exact g0.symm
    | 1,_=>exact g1.symm
    | 2,_=>exact g2.symm
    | m + 3,h=>omega
  · rw [List.getElem?_eq_none (by simp [hsz];omega),List.getElem?_eq_none (by rw [flat3_length];simp;omega)]
set_option maxHeartbeats 1000000 in
theorem sortE_any {base g cap:Nat} (G:List Nat) (lv rv:Nat→Value) (f:Nat→PL) (w:World) (h:w.ownsRow base 188 3 (.slice (some ⟨g,0,none⟩) G.length cap) G.length (flat3 lv rv G)) (hl:G.length < 1000000000)
    (h1:∀ i,Nats w (lv i) (f i).1∧∀ q,(lv i).ownBlock=some q→q≠g) (h2:∀ i,Nats w (rv i) (f i).2∧∀ q,(rv i).ownBlock=some q→q≠g) :
    Calls Tryz.prog 180 #[.slice (some ⟨g,0,none⟩) G.length cap,.func (.func 181) #[] #[]] w fun e w' =>
      e=.returned (.tuple #[])∧∃ G':List Nat,G'.Perm G∧(G'.Pairwise fun a b=>aheadB (f b) (f a)=false)∧w'.ownsRow base 188 3 (.slice (some ⟨g,0,none⟩) G'.length cap) G'.length (flat3 lv rv G')∧Fr (fun k=>k=g) w w':=by
  have hs:∀ i,(lv i).oneCell'=true∧(rv i).oneCell'=true:=fun i=>by
    obtain ⟨⟨a,c,e1,_⟩,_⟩:=h1 i
    obtain ⟨⟨a',c',e2,_⟩,_⟩:=h2 i
    rw [e1,e2];exact ⟨rfl,rfl⟩
  have hfl:=flatK_flat3 lv rv G.toArray
  rw [List.toList_toArray] at hfl
  have hH:HoldsK (enc3 lv rv) 3 w g 0 G.toArray:=holdsF_of_owns h _ hfl
  have hlt:g < w.heap.size:=(h.lt g rfl).2
  have eg:∀ args w,(callFunc 181 args).run Tryz.prog w=.ok (.enter 181 args) w:=enters_of Tryz.func181 (by kernel_rfl) rfl
  have hcmp:CmpLays Tryz.prog 181 #[] (enc3 lv rv) 3 (fun x y=>ecmp (f x) (f y)) g 0 G.toArray.size w:=by
    intro m os dk hs x y
    have hd:(flatK (enc3 lv rv) 3 dk).size=G.length * 3:=by simp [flatK,hs]
    obtain ⟨_,hf⟩:=owns_putRowF h (flatK (enc3 lv rv) 3 dk) hd m os
    have hc:=ord2_any x y (lv x) (rv x) (lv y) (rv y) (f x).1 (f x).2 (f y).1 (f y).2 (sortWorldK (enc3 lv rv) 3 w g 0 m dk os)
      ((h1 x).1.fr hf (fun _ q hq=>(h1 x).2 q hq)) ((h2 x).1.fr hf (fun _ q hq=>(h2 x).2 q hq)) ((h1 y).1.fr hf (fun _ q hq=>(h1 y).2 q hq)) ((h2 y).1.fr hf (fun _ q hq=>(h2 y).2 q hq))
    exact hc
  have hc:=AnyQ.slices_SortFunc Tryz.laySortE 3 (fun w=>Tryz.isAgg188 w) (fun w=>Tryz.sizeOf188 w) (enc3 lv rv) (fun _=>rfl) (fun x v hv=>by
      simp only [enc3,List.mem_cons,List.not_mem_nil,or_false] at hv
      rcases hv with rfl | rfl | rfl
      · rfl
      · exact (hs x).1
      · exact (hs x).2) (fun x y=>ecmp (f x) (f y)) (swo_ahead f) 181 #[] g 0 cap G.toArray w eg hcmp hH hlt (by simp;omega)
  refine Calls.mono (P:=Tryz.prog) hc ?_
  rintro e w' ⟨rfl,d',n,os,hp,hso,rfl⟩
  have hsz:d'.size=G.length:=by rw [hp.1];simp
  have hpp:=perm_of_permIn hp
  rw [List.toList_toArray] at hpp
  rw [List.size_toArray,← hsz] at hso
  have hpw:=pairwise_of_sortedIn hso
  obtain ⟨h3,h4⟩:=owns_putRowF h (flatK (enc3 lv rv) 3 d') (by simp [flatK,hsz]) n os
  rw [flatK_flat3] at h3
  refine ⟨rfl,d'.toList,hpp,hpw.imp fun {a b} hab=>?_,?_,h4⟩
  · unfold ltOf at hab
    rw [ecmp_lt] at hab
    exact hab
  · have e1 : d'.toList.length = G.length := by simp [hsz]
    rw [e1]
    exact h3
end Go.Proofs.YtiidnnpanickaaaGreatDoor
