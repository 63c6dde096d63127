import Derived.Lib.LaidTab
import Derived.Lib.LaidIn
import Derived.Lib.LaidU8
import Derived.Lib.DecodeN
import Derived.Test.YtkofnbjjbcohgaaGreatDoorZw16
import Derived.Test.YtkofnbjjbcohgaaGreatDoorZwFnStalkFormsFacts
import Derived.Test.YtkofnbjjbcohgaaGreatDoorZw17
/- What the claim of FnStalkFormsCard needs. -/
namespace Go.Proofs.YtkofnbjjbcohgaaGreatDoor.fnStalkForms
set_option linter.unusedVariables false
set_option linter.unusedSimpArgs false
open Go.ChangeShapes Go.WideShapes Go.ChangeAt Go.RowKit
open Go.ChangeMaps (open_string shut_string)
theorem laidOutT:laidOutB Tryz.prog=true:=by kernel_rfl
set_option maxRecDepth 100000 in
theorem contract (H:Type)(enc:TypeId × Value→H)(W:World)(base:Nat)(args:Array Value)(ds gs:List (DataW H))(before:List MemPlace)
  (hval:∀(j:Nat) t v,Tryz.f3.params[j]?=some t→args[j]?=some v→Value.okWide Tryz.prog W .any base t v)
  (hW:DataW.Whole enc Tryz.prog Tryz.f3.params.toList Rows.fnStalkFormsSpec.vars false W args.toList ds gs before) :
  Calls Tryz.prog 3 args W fun e W'=>∃v,e=.returned v/\Rows.fnStalkFormsSpec.post enc Tryz.prog Tryz.f3 false true false false W args v W':=by
 have hW':=hW;obtain⟨p,q,hA0,hV0,rfl,_,_⟩:=hW;have hA:DataW.TrodAll enc Tryz.prog W 0 (fun _=>true) true Tryz.f3.params.toList args.toList ds p:=hA0;rw[Tryz.params3]at hA hval;obtain⟨v0,d0,rfl,rfl,h0⟩:=trodAll_one hA;obtain⟨rfl,rfl⟩:=trodVars_none hV0;obtain⟨L,hL⟩:=openBytes (hval 0 22 v0 rfl rfl) h0;have hlt0:∀x∈p,x.block<W.heap.size:=fun x hx=>by simpa using hW'.lt x (by simp[hx])
 refine(fnStalk_any v0 L W hL).mono ?_
 rintro e W' ⟨rfl,hf⟩;refine⟨_,rfl,_,_,_,[],p,[],hW',?_,?_,?_,hf.toBelow.frame _,fun h=>by cases h⟩
 ·exact trodAll_mk1 (shut_bool Tryz.underlying4 _)
 ·exact trodAll_mk1 (Below.trod laidOutT (by kernel_rfl) (of_decide_eq_true (by kernel_rfl)) h0 hf.toBelow hlt0)
 ·rfl
def bruijn (d n k:Nat):List Value:=(List.range n).map fun j=>Value.int .u8 ((((List.range n).find? fun i=>d*2^i%2^n/2^(n-k) == j).getD 0:Nat):Int)
noncomputable def laidWorld (os:Os):World :=
 let w0:=World.holding Tryz.prog os ⟨#[],#[],[]⟩
 let put (h:Array Obj) (g:Nat) (cs:Array Value):Array Obj:=h.modify g fun
  | .cells _ t frozen=>.cells cs t frozen
  | o=>o
 let h0:=put w0.heap 0 ((List.range 20).map fun i=>Value.int .u64 ((10:Int)^i)).toArray
 let h1:=put h0 1 (Lib.firstTab.map fun z=>Value.int .u8 z).toArray
 let h2:=put h1 2 ((List.range 16).flatMap fun i=>[Value.int .u8 (Lib.accLo i),Value.int .u8 (Lib.accHi i)]).toArray
 let h3:=put h2 4 (Array.mk (bruijn 125613361 32 5))
 let h4:=put h3 5 (Array.mk (bruijn 285870213051353865 64 6))
 { w0 with heap:=h4 }
theorem laid_met (os:Os):laidMet Tryz.prog Rows.fnStalkFormsRow.laid ((laidWorld os).forCall (fun _ _=>0) ⟨#[],#[.slice none 0 0],[]⟩).memory :=
 laidMet_of_run' 8 (by kernel_rfl) (by kernel_rfl)
theorem reads (os:Os){H:Type}(enc:TypeId × Value→H):∃places,DataW.whole enc Tryz.prog ((laidWorld os).forCall (fun _ _=>0) ⟨#[],#[.slice none 0 0],[]⟩).memory Tryz.f3.params.toList Rows.fnStalkFormsSpec.vars false #[Value.slice none 0 0].toList 8=some ([.nil],[],places) :=
 ⟨[],by kernel_rfl⟩
set_option maxRecDepth 100000 in
theorem lifted (os:Os)(started:os.Started)(H:Type)(enc:TypeId × Value→H)(F:Stop.Interp) :
  ReturnsInHanded {} Tryz.checked os 3 .any ((OpenSpec.ofChange Rows.fnStalkFormsSpec).preRow enc Tryz.prog Tryz.f3 Rows.fnStalkFormsRow.domain false Rows.fnStalkFormsRow.laid) (((OpenSpec.ofChange Rows.fnStalkFormsSpec).at F).post enc Tryz.prog Tryz.f3 false true false false):=by
 obtain⟨places,hx⟩:=reads os enc;refine returnsInHanded_of_row (C:=Tryz.checked) (s:=OpenSpec.ofChange Rows.fnStalkFormsSpec) own started (by kernel_rfl) Tryz.func3
  (witness_row_at (enc:=enc) (C:=Tryz.checked) false (laidWorld os) #[.slice none 0 0] rfl (by kernel_rfl) (by kernel_rfl) (by kernel_rfl)
   (OpenSpec.preRow_of_cond 8 hx (by kernel_rfl) (fun k hk=>by cases hk) (by kernel_rfl) (laid_met os))) ?_
 intro W base args ds gs before hval hW _ _ _ _ _ _;exact contract H enc W base args ds gs before hval hW
theorem said:Rows.FnStalkFormsSaid :=
 OpenClaim.holds_of_cond 3 Tryz.f3 rfl rfl rfl rfl rfl rfl rfl ⟨rfl,rfl,rfl,rfl,rfl⟩ rfl rfl rfl rfl rfl named Tryz.func3 closed
  (of_decide_eq_true (by kernel_rfl)) (by unfold Func.isWrapper;first|(rw[if_pos (by decide +kernel)];kernel_rfl)|(rw[if_neg (by decide +kernel)];exact⟨rfl,rfl⟩))
  (fun os started H enc _ F=>by rw[OpenClaim.pre_eq_preRow];exact lifted os started H enc F)
theorem plain (f:FuncId)(fn:Func)(hf:Tryz.pinned.checked.prog.funcNamed "loop.example/g00868/laws.FnStalkForms"=some f)(hfn:Tryz.pinned.checked.prog.funcs[f]?=some fn) :
  false=Tryz.pinned.checked.prog.looks []/\∀(j:Nat) t,fn.params[j]?=some t→Tryz.pinned.checked.prog.wantsStandIn t=false:=by
 obtain rfl:f=3:=Option.some.inj (named.symm.trans hf) |>.symm
 obtain rfl:fn=Tryz.f3:=(Option.some.inj (Tryz.func3.symm.trans hfn)).symm;refine⟨looksNo,fun j t ht=>?_⟩;rw[Tryz.params3]at ht;obtain rfl:t=22:=by simpa using Array.mem_of_getElem? ht
 exact noStand
theorem card:Rows.FnStalkFormsCardSaid :=
 Claim7.holds_tied_plain_at .later [] _ _ _ _ said (fun _ h=>by cases h) wfText (fun _ h=>by cases h) fnStalkForms_row_tie rfl ⟨rfl,rfl⟩ mainIs rfl plain goesNo
end Go.Proofs.YtkofnbjjbcohgaaGreatDoor.fnStalkForms
