import Derived.Test.YtghekfmfonoocaaGreatDoorZuv
/- Lemmas. -/
set_option linter.all false
namespace Go.Proofs.YtghekfmfonoocaaGreatDoor
open Go.RowKit
theorem ynr {R S:Nat->Prop}{a d:World}{f g:Value}{A B:List (List Int × List Int)}(j:NodeL R encI a f A)(k:NodeL S encI a g B)(i:d=a.alloc (.cells #[f,g] 26)) : FormsI (· < d.heap.size) d (.slice (some ⟨a.heap.size,0,none⟩) 2 2) [A,B]:=by(have l:d.heap[a.heap.size]?=some (.cells #[f,g] 26 (0,0)):=by rw[i];exact xJ a _);(have h:Fr NoM a d:=by rw[i];exact(nW a).alloc _);refine⟨[f,g],⟨some ⟨a.heap.size,0,none⟩,2,rfl,by simp,by decide,λe o b=>⟨a.heap.size,0,rfl,?_⟩⟩,rfl,λe n m c hF=>?_⟩;{rw[Nat.zero_add,xX _ _ _ _ _ _ l];match e,b with| 0,b=>cases b;rfl| 1,b=>cases b;rfl| e+2,b=>simp at b};{match e,c,hF with| 0,c,hF=>cases c;cases hF;exact(j.fr0 h).low| 1,c,hF=>cases c;cases hF;exact(k.fr0 h).low| e+2,c,hF=>simp at c}
section
variable {U:List Nat}{pb sb:Nat}{mo mc ms:Value}{w W w':World}{V V1:List PL}{BV BV1:List Nat}{M I M1 I1:Nat->Prop}{f f1:Nat->Option Nat}
theorem ymp {a:Nat}{L:List Nat}{n c:Nat}(h:Nats W (.slice (some ⟨a,0,none⟩) n c) L)(e:PNx sb W V M I w' V1 M1 I1)(b:¬M a/\a≠sb/\a<W.heap.size) : Nats w' (.slice (some ⟨a,0,none⟩) n c) L/\¬M1 a/\a≠sb/\a<w'.heap.size:=by refine⟨h.fr e.fr (λ_ j i d=>?_),λd=>?_,b.2.1,vK b.2.2 e.fr.size⟩;{have g:a=j:=yY i;subst g;exact d.elim b.1 b.2.1};{rcases e.mM a d with f|f;{exact b.1 f};{omega}}
end
