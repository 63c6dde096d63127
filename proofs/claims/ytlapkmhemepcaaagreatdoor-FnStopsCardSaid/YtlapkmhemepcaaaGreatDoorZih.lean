import Derived.Test.YtlapkmhemepcaaaGreatDoorZi1
/- Lemmas. -/
set_option linter.all false
namespace Go.Proofs.YtlapkmhemepcaaaGreatDoor
open Go.RowKit
theorem ydh {c:Nat}(a:CanC c):canC c=c:=(zvh a (zcs c) (zcs c)).symm
section
variable {V:List PL}{C:List Nat}{f:Nat}{S:Nat->Bool}{Q Kp:List Nat}{i k:Nat}
end
noncomputable def canN (Fs:List PL):List PL:=zad (canC (zaf Fs))
theorem neg_neg (a:Nat):negC (negC a)=a:=by induction a using Nat.strongRecOn with| _ a d =>{refine zgu (λc=>?_) λc=>?_;{rw[zfq];constructor;{rintro⟨i,g,e⟩;obtain⟨h,b,f⟩:=(zfp a i).1 g;rw[<-e,<-f,d h (za7 (.inl b))];exact b};{intro b;exact⟨negC c,(zfp a _).2 ⟨c,b,rfl⟩,d c (za7 (.inl b))⟩}};{rw[zfp];constructor;{rintro⟨i,g,e⟩;obtain⟨h,b,f⟩:=(zfq a i).1 g;rw[<-e,<-f,d h (za7 (.inr b))];exact b};{intro b;exact⟨negC c,(zfq a _).2 ⟨c,b,rfl⟩,d c (za7 (.inr b))⟩}}}
theorem yii (x:Nat):geC x zfy=true↔∀b,hasR x b->geC zfy b=false:=by rw[zdm];exact⟨λa=>a.1,λa=>⟨a,λd c=>absurd c (yhe d)⟩⟩
theorem yhc (x:Nat):geC zfy x=true↔∀b,hasL x b->geC b zfy=false:=by rw[zdm];exact⟨λa=>a.2,λa=>⟨λd c=>absurd c (yhd d),a⟩⟩
theorem ge_diff' (n:Nat):∀b a,b+a<n->geC (sumC b (negC a)) zfy=geC b a/\geC zfy (sumC b (negC a))=geC a b:=by induction n with| zero=>{intro b a h;omega}| succ n p =>{intro b a r;have k:∀e,e<b->geC (sumC e (negC a)) zfy=geC e a/\geC zfy (sumC e (negC a))=geC a e:=λe q=>p e a (by omega);have l:∀e,e<a->geC (sumC b (negC e)) zfy=geC b e/\geC zfy (sumC b (negC e))=geC e b:=λe q=>p b e (by omega);constructor;{refine Bool.eq_iff_iff.2 ?_;rw[yii,zdm];constructor;{intro h;exact⟨λf g=>by rw[<-(k f (za7 (.inr g))).2];exact h _ ((zd4 b (negC a) _).2 (.inl ⟨f,g,rfl⟩)),λc d=>by rw[<-(l c (za7 (.inl d))).2];exact h _ ((zd4 b (negC a) _).2 (.inr ⟨negC c,(zfp a _).2 ⟨c,d,rfl⟩,rfl⟩))⟩};{rintro⟨m,o⟩ f g;rcases (zd4 b (negC a) f).1 g with ⟨c,d,rfl⟩|⟨c,d,rfl⟩;{rw[(k c (za7 (.inr d))).2];exact m c d};{obtain⟨j,i,rfl⟩:=(zfp a c).1 d;rw[(l j (za7 (.inl i))).2];exact o j i}}};{refine Bool.eq_iff_iff.2 ?_;rw[yhc,zdm];constructor;{intro h;exact⟨λf g=>by rw[<-(l f (za7 (.inr g))).1];exact h _ ((zd5 b (negC a) _).2 (.inr ⟨negC f,(zfq a _).2 ⟨f,g,rfl⟩,rfl⟩)),λc d=>by rw[<-(k c (za7 (.inl d))).1];exact h _ ((zd5 b (negC a) _).2 (.inl ⟨c,d,rfl⟩))⟩};{rintro⟨m,o⟩ f g;rcases (zd5 b (negC a) f).1 g with ⟨c,d,rfl⟩|⟨c,d,rfl⟩;{rw[(k c (za7 (.inl d))).1];exact o c d};{obtain⟨j,i,rfl⟩:=(zfq a c).1 d;rw[(l j (za7 (.inr i))).1];exact m j i}}}}
theorem zry (a b:Nat):geC (sumC a (negC b)) zfy=geC a b/\geC zfy (sumC a (negC b))=geC b a:=ge_diff' _ a b (vK _)
theorem ygi {a b:Nat}:canC a=canC b↔geC a b=true/\geC b a=true:=by constructor;{intro e;have d:=zdq a;have c:=zdq b;rw[<-e]at c;exact⟨zae d.2.2 c.2.1,zae c.2.2 d.2.1⟩};{rintro⟨f,g⟩;exact((zdq a).step f g).eq}
