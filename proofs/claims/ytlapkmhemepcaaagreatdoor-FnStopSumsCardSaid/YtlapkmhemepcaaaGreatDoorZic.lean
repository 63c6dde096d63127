import Derived.Test.YtlapkmhemepcaaaGreatDoorZil
/- Lemmas. -/
set_option linter.all false
namespace Go.Proofs.YtlapkmhemepcaaaGreatDoor
open Go.RowKit
def sumC (a b:Nat):Nat :=
 mkC ((zrp a).attach.map (λc=>sumC c.1 b)++(zrp b).attach.map λc=>sumC a c.1) ((zk0 a).attach.map (λd=>sumC d.1 b)++(zk0 b).attach.map λd=>sumC a d.1)
 termination_by a+b
 decreasing_by
  ·have:=za7 (.inl (zbu.1 c.2));omega
  ·have:=za7 (.inl (zbu.1 c.2));omega
  ·have:=za7 (.inr (zbh.1 d.2));omega
  ·have:=za7 (.inr (zbh.1 d.2));omega
theorem zd5 (a b i:Nat):hasL (sumC a b) i↔(∃e,hasL a e/\sumC e b=i)\/∃e,hasL b e/\sumC a e=i:=by rw[sumC,zam,y4,y6,y6];constructor;{rintro(⟨c,_,d⟩|⟨c,_,d⟩);{exact .inl ⟨c.1,zbu.1 c.2,d⟩};{exact .inr ⟨c.1,zbu.1 c.2,d⟩}};{rintro(⟨c,f,d⟩|⟨c,f,d⟩);{exact .inl ⟨⟨c,zbu.2 f⟩,List.mem_attach _ _,d⟩};{exact .inr ⟨⟨c,zbu.2 f⟩,List.mem_attach _ _,d⟩}}
theorem zd4 (a b i:Nat):hasR (sumC a b) i↔(∃e,hasR a e/\sumC e b=i)\/∃e,hasR b e/\sumC a e=i:=by rw[sumC,zak,y4,y6,y6];constructor;{rintro(⟨c,_,d⟩|⟨c,_,d⟩);{exact .inl ⟨c.1,zbh.1 c.2,d⟩};{exact .inr ⟨c.1,zbh.1 c.2,d⟩}};{rintro(⟨c,f,d⟩|⟨c,f,d⟩);{exact .inl ⟨⟨c,zbh.2 f⟩,List.mem_attach _ _,d⟩};{exact .inr ⟨⟨c,zbh.2 f⟩,List.mem_attach _ _,d⟩}}
theorem RowC.next {V:List PL}{L TL:List Nat}{x c j:Nat}(b:RowC V L (TL.take j))(e:TL[j]?=some c)(g:x<V.length)(d:(za0 V).getD x 0=c):RowC V (L ++ [x]) (TL.take (j+1)):=by obtain⟨f,a⟩:=xV.1 e;rw[yX f,a];exact b.snoc g d
theorem sum_comm' (n:Nat):∀e f,e+f<n->sumC e f=sumC f e:=by induction n with| zero=>{intro e f l;omega}| succ n i =>{intro e f m;have g:∀d,d<e->sumC d f=sumC f d:=λd j=>i d f (by omega);have h:∀d,d<f->sumC e d=sumC d e:=λd j=>i e d (by omega);refine zgu (λk=>?_) λk=>?_;{rw[zd5,zd5];constructor;{rintro(⟨b,a,c⟩|⟨b,a,c⟩);{exact .inr ⟨b,a,by rw[<-g b (za7 (.inl a))];exact c⟩};{exact .inl ⟨b,a,by rw[<-h b (za7 (.inl a))];exact c⟩}};{rintro(⟨b,a,c⟩|⟨b,a,c⟩);{exact .inr ⟨b,a,by rw[h b (za7 (.inl a))];exact c⟩};{exact .inl ⟨b,a,by rw[g b (za7 (.inl a))];exact c⟩}}};{rw[zd4,zd4];constructor;{rintro(⟨b,a,c⟩|⟨b,a,c⟩);{exact .inr ⟨b,a,by rw[<-g b (za7 (.inr a))];exact c⟩};{exact .inl ⟨b,a,by rw[<-h b (za7 (.inr a))];exact c⟩}};{rintro(⟨b,a,c⟩|⟨b,a,c⟩);{exact .inr ⟨b,a,by rw[h b (za7 (.inr a))];exact c⟩};{exact .inl ⟨b,a,by rw[g b (za7 (.inr a))];exact c⟩}}}}
theorem zix (a b:Nat):sumC a b=sumC b a:=sum_comm' _ a b (vK _)
