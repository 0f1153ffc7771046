/- Laws. -/
import Derived.Test.YtjgbleapffgbcaaGreatDoorW21
set_option linter.all false
set_option maxHeartbeats 8000000
set_option maxRecDepth 99999
namespace Go.Proofs.YtjgbleapffgbcaaGreatDoor
open Go.RowKit Sos
variable{w:World}{u v:Value}
def NatAt.unique{a b:Nat}(m:NatAt w u a)(n:NatAt w u b):a=b:=by
 obtain⟨A,c,rfl,_,r,_⟩:=m;obtain⟨t,v,e,_,s,_⟩:=n;simp only[Value.slice.injEq] at e;obtain⟨rfl,x,_⟩:=e;have q:dg a=dg b:=by
  refine aq6 (fun i=> ?_);by_cases f:i<nl a
  ·have j:i<nl b:=by omega
   rcases r with h|⟨g,z,rfl,_,o⟩
   ·rw[<-aK,h] at f;simp at f
   ·rcases s with h|⟨y,B,l,_,p⟩
    ·rw[<-aK,h] at j;simp at j
    ·simp only[Option.some.injEq,Addr.mk.injEq] at l;obtain⟨rfl,rfl,_⟩:=l;have k:=o i (by rw[aK];exact f);have d:=p i (by rw[aK];exact j);rw[k] at d;simp only[Option.some.injEq,Value.int.injEq,true_and] at d;rw[aR (by rw[aK];exact f),aR (by rw[aK];exact j)];rw[eE,eE,aR (by rw[aK];exact f),aR (by rw[aK];exact j)] at d;exact congrArg some d
  ·rw[fU (by rw[aK];omega),fU (by rw[aK];omega)]
 have k:=cU a;have d:=cU b;rw[q,d] at k;omega
def IntAt.unique{x y:Int}(c:IntAt w v x)(d:IntAt w v y):x=y:=by
 obtain⟨u,rfl,a⟩:=c;obtain⟨g,e,b⟩:=d;simp at e;obtain⟨f,rfl⟩:=e;have:=a.unique b;omega
def WholeAt.off{A:Option Addr}{l c g:Nat}{x m:Int}{ns:List Int}(h:WholeAt w (.slice A l c) (x :: ns))(q:IntBx w g m)(t:x≠m):∀b,A=some ⟨b,0,none⟩->b≠g:=fun b e p=>by
 subst p;obtain⟨v,s,B,z,d,j,_,k,o,hi⟩:=h.at_ (i:=0) (n:=x) rfl;rw[e] at j;simp only[Option.some.injEq,Addr.mk.injEq] at j;obtain⟨rfl,_⟩:=j;obtain⟨D,u,y,c',C,r⟩:=q;have a:=C.cell 0 rfl;have f:=C.cell 1 rfl;rw[azW] at k o;rw[k] at a;rw[o] at f;injection a with a;injection f with f;rw[a,f] at hi;exact t (hi.unique r)
