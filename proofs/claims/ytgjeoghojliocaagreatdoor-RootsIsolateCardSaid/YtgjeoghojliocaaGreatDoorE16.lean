/- Laws. -/
import Derived.Test.YtgjeoghojliocaaGreatDoorE14
import Derived.Test.YtgjeoghojliocaaGreatDoorE15
set_option linter.all false
set_option maxHeartbeats 8000000
set_option maxRecDepth 99999
namespace Go.Proofs.YtgjeoghojliocaaGreatDoor
open Sos
def BR(x y:Rat)(h:Nat.gcd x.den y.den=1):(x+y).num=x.num*y.den+y.num*x.den∧(x+y).den=x.den*y.den:=by
 show(Rat.add x y).num=_∧(Rat.add x y).den=_
 unfold Rat.add;simp[h]
def UB(x y:Rat)(g:Nat)(b:Nat.gcd x.den y.den=g)(a:g≠1)(n:Int)(hn:n=x.num*((y.den/g:Nat):Int)+y.num*((x.den/g:Nat):Int)):
  (x+y).num=n/((Nat.gcd n.natAbs g:Nat):Int)∧(x+y).den=x.den/g*y.den/Nat.gcd n.natAbs g:=by
 subst b;subst hn;show(Rat.add x y).num=_∧(Rat.add x y).den=_
 unfold Rat.add;simp[a]
def IU(a b:Nat):(a:Int).tdiv (b:Int)=((a/b:Nat):Int):=by
 rw[Int.tdiv_eq_ediv_of_nonneg (by omega)];exact(Int.natCast_ediv a b).symm
def BS(x y:Rat)(g r:Nat)(l t n:Int)(h:g=Nat.gcd x.den y.den)(b:l=(y.den:Int).tdiv g)(a:t=(x.den:Int).tdiv g)(hn:n=x.num*l+y.num*t)(f:r=Nat.gcd n.natAbs g):
  (x+y).num=n.tdiv r∧(((x+y).den:Nat):Int)=t*(y.den:Int).tdiv r:=by
 have p:=x.den_nz;have q:=y.den_nz;have k:r∣g:=f ▸ Nat.gcd_dvd_right _ _;have i:g∣y.den:=h ▸ Nat.gcd_dvd_right _ _;have m:(r:Int)∣n:=Int.ofNat_dvd_left.2 (f ▸ Nat.gcd_dvd_left _ _);have o:r∣y.den:=Nat.dvd_trans k i;rw[IU] at b a;rw[IU];by_cases e:g=1
 ·obtain⟨c,d⟩:=BR x y (h ▸ e);have j:r=1:=by rw[f,e];simp
  rw[e] at b a;simp only[Nat.div_one] at b a;rw[c,d,j,hn,b,a];simp
 ·obtain⟨c,d⟩:=UB x y g h.symm e n (by rw[hn,b,a]);rw[<-f] at c d;rw[c,d,a,Int.tdiv_eq_ediv_of_dvd m];refine⟨rfl,?_⟩;rw[Nat.mul_div_assoc _ o];simp
def UC{x y:Rat}{g:Nat}{l t n:Int}(b:g=Nat.gcd x.den y.den)(c:l=(y.den:Int).tdiv g)(d:t=(x.den:Int).tdiv g)(hn:n=x.num*l+y.num*t)(a:n=0):x+y=0:=by
 have:=(BS x y g _ l t n b c d hn rfl).1;rw[a] at this;exact Rat.num_eq_zero.1 (by rw[this];simp)
def BT{x y:Rat}(h:x.den=1):(x+y).num=x.num*y.den+y.num∧(x+y).den=y.den:=by
 obtain⟨a,b⟩:=BR x y (by rw[h];simp);rw[a,b,h];simp
def UD{x y:Rat}(h:y.den=1):(x+y).num=y.num*x.den+x.num∧(x+y).den=x.den:=by
 obtain⟨a,b⟩:=BR x y (by rw[h];simp);rw[a,b,h];simp;omega
def wW{x y:Rat}{K:Nat}(e:RL K x)(f:RL K y):RL (2*K+1) (x+y):=by
 obtain⟨c,d⟩:=BS x y _ _ _ _ _ rfl rfl rfl rfl rfl;obtain⟨j,k⟩:=e;obtain⟨l,b⟩:=f;have g:=jN (y.den:Int) (Nat.gcd x.den y.den:Int) K b;have a:=jN (x.den:Int) (Nat.gcd x.den y.den:Int) K k;have i:=wX _ _ _ (gT _ _ _ _ j g) (gT _ _ _ _ l a);refine⟨?_,?_⟩
 ·rw[c];exact jN _ _ _ (aH i (by omega))
 ·have h:nl (((x+y).den:Nat):Int).natAbs<=K+K:=by
   rw[d];exact gT _ _ _ _ a (jN _ _ _ b)
  exact aH h (by omega)
