/-
  Contracts, laws: GcdP.
-/
import Derived.Test.YthfnenohhindpaaGreatDoorC07
import Derived.Lib.TrailingZeros
set_option linter.all false
set_option maxHeartbeats 8000000
set_option maxRecDepth 100000
namespace Go.Proofs.YthfnenohhindpaaGreatDoor
open Go.RowKit Sos
structure Sim (A B f t u1 u2 v1 v2 g:Int):Prop where
 hf:f=g*(u1*A-v1*B)
 ht:t=g*(v2*B-u2*A)
 hd:u1*v2-u2*v1=g
 hg:g=1∨g= -1
 ht0:0<=t
 htf:t<=f
 hu1:0<=u1
 hu2:0<=u2
 hv1:0<=v1
 hv2:1<=v2
 huv:u2<=v2
 hst:(v1=0∧u1=1∧u2=0∧v2=1)∨(u1<=v1∧1<=v1∧1<=u2)
theorem Sim.sum {A B f t u1 u2 a b g:Int} (h:Sim A B f t u1 u2 a b g):b*f+a*t=A:=by
 have c:=h.hd;rcases h.hg with e|e<;>rw[h.hf,h.ht]<;>subst e<;>grind
theorem Sim.start {A B:Int} (a:0<=B) (h:B<=A):Sim A B A B 1 0 0 1 1:=
 ⟨by omega,by omega,by decide,.inl rfl,a,h,by decide,by decide,by decide,by decide,by decide,.inl ⟨rfl,rfl,rfl,rfl⟩⟩
structure Prev (A B u0 u1 v0 v1 g:Int):Prop where
 hd:u0*v1-u1*v0= -g
 hg:g=1∨g= -1
 hu0:0<=u0
 hu1:1<=u1
 hv0:1<=v0
 huv0:u0<=v0
 huv1:u1<=v1
 h1:v1<=g*(u1*A-v1*B)
 h0:v0+v1<=-g*(u0*A-v0*B)-g*(u1*A-v1*B)
theorem Sim.step {A B f t u1 u2 b a g q:Int} (h:Sim A B f t u1 u2 b a g) (m:q=f/t) (u:a<=t) (v:b+a<=f-t):
  Sim A B t (f%t) u2 (u1+q*u2) a (b+q*a) (-g)∧(b=0∨Prev A B u1 u2 b a (-g))∧1<=q∧0<=q*u2∧0<=q*a∧u1+q*u2<=b+q*a∧b+q*a<=A:=by
 have n:0<t:=by have:=h.hv2;omega
 have k:1<=q:=by rw[m];exact Int.le_ediv_of_mul_le n (by have:=h.htf;omega)
 have p:f%t=f-q*t:=by rw[Int.emod_def,m,Int.mul_comm t]
 have r:0<=q*u2:=Int.mul_nonneg (by omega) h.hu2;have s:0<=q*a:=Int.mul_nonneg (by omega) (by have:=h.hv2;omega);have C:q*u2<=q*a:=eZ h.huv (by omega);have z:1*a<=q*a:=dG k (by have:=h.hv2;omega);have o:u1+q*u2<=b+q*a:=by
  rcases h.hst with ⟨c,d,i,j⟩|⟨c,d,i⟩
  ·subst c d i j;omega
  ·omega
 have l:Sim A B t (f%t) u2 (u1+q*u2) a (b+q*a) (-g):=by
  refine⟨?_,?_,?_,?_,Int.emod_nonneg _ (by omega),Int.le_of_lt (Int.emod_lt_of_pos _ n),h.hu2,by have:=h.hu1;omega,by have:=h.hv2;omega,by have:=h.hv1;have:=h.hv2;omega,o,?_⟩
  ·have:=h.ht;rw[this];grind
  ·rw[p];have c:=h.hf;have d:=h.ht;rw[c,d];grind
  ·have:=h.hd;grind
  ·have:=h.hg;omega
  ·refine .inr ⟨h.huv,h.hv2,?_⟩;rcases h.hst with ⟨c,d,i,j⟩|⟨c,d,i⟩
   ·subst d;omega
   ·have:1*u2<=q*u2:=dG k h.hu2;have:=h.hu1;omega
 refine⟨l,?_,k,r,s,o,?_⟩
 ·rcases h.hst with ⟨c,d,i,j⟩|⟨c,d,i⟩
  ·exact .inl c
  ·refine .inr ⟨?_,?_,h.hu1,i,d,c,h.huv,?_,?_⟩
   ·have:=h.hd;omega
   ·have:=h.hg;omega
   ·have:=h.ht;have e: -g*(u2*A-a*B)=t:=by rw[this];grind
    omega
   ·have w: - -g*(u1*A-b*B)=f:=by rw[h.hf];grind
    have e: -g*(u2*A-a*B)=t:=by rw[h.ht];grind
    omega
 ·have D:=l.sum;have x:(b+q*a)*1<=(b+q*a)*t:=eZ (by omega) (by have:=h.hv1;omega);have y:0<=a*(f%t):=Int.mul_nonneg (by have:=h.hv2;omega) l.ht0;omega
theorem Sim.room {A B f t u1 u2 a b g:Int} (h:Sim A B f t u1 u2 a b g):(b<=t->a+b<=A)∧a<=b*f+a*t+a:=by
 refine⟨fun c=> ?_,?_⟩
 ·have i:=h.sum;have d:b*1<=b*f:=eZ (by have:=h.hv2;have:=h.htf;omega) (by have:=h.hv2;omega);have e:a*1<=a*t:=eZ (by have:=h.hv2;omega) h.hv1;omega
 ·have d:0<=b*f:=Int.mul_nonneg (by have:=h.hv2;omega) (by have:=h.ht0;have:=h.htf;omega);have e:0<=a*t:=Int.mul_nonneg h.hv1 h.ht0;omega
structure Leh (a b u0 u1 v0 v1:Nat) (odd:Bool) (na nb:Nat):Prop where
 hle:nb<=na
 ha:a=v1*na+v0*nb
 hb:b=u1*na+u0*nb
 h0:1<=v0
 h1:1<=v1
 h2:1<=u1
 hna:(na:Int)=(if odd then -1 else 1)*((v0:Int)*b-u0*a)
 hnb:(nb:Int)=(if odd then -1 else 1)*((u1:Int)*a-v1*b)
theorem Leh.small {a b u0 u1 e f c d:Nat} {g:Bool} (h:Leh a b u0 u1 e f g c d):c+d<=a∧c<=b:=by
 have i:1*c<=f*c:=cZ _ h.h1;have j:1*d<=e*d:=cZ _ h.h0;have k:1*c<=u1*c:=cZ _ h.h2;have:=h.ha;have:=h.hb;omega
theorem Leh.gcd {a b u0 u1 k l c d:Nat} {m:Bool} (h:Leh a b u0 u1 k l m c d):Nat.gcd a b=Nat.gcd c d:=by
 refine Nat.dvd_antisymm ?_ ?_
 ·have f:=Nat.gcd_dvd_left a b;have g:=Nat.gcd_dvd_right a b;have i:((Nat.gcd a b:Nat):Int)∣(a:Int):=Int.natCast_dvd_natCast.2 f;have j:((Nat.gcd a b:Nat):Int)∣(b:Int):=Int.natCast_dvd_natCast.2 g;refine Nat.dvd_gcd (Int.natCast_dvd_natCast.1 ?_) (Int.natCast_dvd_natCast.1 ?_)
  ·rw[h.hna];exact Int.dvd_mul_of_dvd_right (Int.dvd_sub (Int.dvd_mul_of_dvd_right j) (Int.dvd_mul_of_dvd_right i))
  ·rw[h.hnb];exact Int.dvd_mul_of_dvd_right (Int.dvd_sub (Int.dvd_mul_of_dvd_right i) (Int.dvd_mul_of_dvd_right j))
 ·have f:=Nat.gcd_dvd_left c d;have g:=Nat.gcd_dvd_right c d;refine Nat.dvd_gcd ?_ ?_
  ·have e:=h.ha;have:Nat.gcd c d∣l*c+k*d:=Nat.dvd_add (Nat.dvd_mul_left_of_dvd f _) (Nat.dvd_mul_left_of_dvd g _);rwa [<-e] at this
  ·have e:=h.hb;have:Nat.gcd c d∣u1*c+u0*d:=Nat.dvd_add (Nat.dvd_mul_left_of_dvd f _) (Nat.dvd_mul_left_of_dvd g _);rwa [<-e] at this
theorem BT {u v a b P:Int} (g:0<=u) (h:u<=v) (c:0<=a) (k:a<P) (f:0<=b) (l:b<P):u*a-v*b<=v*P-v∧v*b-u*a<=v*P-v:=by
 have d:u*a<=v*(P-1):=Int.mul_le_mul h (by omega) c (by omega);have e:v*b<=v*(P-1):=eZ (by omega) (by omega);have i:0<=u*a:=Int.mul_nonneg g c;have j:0<=v*b:=Int.mul_nonneg (by omega) f;rw[Int.mul_sub,Int.mul_one] at d e;omega
theorem KA {u0 u1 d c A B P i j:Nat} {t:Bool} (h:Prev A B u0 u1 d c (if t then -1 else 1)) (J:i<P) (K:j<P):
  ∃C D,Leh (A*P+i) (B*P+j) u0 u1 d c t C D:=by
 obtain⟨g,r⟩:∃g:Int,g=if t then -1 else 1:=⟨_,rfl⟩;rw[<-r] at h;obtain⟨a,n⟩:∃a:Int,a=A*P+i:=⟨_,rfl⟩;obtain⟨b,o⟩:∃b:Int,b=B*P+j:=⟨_,rfl⟩;have I:(0:Int)<P:=by omega
 have Q:=BT (u:=u1) (v:=c) (a:=i) (b:=j) (P:=P) (by omega) h.huv1 (by omega) (by omega) (by omega) (by omega);have O:=BT (u:=u0) (v:=d) (a:=i) (b:=j) (P:=P) (by omega) h.huv0 (by omega) (by omega) (by omega) (by omega);have N:(1:Int)<=c:=by have:=h.hu1;have:=h.huv1;omega
 have M:=h.hv0;obtain⟨k,p⟩:∃k:Int,k=g*(d*b-u0*a):=⟨_,rfl⟩;obtain⟨f,q⟩:∃f:Int,f=g*(u1*a-c*b):=⟨_,rfl⟩;obtain⟨m,x⟩:∃m:Int,m=g*(d*B-u0*A):=⟨_,rfl⟩;obtain⟨l,s⟩:∃l:Int,l=g*(u1*A-c*B):=⟨_,rfl⟩;have F:k=m*P+g*(d*j-u0*i):=by rw[p,x,n,o];grind
 have G:f=l*P+g*(u1*i-c*j):=by rw[q,s,n,o];grind
 have z:(c:Int)<=l:=by have:=h.h1;rw[<-s] at this;exact this
 have y:(d:Int)+c<=m-l:=by
  have:=h.h0;have e: -g*((u0:Int)*A-d*B)=m:=by rw[x];grind
  rw[e,<-s] at this;exact this
 have R:(c:Int)*P<=l*P:=dG z (by omega);have E:((d:Int)+c)*P<=(m-l)*P:=dG y (by omega);rw[Int.add_mul,Int.sub_mul] at E;have w:0<=f:=by
  rcases h.hg with e|e<;>subst e<;>omega
 have H:f<=k:=by
  rcases h.hg with e|e<;>subst e<;>omega
 have L:=h.hd;refine⟨k.toNat,f.toNat,?_,?_,?_,by omega,by omega,by have:=h.hu1;omega,?_,?_⟩
 ·omega
 ·have:((A*P+i:Nat):Int)=((c*k.toNat+d*f.toNat:Nat):Int):=by
   push_cast;rw[Int.toNat_of_nonneg (by omega),Int.toNat_of_nonneg w,<-n,p,q];rcases h.hg with e|e<;>subst e<;>grind
  exact Int.ofNat.inj this
 ·have:((B*P+j:Nat):Int)=((u1*k.toNat+u0*f.toNat:Nat):Int):=by
   push_cast;rw[Int.toNat_of_nonneg (by omega),Int.toNat_of_nonneg w,<-o,p,q];rcases h.hg with e|e<;>subst e<;>grind
  exact Int.ofNat.inj this
 ·rw[Int.toNat_of_nonneg (by omega),p,r];push_cast;rw[n,o]
 ·rw[Int.toNat_of_nonneg (by omega),q,r];push_cast;rw[n,o]
/-! The binary method -/
theorem KC {x:Nat} (a:x%2=1):Nat.Coprime 2 x:=by
 show Nat.gcd 2 x=1
 rw[Nat.gcd_rec,a];rfl
theorem sF {x y:Nat} (a:x%2=1) (k:Nat):Nat.gcd x (2^k*y)=Nat.gcd x y:=
 Nat.Coprime.gcd_mul_left_cancel_right y (Nat.Coprime.pow_left k (KC a))
def Tz (x k:Nat):Prop:=∃m,x=2^k*(2*m+1)
theorem sG {x:Nat} (a:x≠0) (h:x<BN):Tz x (Lib.ctz 64 x)∧Lib.ctz 64 x<64:=by
 unfold Lib.ctz;rw[if_neg a];obtain⟨m,c,b⟩:=Lib.ctzFrom_spec 64 x (by omega) h;exact⟨⟨m,c⟩,b⟩
theorem Tz.bits {x k:Nat} (h:Tz x k):x.testBit k=true∧∀t,t<k->x.testBit t=false:=by
 obtain⟨m,rfl⟩:=h;refine⟨?_,fun t a=> ?_⟩
 ·rw[Nat.testBit_two_pow_mul];simp[Nat.testBit_zero]
 ·rw[Nat.testBit_two_pow_mul];simp;omega
theorem Tz.or {x y z i j k:Nat} (e:Tz x i) (f:Tz y j) (g:Tz z k) (h:z=x ||| y):k=min i j:=by
 obtain⟨l,m⟩:=e.bits;obtain⟨n,o⟩:=f.bits;obtain⟨p,c⟩:=g.bits;have a:∀t,z.testBit t=(x.testBit t||y.testBit t):=fun t=>by rw[h,Nat.testBit_or]
 rcases Nat.lt_trichotomy k (min i j) with b|b|b
 ·have:=a k;rw[p,m k (by omega),o k (by omega)] at this;simp at this
 ·exact b
 ·rcases Nat.le_total i j with d|d
  ·have:=a i;rw[c i (by omega),l] at this;simp at this
  ·have:=a j;rw[c j (by omega),n] at this;simp at this
theorem Tz.gcd {x y i j a:Nat} (e:Tz y j) (c:x=2^i*a) (b:a%2=1):2^min i j*Nat.gcd a y=Nat.gcd x y:=by
 obtain⟨n,rfl⟩:=e;rw[sF b];subst c;rcases Nat.le_total i j with h|h
 ·obtain⟨d,rfl⟩:∃d,j=i+d:=⟨j-i,by omega⟩;rw[Nat.min_eq_left h,Nat.pow_add,Nat.mul_assoc,Nat.gcd_mul_left,sF b]
 ·obtain⟨d,rfl⟩:∃d,i=j+d:=⟨i-j,by omega⟩;rw[Nat.min_eq_right h,Nat.pow_add,Nat.mul_assoc,Nat.gcd_mul_left,Nat.gcd_comm (2^d*a),sF (by omega),Nat.gcd_comm]
