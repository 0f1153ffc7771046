/-
  Contracts of functions that the statement reaches, and plain laws: GcdP.
-/
import Derived.Test.YtbhplgdbfmifkaaGreatDoorI05
import Derived.Lib.TrailingZeros
set_option linter.unusedVariables false
set_option linter.unusedSimpArgs false
set_option maxHeartbeats 8000000
set_option maxRecDepth 100000
namespace Go.Proofs.YtbhplgdbfmifkaaGreatDoor
open Go.RowKit Sos
structure Sim (A B f t u1 u2 v1 v2 g:Int):Prop where
 hf:f=g*(u1*A-v1*B)
 ht:t=g*(v2*B-u2*A)
 hd:u1*v2-u2*v1=g
 hg:g=1∨g= -1
 ht0:0≤t
 htf:t≤f
 hu1:0≤u1
 hu2:0≤u2
 hv1:0≤v1
 hv2:1≤v2
 huv:u2≤v2
 hst:(v1=0∧u1=1∧u2=0∧v2=1)∨(u1≤v1∧1≤v1∧1≤u2)
theorem Sim.sum {A B f t u1 u2 v1 v2 g:Int} (h:Sim A B f t u1 u2 v1 v2 g):v2*f+v1*t=A:=by
 have h1:=h.hd;rcases h.hg with e|e<;>rw[h.hf,h.ht]<;>subst e<;>grind
theorem Sim.start {A B:Int} (h0:0≤B) (h:B≤A):Sim A B A B 1 0 0 1 1:=
 ⟨by omega,by omega,by decide,.inl rfl,h0,h,by decide,by decide,by decide,by decide,by decide,.inl ⟨rfl,rfl,rfl,rfl⟩⟩
structure Prev (A B u0 u1 v0 v1 g:Int):Prop where
 hd:u0*v1-u1*v0= -g
 hg:g=1∨g= -1
 hu0:0≤u0
 hu1:1≤u1
 hv0:1≤v0
 huv0:u0≤v0
 huv1:u1≤v1
 h1:v1≤g*(u1*A-v1*B)
 h0:v0+v1≤-g*(u0*A-v0*B)-g*(u1*A-v1*B)
theorem Sim.step {A B f t u1 u2 v1 v2 g q:Int} (h:Sim A B f t u1 u2 v1 v2 g) (hq:q=f/t) (c1:v2≤t) (c2:v1+v2≤f-t):
  Sim A B t (f%t) u2 (u1+q*u2) v2 (v1+q*v2) (-g)∧(v1=0∨Prev A B u1 u2 v1 v2 (-g))∧1≤q∧0≤q*u2∧0≤q*v2∧u1+q*u2≤v1+q*v2∧v1+q*v2≤A:=by
 have ht1:0<t:=by have:=h.hv2;omega
 have hq1:1≤q:=by rw[hq];exact Int.le_ediv_of_mul_le ht1 (by have:=h.htf;omega)
 have hm:f%t=f-q*t:=by rw[Int.emod_def,hq,Int.mul_comm t]
 have hqu:0≤q*u2:=Int.mul_nonneg (by omega) h.hu2;have hqv:0≤q*v2:=Int.mul_nonneg (by omega) (by have:=h.hv2;omega);have hquv:q*u2≤q*v2:=Int.mul_le_mul_of_nonneg_left h.huv (by omega);have hq2:1*v2≤q*v2:=Int.mul_le_mul_of_nonneg_right hq1 (by have:=h.hv2;omega);have huv':u1+q*u2≤v1+q*v2:=by
  rcases h.hst with ⟨e1,e2,e3,e4⟩|⟨e1,e2,e3⟩
  ·subst e1 e2 e3 e4;omega
  ·omega
 have hsim:Sim A B t (f%t) u2 (u1+q*u2) v2 (v1+q*v2) (-g):=by
  refine⟨?_,?_,?_,?_,Int.emod_nonneg _ (by omega),Int.le_of_lt (Int.emod_lt_of_pos _ ht1),h.hu2,by have:=h.hu1;omega,by have:=h.hv2;omega,by have:=h.hv1;have:=h.hv2;omega,huv',?_⟩
  ·have:=h.ht;rw[this];grind
  ·rw[hm];have e1:=h.hf;have e2:=h.ht;rw[e1,e2];grind
  ·have:=h.hd;grind
  ·have:=h.hg;omega
  ·refine .inr ⟨h.huv,h.hv2,?_⟩;rcases h.hst with ⟨e1,e2,e3,e4⟩|⟨e1,e2,e3⟩
   ·subst e2;omega
   ·have:1*u2≤q*u2:=Int.mul_le_mul_of_nonneg_right hq1 h.hu2;have:=h.hu1;omega
 refine⟨hsim,?_,hq1,hqu,hqv,huv',?_⟩
 ·rcases h.hst with ⟨e1,e2,e3,e4⟩|⟨e1,e2,e3⟩
  ·exact .inl e1
  ·refine .inr ⟨?_,?_,h.hu1,e3,e2,e1,h.huv,?_,?_⟩
   ·have:=h.hd;omega
   ·have:=h.hg;omega
   ·have:=h.ht;have e: -g*(u2*A-v2*B)=t:=by rw[this];grind
    omega
   ·have e0: - -g*(u1*A-v1*B)=f:=by rw[h.hf];grind
    have e: -g*(u2*A-v2*B)=t:=by rw[h.ht];grind
    omega
 ·have hs:=hsim.sum;have h3:(v1+q*v2)*1≤(v1+q*v2)*t:=Int.mul_le_mul_of_nonneg_left (by omega) (by have:=h.hv1;omega);have h4:0≤v2*(f%t):=Int.mul_nonneg (by have:=h.hv2;omega) hsim.ht0;omega
theorem Sim.room {A B f t u1 u2 v1 v2 g:Int} (h:Sim A B f t u1 u2 v1 v2 g):(v2≤t→v1+v2≤A)∧v1≤v2*f+v1*t+v1:=by
 refine⟨fun c=> ?_,?_⟩
 ·have hs:=h.sum;have h1:v2*1≤v2*f:=Int.mul_le_mul_of_nonneg_left (by have:=h.hv2;have:=h.htf;omega) (by have:=h.hv2;omega);have h2:v1*1≤v1*t:=Int.mul_le_mul_of_nonneg_left (by have:=h.hv2;omega) h.hv1;omega
 ·have h1:0≤v2*f:=Int.mul_nonneg (by have:=h.hv2;omega) (by have:=h.ht0;have:=h.htf;omega);have h2:0≤v1*t:=Int.mul_nonneg h.hv1 h.ht0;omega
structure Leh (a b u0 u1 v0 v1:Nat) (odd:Bool) (na nb:Nat):Prop where
 hle:nb≤na
 ha:a=v1*na+v0*nb
 hb:b=u1*na+u0*nb
 h0:1≤v0
 h1:1≤v1
 h2:1≤u1
 hna:(na:Int)=(if odd then -1 else 1)*((v0:Int)*b-u0*a)
 hnb:(nb:Int)=(if odd then -1 else 1)*((u1:Int)*a-v1*b)
theorem Leh.small {a b u0 u1 v0 v1 na nb:Nat} {odd:Bool} (h:Leh a b u0 u1 v0 v1 odd na nb):na+nb≤a∧na≤b:=by
 have h1:1*na≤v1*na:=Nat.mul_le_mul_right _ h.h1;have h2:1*nb≤v0*nb:=Nat.mul_le_mul_right _ h.h0;have h3:1*na≤u1*na:=Nat.mul_le_mul_right _ h.h2;have:=h.ha;have:=h.hb;omega
theorem Leh.gcd {a b u0 u1 v0 v1 na nb:Nat} {odd:Bool} (h:Leh a b u0 u1 v0 v1 odd na nb):Nat.gcd a b=Nat.gcd na nb:=by
 refine Nat.dvd_antisymm ?_ ?_
 ·have d1:=Nat.gcd_dvd_left a b;have d2:=Nat.gcd_dvd_right a b;have i1:((Nat.gcd a b:Nat):Int)∣(a:Int):=Int.natCast_dvd_natCast.2 d1;have i2:((Nat.gcd a b:Nat):Int)∣(b:Int):=Int.natCast_dvd_natCast.2 d2;refine Nat.dvd_gcd (Int.natCast_dvd_natCast.1 ?_) (Int.natCast_dvd_natCast.1 ?_)
  ·rw[h.hna];exact Int.dvd_mul_of_dvd_right (Int.dvd_sub (Int.dvd_mul_of_dvd_right i2) (Int.dvd_mul_of_dvd_right i1))
  ·rw[h.hnb];exact Int.dvd_mul_of_dvd_right (Int.dvd_sub (Int.dvd_mul_of_dvd_right i1) (Int.dvd_mul_of_dvd_right i2))
 ·have d1:=Nat.gcd_dvd_left na nb;have d2:=Nat.gcd_dvd_right na nb;refine Nat.dvd_gcd ?_ ?_
  ·have e:=h.ha;have:Nat.gcd na nb∣v1*na+v0*nb:=Nat.dvd_add (Nat.dvd_mul_left_of_dvd d1 _) (Nat.dvd_mul_left_of_dvd d2 _);rwa [←e] at this
  ·have e:=h.hb;have:Nat.gcd na nb∣u1*na+u0*nb:=Nat.dvd_add (Nat.dvd_mul_left_of_dvd d1 _) (Nat.dvd_mul_left_of_dvd d2 _);rwa [←e] at this
theorem BT {u v a b P:Int} (hu0:0≤u) (huv:u≤v) (ha0:0≤a) (ha:a<P) (hb0:0≤b) (hb:b<P):u*a-v*b≤v*P-v∧v*b-u*a≤v*P-v:=by
 have h1:u*a≤v*(P-1):=Int.mul_le_mul huv (by omega) ha0 (by omega);have h2:v*b≤v*(P-1):=Int.mul_le_mul_of_nonneg_left (by omega) (by omega);have h3:0≤u*a:=Int.mul_nonneg hu0 ha0;have h4:0≤v*b:=Int.mul_nonneg (by omega) hb0;rw[Int.mul_sub,Int.mul_one] at h1 h2;omega
theorem JS {u0 u1 v0 v1 A B P a' b':Nat} {odd:Bool} (h:Prev A B u0 u1 v0 v1 (if odd then -1 else 1)) (ha:a'<P) (hb:b'<P):
  ∃na nb,Leh (A*P+a') (B*P+b') u0 u1 v0 v1 odd na nb:=by
 obtain⟨g,hge⟩:∃g:Int,g=if odd then -1 else 1:=⟨_,rfl⟩;rw[←hge] at h;obtain⟨a,hae⟩:∃a:Int,a=A*P+a':=⟨_,rfl⟩;obtain⟨b,hbe⟩:∃b:Int,b=B*P+b':=⟨_,rfl⟩;have hP:(0:Int)<P:=by omega
 have k1:=BT (u:=u1) (v:=v1) (a:=a') (b:=b') (P:=P) (by omega) h.huv1 (by omega) (by omega) (by omega) (by omega);have k0:=BT (u:=u0) (v:=v0) (a:=a') (b:=b') (P:=P) (by omega) h.huv0 (by omega) (by omega) (by omega) (by omega);have hv1:(1:Int)≤v1:=by have:=h.hu1;have:=h.huv1;omega
 have hv0:=h.hv0;obtain⟨R0,hR0⟩:∃R0:Int,R0=g*(v0*b-u0*a):=⟨_,rfl⟩;obtain⟨R1,hR1⟩:∃R1:Int,R1=g*(u1*a-v1*b):=⟨_,rfl⟩;obtain⟨r0,hr0⟩:∃r0:Int,r0=g*(v0*B-u0*A):=⟨_,rfl⟩;obtain⟨r1,hr1⟩:∃r1:Int,r1=g*(u1*A-v1*B):=⟨_,rfl⟩;have e0:R0=r0*P+g*(v0*b'-u0*a'):=by rw[hR0,hr0,hae,hbe];grind
 have e1:R1=r1*P+g*(u1*a'-v1*b'):=by rw[hR1,hr1,hae,hbe];grind
 have c1:(v1:Int)≤r1:=by have:=h.h1;rw[←hr1] at this;exact this
 have c0:(v0:Int)+v1≤r0-r1:=by
  have:=h.h0;have e: -g*((u0:Int)*A-v0*B)=r0:=by rw[hr0];grind
  rw[e,←hr1] at this;exact this
 have p1:(v1:Int)*P≤r1*P:=Int.mul_le_mul_of_nonneg_right c1 (by omega);have p0:((v0:Int)+v1)*P≤(r0-r1)*P:=Int.mul_le_mul_of_nonneg_right c0 (by omega);rw[Int.add_mul,Int.sub_mul] at p0;have g1:0≤R1:=by
  rcases h.hg with e|e<;>subst e<;>omega
 have g0:R1≤R0:=by
  rcases h.hg with e|e<;>subst e<;>omega
 have hd:=h.hd;refine⟨R0.toNat,R1.toNat,?_,?_,?_,by omega,by omega,by have:=h.hu1;omega,?_,?_⟩
 ·omega
 ·have:((A*P+a':Nat):Int)=((v1*R0.toNat+v0*R1.toNat:Nat):Int):=by
   push_cast;rw[Int.toNat_of_nonneg (by omega),Int.toNat_of_nonneg g1,←hae,hR0,hR1];rcases h.hg with e|e<;>subst e<;>grind
  exact Int.ofNat.inj this
 ·have:((B*P+b':Nat):Int)=((u1*R0.toNat+u0*R1.toNat:Nat):Int):=by
   push_cast;rw[Int.toNat_of_nonneg (by omega),Int.toNat_of_nonneg g1,←hbe,hR0,hR1];rcases h.hg with e|e<;>subst e<;>grind
  exact Int.ofNat.inj this
 ·rw[Int.toNat_of_nonneg (by omega),hR0,hge];push_cast;rw[hae,hbe]
 ·rw[Int.toNat_of_nonneg (by omega),hR1,hge];push_cast;rw[hae,hbe]
/-! The binary method -/
theorem JT {x:Nat} (hx:x%2=1):Nat.Coprime 2 x:=by
 show Nat.gcd 2 x=1
 rw[Nat.gcd_rec,hx];rfl
theorem sE {x y:Nat} (hx:x%2=1) (k:Nat):Nat.gcd x (2^k*y)=Nat.gcd x y:=
 Nat.Coprime.gcd_mul_left_cancel_right y (Nat.Coprime.pow_left k (JT hx))
def Tz (x k:Nat):Prop:=∃m,x=2^k*(2*m+1)
theorem sF {x:Nat} (h0:x≠0) (h:x<BN):Tz x (Lib.ctz 64 x)∧Lib.ctz 64 x<64:=by
 unfold Lib.ctz;rw[if_neg h0];obtain⟨m,hm,hk⟩:=Lib.ctzFrom_spec 64 x (by omega) h;exact⟨⟨m,hm⟩,hk⟩
theorem Tz.bits {x k:Nat} (h:Tz x k):x.testBit k=true∧∀t,t<k→x.testBit t=false:=by
 obtain⟨m,rfl⟩:=h;refine⟨?_,fun t ht=> ?_⟩
 ·rw[Nat.testBit_two_pow_mul];simp[Nat.testBit_zero]
 ·rw[Nat.testBit_two_pow_mul];simp;omega
theorem Tz.or {x y z i j k:Nat} (hx:Tz x i) (hy:Tz y j) (hz:Tz z k) (h:z=x ||| y):k=min i j:=by
 obtain⟨x1,x2⟩:=hx.bits;obtain⟨y1,y2⟩:=hy.bits;obtain⟨z1,z2⟩:=hz.bits;have hb:∀t,z.testBit t=(x.testBit t||y.testBit t):=fun t=>by rw[h,Nat.testBit_or]
 rcases Nat.lt_trichotomy k (min i j) with hl|hl|hl
 ·have:=hb k;rw[z1,x2 k (by omega),y2 k (by omega)] at this;simp at this
 ·exact hl
 ·rcases Nat.le_total i j with hij|hij
  ·have:=hb i;rw[z2 i (by omega),x1] at this;simp at this
  ·have:=hb j;rw[z2 j (by omega),y1] at this;simp at this
theorem Tz.gcd {x y i j a:Nat} (hy:Tz y j) (hx:x=2^i*a) (ha:a%2=1):2^min i j*Nat.gcd a y=Nat.gcd x y:=by
 obtain⟨n,rfl⟩:=hy;rw[sE ha];subst hx;rcases Nat.le_total i j with h|h
 ·obtain⟨d,rfl⟩:∃d,j=i+d:=⟨j-i,by omega⟩;rw[Nat.min_eq_left h,Nat.pow_add,Nat.mul_assoc,Nat.gcd_mul_left,sE ha]
 ·obtain⟨d,rfl⟩:∃d,i=j+d:=⟨i-j,by omega⟩;rw[Nat.min_eq_right h,Nat.pow_add,Nat.mul_assoc,Nat.gcd_mul_left,Nat.gcd_comm (2^d*a),sE (by omega),Nat.gcd_comm]
end Go.Proofs.YtbhplgdbfmifkaaGreatDoor
