/-
  Contracts, laws: Div64, DivA, EstP, EstA, DivS, DivT.
-/
import Derived.Test.YthfnenohhindpaaGreatDoorC11
import Derived.Deep.CutBlock
set_option linter.all false
set_option maxHeartbeats 8000000
set_option maxRecDepth 100000
namespace Go.Proofs.YthfnenohhindpaaGreatDoor
open Go.RowKit Sos
theorem oW (y:Int) (s:Nat) (c:0<y) (a:y<aA) (b:Lib.bitLen y.toNat+s=64) (w:World):
  Calls Tryz.prog 224 #[.int .u64 y] w fun e w'=>e= .returned (.int .i64 s)∧w=w':=by
 refine(Tryz.bits_LeadingZeros64 y w (by omega) (by unfold aA at a;omega)).mono fun e w' h=>⟨?_,h.2.symm⟩;rw[h.1];congr 2;omega
theorem CU {z y:Int} {sh:Nat} (h:sh<=64) (c:0<=z) (g:z<2^sh) (b:0<=y) (a:y<aA) (f:∃q,y=2^sh*q):bits .or .u64 y z=y+z:=by
 rw[Int.add_comm,<-wI h c g b a f];have d:(2:Int)^sh<=aA:=by
  have e:=kM h;have j:=dM (64-sh);have i:=dM sh;have:(2:Int)^sh*1<=2^sh*2^(64-sh):=eZ (by omega) (by omega);omega
 rw[u64_or y z b (by unfold aA at a;omega) c (by unfold aA at d;omega),u64_or z y c (by unfold aA at d;omega) b (by unfold aA at a;omega),Nat.or_comm]
theorem wO (Y:Int) (a:0<=Y) (b:Y<aA):bits .and .u64 Y 4294967295=Y%4294967296:=by
 rw[u64_and Y 4294967295 a (by unfold aA at b;omega) (by decide) (by decide)];obtain⟨n,rfl⟩:=Int.eq_ofNat_of_zero_le a;rw[Int.toNat_natCast,show(4294967295:Int).toNat=2^32-1 from rfl,Nat.and_two_pow_sub_one_eq_mod];rfl
theorem sW (hi lo y:Int) (h0:0<=hi) (N:hi<y) (al:0<=lo) (az:lo<aA) (hy:y<aA) (w:World):
  Calls Tryz.prog 229 #[.int .u64 hi,.int .u64 lo,.int .u64 y] w fun e w'=>∃q r,e= .returned (.tuple #[.int .u64 q,.int .u64 r])∧0<=q∧q<aA∧0<=r∧r<y∧q*y+r=hi*aA+lo∧∃m,w'=w.drewN m:=by
 have k0:(y==0)=false:=by simp;omega
 have k1:¬y<=hi:=by omega
 have k2:1<=y:=by omega
 by_cases hz:hi=0
 ·subst hz;unfold aA at az hy;go_enter Tryz.func229,Tryz.ntmps229;go_wp2;go_quiet (fail);go_wp2;go_ret2;refine⟨lo/y,lo%y,rfl,Int.ediv_nonneg al (by omega),?_,Int.emod_nonneg _ (by omega),Int.emod_lt_of_pos _ (by omega),?_,_,rfl⟩
  ·have:=Int.ediv_le_self y al;unfold aA;omega
  ·have:=Int.emod_add_mul_ediv lo y;rw[Int.mul_comm];omega
 ·have k3:(hi==0)=false:=by simp;omega
  obtain⟨C,rfl⟩:=Int.eq_ofNat_of_zero_le (show 0<=y by omega);obtain⟨s,cc,b2,cd,ce⟩:=sX C (by omega) (by have:=iO;omega);obtain⟨Y,Q⟩:∃Y,Y=(C:Int)*2^s:=⟨_,rfl⟩;have ca:9223372036854775808<=Y:=by
   rw[Q];have:((2^63:Nat):Int)<=((C*2^s:Nat):Int):=by omega
   simpa using this
  have D:Y<aA:=by
   rw[Q];have:((C*2^s:Nat):Int)<((BN:Nat):Int):=by omega
   simpa [iO] using this
  have e1:IntKind.u64.wrap ((C:Int)*2^s)=Y:=by
   rw[kL,<-Q];unfold dE;unfold aA at D;omega
  have ay:hi*2^s<aA:=by
   have:hi*2^s<(C:Int)*2^s:=Int.mul_lt_mul_of_pos_right N (dM s);omega
  have bs:0<=hi*2^s:=Int.mul_nonneg h0 (Int.le_of_lt (dM s));have e2:IntKind.u64.wrap (hi*2^s)=hi*2^s:=by
   rw[kL];unfold dE;unfold aA at ay;omega
  obtain⟨V,H,L⟩:=gE (lo*2^s);have ah:=wH al az s;rw[L.hi] at ah;have e3:lo/2^(64-s)=H:=by rw[CI lo (by omega),L.hi]
  have e4:IntKind.u64.wrap (lo*2^s)=V:=by rw[kL,L.lo]
  have e5:bits .or .u64 (hi*2^s) H=hi*2^s+H:=CU (by omega) ah.1 ah.2 bs ay ⟨hi,Int.mul_comm _ _⟩;obtain⟨U,ad⟩:∃U,U=hi*2^s+H:=⟨_,rfl⟩;have ap:0<=U:=by omega
  have bp:U<Y:=by
   have O:(hi+1)*2^s<=(C:Int)*2^s:=dG (by omega) (Int.le_of_lt (dM s));rw[Int.add_mul,Int.one_mul] at O;omega
  have aq:U*aA+V=(hi*aA+lo)*2^s:=by
   rw[ad];have:=L.1;grind
  have hV:=L.2;rw[<-ad] at e5;have a9:=aB aq;have bb:=aB Q;have b4:=aB ad;clear aq Q ad L;obtain⟨b,cg⟩:∃b,Y/4294967296=b:=⟨_,rfl⟩;obtain⟨f,am⟩:∃f,f=Y%4294967296:=⟨_,rfl⟩;obtain⟨o,cb⟩:∃o,V/4294967296=o:=⟨_,rfl⟩;obtain⟨i,ak⟩:∃i,i=V%4294967296:=⟨_,rfl⟩;have e6:bits .and .u64 Y 4294967295=f:=by rw[am];exact wO Y (by omega) D
  have e7:bits .and .u64 V 4294967295=i:=by rw[ak];exact wO V hV.1 hV.2
  have b6:2147483648<=b∧b<4294967296:=by unfold aA at D;omega
  have n:0<=f∧f<4294967296:=by omega
  have K:0<=o∧o<4294967296:=by have:=hV;unfold aA at this;omega
  have J:0<=i∧i<4294967296:=by omega
  have au:Y=b*4294967296+f:=by omega
  have ar:V=o*4294967296+i:=by omega
  have b5:=aB am;have b3:=aB ak;have A:=aB au;have ba:=aB ar;clear am ak au ar;obtain⟨p,S⟩:∃p,U/b=p:=⟨_,rfl⟩;obtain⟨W,b0⟩:∃W,U-p*b=W:=⟨_,rfl⟩;have b9:U<=18446744073709551615:=by unfold aA at D;omega
  have ae:0<=p∧p<=4294967297:=by
   refine⟨by rw[<-S];exact Int.ediv_nonneg ap (by omega),?_⟩;have:p<4294967298:=by
    rw[<-S];refine Int.ediv_lt_of_lt_mul (by omega) ?_;have:=A.out;omega
   omega
  have a0:0<=W∧W<b:=by
   have N:=Int.emod_add_mul_ediv U b;have h2:=Int.emod_nonneg U (show b≠0 by omega);have h3:=Int.emod_lt_of_pos U (show 0<b by omega);rw[S,Int.mul_comm] at N;omega
  have bv:0<=p*b:=Int.mul_nonneg ae.1 (by omega);have bw:p*b<=18446744073709551615:=by omega
  obtain⟨k,g,a5,P,an⟩:∃t R,t*Y+R=U*4294967296+o∧0<=R∧R<Y:=
   ⟨(U*4294967296+o)/Y,(U*4294967296+o)%Y,by have:=Int.emod_add_mul_ediv (U*4294967296+o) Y;rw[Int.mul_comm];omega,Int.emod_nonneg _ (by omega),Int.emod_lt_of_pos _ (by omega)⟩
  have Z:=aB a5;clear a5;go_enter Tryz.func229,Tryz.ntmps229;go_upto_block 0 with (go_at_call 224;refine(oW _ s (by omega) hy (by rw[Int.toNat_natCast];exact b2) _).mono ?_;rintro e w' ⟨rfl,rfl⟩);have aw:=CW ap bp K.1 K.2 Z.out P an;have G:Hid (k*(b*4294967296+f)+g=U*4294967296+o):=by have:=Z.out;rw[A.out] at this;exact this
  have a7:k<=p:=by
   rcases Int.lt_or_le p k with h|h
   ·have O:(p+1)*(b*4294967296+f)<=k*(b*4294967296+f):=dG (by omega) (by omega);have bc:=G.out;have bf:(p+1)*(b*4294967296+f)=p*b*4294967296+b*4294967296+(p+1)*f:=by grind
    have bg:=(jO (show 0<=p+1 by omega) (Int.le_refl _) n.1 (Int.le_refl _)).1;omega
   ·exact h
  simp only[S];go_cut [15] (fun q wx=>q= .int .u64 k∧w=wx)
  case first=>
   go_wp2;go_loop [15,16] (fun a c=>∃q r,a= .int .u64 q∧c= .int .u64 r∧Dig U o b f k q r) (fun a _=>(intOf a).toNat)
   case atStart=>exact⟨p,W,rfl,rfl,⟨by omega,a0.1,by omega,a7,ae.1,ae.2⟩⟩
   case round=>
    obtain⟨q,r,rfl,rfl,j⟩:=hrel;have g1:=j.r0;have g2:=j.r1;have g3:=j.up;have g4:=j.q0;have M:=j.q1
    by_cases ai:4294967296<=q
    ·have x:=j.next (R:=g) (by omega) n.1 K.1 G.out P (by omega) aw.2 (.inl ai);have v:=aB x.2;have F:=x.1;clear x;by_cases E:4294967296<=r+b
     ·have z:q-1=k:=by
       have:=Dig.stop (d:=o) (t:=k) (R:=g) v.out (by omega) M n.1 n.2 K.1 G.out (by have:=A.out;omega) (by omega) E;omega
      clear v;go_wp2;go_meet
      case rel=>exact⟨by first|rfl|rw[z],rfl⟩
     ·go_wp2;go_round
      case rel=>exact⟨q-1,r+b,rfl,rfl,⟨v.out,by omega,by omega,F,by omega,by omega⟩⟩
      case measure=>simp[intOf];omega
    ·have B:=jO g4 (show q<=4294967295 by omega) n.1 (show f<=4294967295 by omega);have bt:=B.1;have bu:q*f<=18446744073709551615:=by omega
     by_cases aj:4294967296*r+o<q*f
     ·have x:=j.next (R:=g) (by omega) n.1 K.1 G.out P (by omega) aw.2 (.inr aj);have v:=aB x.2;have F:=x.1;clear x B;by_cases E:4294967296<=r+b
      ·have z:q-1=k:=by
        have:=Dig.stop (d:=o) (t:=k) (R:=g) v.out (by omega) M n.1 n.2 K.1 G.out (by have:=A.out;omega) (by omega) E;omega
       clear v;go_wp2;go_meet
       case rel=>exact⟨by first|rfl|rw[z],rfl⟩
      ·go_wp2;go_round
       case rel=>exact⟨q-1,r+b,rfl,rfl,⟨v.out,by omega,by omega,F,by omega,by omega⟩⟩
       case measure=>simp[intOf];omega
     ·have z:q=k:=by
       have:=Dig.down (d:=o) (t:=k) (R:=g) j.eq G.out (by have:=A.out;omega) (by omega) (by omega);omega
      have ag:=aB z;clear z B;go_wp2;go_meet
      case rel=>exact⟨by first|rfl|rw[ag.out],rfl⟩
  case rest=>
   obtain⟨rfl,rfl⟩:=hcut;clear S b0 bv bw a7 a0 ae;obtain⟨A1,bh⟩:∃A1,IntKind.u64.wrap (U*4294967296)=A1:=⟨_,rfl⟩;obtain⟨A2,bi⟩:∃A2,IntKind.u64.wrap (A1+o)=A2:=⟨_,rfl⟩;obtain⟨A3,bj⟩:∃A3,IntKind.u64.wrap (k*Y)=A3:=⟨_,rfl⟩;have bk:IntKind.u64.wrap (A2-A3)=g:=by
    have O:=Z.out;rw[kL] at bh bi bj⊢;unfold dE at *;unfold aA at D;omega
   have b8:g<=18446744073709551615:=by unfold aA at D;omega
   obtain⟨u,T⟩:∃u,g/b=u:=⟨_,rfl⟩;obtain⟨X,b1⟩:∃X,g-u*b=X:=⟨_,rfl⟩;have af:0<=u∧u<=4294967297:=by
    refine⟨by rw[<-T];exact Int.ediv_nonneg P (by omega),?_⟩;have:u<4294967298:=by
     rw[<-T];refine Int.ediv_lt_of_lt_mul (by omega) ?_;have:=A.out;omega
    omega
   have a4:0<=X∧X<b:=by
    have N:=Int.emod_add_mul_ediv g b;have h2:=Int.emod_nonneg g (show b≠0 by omega);have h3:=Int.emod_lt_of_pos g (show 0<b by omega);rw[T,Int.mul_comm] at N;omega
   have bx:0<=u*b:=Int.mul_nonneg af.1 (by omega);have bz:u*b<=18446744073709551615:=by omega
   obtain⟨l,R2,a6,ac,ao⟩:∃t R,t*Y+R=g*4294967296+i∧0<=R∧R<Y:=
    ⟨(g*4294967296+i)/Y,(g*4294967296+i)%Y,by have:=Int.emod_add_mul_ediv (g*4294967296+i) Y;rw[Int.mul_comm];omega,Int.emod_nonneg _ (by omega),Int.emod_lt_of_pos _ (by omega)⟩
   have ab:=aB a6;clear a6;have ax:=CW P an J.1 J.2 ab.out ac ao;have I:Hid (l*(b*4294967296+f)+R2=g*4294967296+i):=by have:=ab.out;rw[A.out] at this;exact this
   have a8:l<=u:=by
    rcases Int.lt_or_le u l with h|h
    ·have O:(u+1)*(b*4294967296+f)<=l*(b*4294967296+f):=dG (by omega) (by omega);have bc:=I.out;have bf:(u+1)*(b*4294967296+f)=u*b*4294967296+b*4294967296+(u+1)*f:=by grind
     have bg:=(jO (show 0<=u+1 by omega) (Int.le_refl _) n.1 (Int.le_refl _)).1;omega
    ·exact h
   go_upto_block 2 with (fail);simp only[T];go_cut [18] (fun q wx=>q= .int .u64 l∧w=wx)
   case first=>
    go_wp2;go_loop [18,16] (fun a c=>∃q r,a= .int .u64 q∧c= .int .u64 r∧Dig g i b f l q r) (fun a _=>(intOf a).toNat)
    case atStart=>exact⟨u,X,rfl,rfl,⟨by omega,a4.1,by omega,a8,af.1,af.2⟩⟩
    case round=>
     obtain⟨q,r,rfl,rfl,j⟩:=hrel;have g1:=j.r0;have g2:=j.r1;have g3:=j.up;have g4:=j.q0;have M:=j.q1
     by_cases ai:4294967296<=q
     ·have x:=j.next (R:=R2) (by omega) n.1 J.1 I.out ac (by omega) ax.2 (.inl ai);have v:=aB x.2;have F:=x.1;clear x;by_cases E:4294967296<=r+b
      ·have z:q-1=l:=by
        have:=Dig.stop (d:=i) (t:=l) (R:=R2) v.out (by omega) M n.1 n.2 J.1 I.out (by have:=A.out;omega) (by omega) E;omega
       clear v;go_wp2;go_meet
       case rel=>exact⟨by first|rfl|rw[z],rfl⟩
      ·go_wp2;go_round
       case rel=>exact⟨q-1,r+b,rfl,rfl,⟨v.out,by omega,by omega,F,by omega,by omega⟩⟩
       case measure=>simp[intOf];omega
     ·have B:=jO g4 (show q<=4294967295 by omega) n.1 (show f<=4294967295 by omega);have bt:=B.1;have bu:q*f<=18446744073709551615:=by omega
      by_cases aj:4294967296*r+i<q*f
      ·have x:=j.next (R:=R2) (by omega) n.1 J.1 I.out ac (by omega) ax.2 (.inr aj);have v:=aB x.2;have F:=x.1;clear x B;by_cases E:4294967296<=r+b
       ·have z:q-1=l:=by
         have:=Dig.stop (d:=i) (t:=l) (R:=R2) v.out (by omega) M n.1 n.2 J.1 I.out (by have:=A.out;omega) (by omega) E;omega
        clear v;go_wp2;go_meet
        case rel=>exact⟨by first|rfl|rw[z],rfl⟩
       ·go_wp2;go_round
        case rel=>exact⟨q-1,r+b,rfl,rfl,⟨v.out,by omega,by omega,F,by omega,by omega⟩⟩
        case measure=>simp[intOf];omega
      ·have z:q=l:=by
        have:=Dig.down (d:=i) (t:=l) (R:=R2) j.eq I.out (by have:=A.out;omega) (by omega) (by omega);omega
       have ag:=aB z;clear z B;go_wp2;go_meet
       case rel=>exact⟨by first|rfl|rw[ag.out],rfl⟩
   case rest=>
    obtain⟨rfl,rfl⟩:=hcut;clear T b1 bx bz a8 a4 af bk;obtain⟨C1,bm⟩:∃C1,IntKind.u64.wrap (g*4294967296)=C1:=⟨_,rfl⟩;obtain⟨C2,bn⟩:∃C2,IntKind.u64.wrap (C1+i)=C2:=⟨_,rfl⟩;obtain⟨C3,bo⟩:∃C3,IntKind.u64.wrap (l*Y)=C3:=⟨_,rfl⟩;have b7:IntKind.u64.wrap (C2-C3)=R2:=by
     have O:=ab.out;rw[kL] at bm bn bo⊢;unfold dE at *;unfold aA at D;omega
    go_wp2;go_ret2;have br:(k*4294967296+l)*Y+R2=(hi*aA+lo)*2^s:=by
     rw[<-a9.out,ba.out];have a1:=Z.out;have a2:=ab.out;have a3:aA=4294967296*4294967296:=rfl;rw[a3];grind
    have av:=bb.out;have B:=dM s;have bq:R2=2^s*(hi*aA+lo-(k*4294967296+l)*C):=by rw[av] at br;grind
    have hr:R2/2^s=hi*aA+lo-(k*4294967296+l)*C:=by rw[bq,Int.mul_ediv_cancel_left _ (by omega)]
    refine⟨k*4294967296+l,R2/2^s,rfl,by omega,by unfold aA;omega,Int.ediv_nonneg ac (by omega),?_,by rw[hr];omega,0,rfl⟩;exact Int.ediv_lt_of_lt_mul B (by rw[<-av];exact ao)
theorem ME {q r a r' y t:Int} (h:q*y+r=t) (e:a*y+r'=t) (f:0<=r) (i:r<y) (g:0<=r') (j:r'<y):q=a∧r=r':=by
 have b:q=t/y:=by rw[<-h,Int.add_comm,Int.add_mul_ediv_right _ _ (by omega),Int.ediv_eq_zero_of_lt f i,Int.zero_add]
 have c:a=t/y:=by rw[<-e,Int.add_comm,Int.add_mul_ediv_right _ _ (by omega),Int.ediv_eq_zero_of_lt g j,Int.zero_add]
 have d:q=a:=by rw[b,c]
 subst d;exact⟨rfl,by omega⟩
theorem MF (hi lo y q r:Int) (a:0<=hi) (b:hi<y) (g:0<=lo) (i:lo<aA) (n:y<aA) (h:q*y+r=hi*aA+lo) (k:0<=r) (l:r<y) (w:World):
  Calls Tryz.prog 229 #[.int .u64 hi,.int .u64 lo,.int .u64 y] w fun e w'=>e= .returned (.tuple #[.int .u64 q,.int .u64 r])∧∃m,w'=w.drewN m:=by
 refine(sW hi lo y a b g i n w).mono ?_;rintro e w' ⟨o,p,rfl,_,_,c,d,f,j⟩;obtain⟨rfl,rfl⟩:=ME h f k l c d;exact⟨rfl,j⟩
theorem CS {zs xs:List Int} {j:Nat} {r r' q y:Int} (d:j<xs.length) (a:j<zs.length) (e:q*y+r'=r*aA+xs.getD j 0) (hv:aF aA (zs.drop (j+1))*y+r=aF aA (xs.drop (j+1))):
  aF aA ((zs.set j q).drop j)*y+r'=aF aA (xs.drop j):=by
 rw[j7 _ _ _ (by rw[List.length_set];exact a),j7 _ _ _ d,<-hv];have b:(zs.set j q).getD j 0=q:=by simp[List.getElem?_set_self a]
 have c:(zs.set j q).drop (j+1)=zs.drop (j+1):=List.drop_set_of_lt (by omega);rw[b,c];grind
theorem sV {a r y x:Int} (h:a*y+r=x) (b:0<=r) (c:r<y):a=x/y∧r=x%y:=by
 have d:y≠0:=by omega
 constructor
 ·rw[<-h,Int.add_comm,Int.add_mul_ediv_right _ _ d,Int.ediv_eq_zero_of_lt b c,Int.zero_add]
 ·rw[<-h,Int.add_comm,Int.add_mul_emod_self_right,Int.emod_eq_of_lt b c]
theorem MD (x y:Nat) (M:Value) (w:World) (hx:NatAt w M x) (al:0<y) (am:y<BN) (Z:nl x<=aI):
  Calls Tryz.prog 242 #[M,.int .u64 y] w fun e w'=>∃v,e= .returned (.tuple #[v,.int .u64 ((x%y:Nat):Int)])∧NatAt w' v (x/y)∧From w [] v∧Below w.heap.size w w':=by
 unfold aI at Z;obtain⟨A,c,rfl,hc,ae,ai⟩:=hx;go_enter Tryz.func242,Tryz.ntmps242;go_wp2_with (at_make;refine iE rfl rfl .u64 181 8 Tryz.underlying57 fO (nl x) rfl rfl rfl rfl (by omega) (by omega) ?_;intro w1 ag af V U)
 go_loopw [7,8] (fun t i wr=>∃(q r:Int) (a:List Int), -1<=q∧q<nl x∧i= .int .i64 q∧t= .int .u64 r∧0<=r∧r<y∧Hid (a.length=nl x)∧InR aA a∧Hid (aF aA (a.drop (q+1).toNat)*y+r=aF aA ((dg x).drop (q+1).toNat))∧
   Cells .u64 wr w.heap.size 0 a∧Soft wr w.heap.size∧Below w.heap.size w wr∧w.heap.size<wr.heap.size) (fun _ i _=>(intOf i+1).toNat)
 case atStart=>exact⟨(nl x:Int)-1,0,_,by omega,by omega,rfl,rfl,by decide,by omega,by simp[Hid],InR.replicate aP _,by
  rw[show((nl x:Int)-1+1).toNat=nl x by omega];unfold Hid;rw[List.drop_of_length_le (by simp),List.drop_of_length_le (by rw[aJ];exact aE)];simp,V,af,U,ag⟩
 case round=>
  obtain⟨q,r,a,aj,ak,rfl,rfl,C,D,f,K,n,k,F,l,d⟩:=hrel;by_cases T:0<=q
  ·obtain⟨j,rfl⟩:=Int.eq_ofNat_of_zero_le T;obtain⟨b,an,rfl,hb,u⟩:=(ae.below l).at_ (by rw[aJ];omega);have S:=u j (by rw[aJ];omega);have m:=k j (by have:=f.out;omega);rw[aS] at m;have Y:=fun j=>F.free j;have J:=(bV x).getD aP j;have B:((j:Int)+1).toNat=j+1:=by omega
   rw[B] at n;have G:=fun q r' h=>CS (q:=q) (r':=r') (y:=y) (by rw[aJ];omega) (by have:=f.out;omega) h n.out;generalize (dg x).getD j 0=xd at *;have P:=aB G;have N:=aB k;clear G u B k;go_wp2_with fail;refine(sW r xd y C D J.1 J.2 (by have:=iO;omega) _).mono ?_;rintro e o ⟨q,r',rfl,W,X,ac,ad,z,L,rfl⟩;have g:Below wr.heap.size wr (wr.drewN L):=dH (aH _ _) _;generalize wr.drewN L=o at *;have O:=aB z;clear z;have g3:o.cell? ⟨w.heap.size,j,none⟩=_:=(g.cell (p:=⟨w.heap.size,j,none⟩) d).trans m;have E:=F.below g d;have ah:=fun j=>E.free j;clear S m Y;have ab:w.heap.size<o.heap.size:=aU d g.size;go_wp2;go_roundw
   case rel=>
    have s:=(N.out.below g d).set (i:=j) (by have:=f.out;omega) q;rw[aS] at s;refine⟨(j:Int)-1,r',a.set j q,by omega,by omega,rfl,rfl,ac,ad,?_,K.set W X _,?_,s,E.set _ _,?_,?_⟩
    ·unfold Hid;rw[List.length_set];exact f.out
    ·rw[show((j:Int)-1+1).toNat=j by omega];exact P.out q r' O.out
    ·exact(aC l g).setCell aE _
    ·rw[lC];exact ab
   case measure=>simp[intOf]
  ·obtain rfl:q= -1:=by omega
   have hv:aF aA a*y+r=x:=by have:=n.out;simp at this;rw[cB] at this;exact this
   obtain⟨H,I⟩:=sV hv C D;have Q:=aB H;have R:=aB I;clear hv H I;go_wp2_with fail;refine(eM _ a (nl x) (nl x) wr f.out (Rd.mk d k) aE (by omega)).mono ?_;rintro e w4 ⟨rfl,rfl⟩;go_wp2;go_ret2;refine⟨_,by rw[show((x%y:Nat):Int)=r by rw[R.out];rfl];rfl,NatAt.trim (Rd.mk d k) K (by rw[Q.out];rfl) (by rw[f.out];exact aE) (Old.mk d),From.new aE,l⟩
theorem CT (x y:Nat) (v:Value) (w:World) (L:NatAt w v x) (X:0<y) (Y:y<BN) (G:nl x<=aI):
  Calls Tryz.prog 210 #[v,.int .u64 y] w fun e w'=>e= .returned (.int .u64 ((x%y:Nat):Int))∧Below w.heap.size w w':=by
 unfold aI at G;obtain⟨A,c,rfl,R,J,U⟩:=L;go_enter Tryz.func210,Tryz.ntmps210;go_wp2;go_loopw [5,6] (fun t i wr=>∃(q r:Int), -1<=q∧q<nl x∧i= .int .i64 q∧t= .int .u64 r∧0<=r∧r<y∧Hid (∃a,a*y+r=aF aA ((dg x).drop (q+1).toNat))∧Below w.heap.size w wr) (fun _ i _=>(intOf i+1).toNat)
 case atStart=>exact⟨(nl x:Int)-1,0,by omega,by omega,rfl,rfl,by decide,by omega,by
  rw[show((nl x:Int)-1+1).toNat=nl x by omega];exact⟨0,by rw[List.drop_of_length_le (by rw[aJ];exact aE)];simp⟩,aH _ _⟩
 case round=>
  obtain⟨q,r,V,W,rfl,rfl,m,n,f,d⟩:=hrel;by_cases D:0<=q
  ·obtain⟨j,rfl⟩:=Int.eq_ofNat_of_zero_le D;obtain⟨b,Z,rfl,Q,g⟩:=(J.below d).at_ (by rw[aJ];omega);have P:=g j (by rw[aJ];omega);have s:=(bV x).getD aP j;have l:((j:Int)+1).toNat=j+1:=by omega
   rw[l] at f;have h:=j7 aA (dg x) j (by rw[aJ];omega);generalize (dg x).getD j 0=O at *;have z:=aB h;clear h g l;go_wp2_with fail;refine(sW r O y m n s.1 s.2 (by have:=iO;omega) _).mono ?_;rintro e N ⟨q,M,rfl,S,T,H,I,k,u,rfl⟩;have F:Below wr.heap.size wr (wr.drewN u):=dH (aH _ _) _;generalize wr.drewN u=N at *;have B:=aB k;clear k;go_wp2;go_roundw
   case rel=>
    refine⟨(j:Int)-1,M,by omega,by omega,rfl,rfl,H,I,?_,aC d F⟩;rw[show((j:Int)-1+1).toNat=j by omega];obtain⟨a,E⟩:=f.out;refine⟨a*aA+q,?_⟩;rw[z.out,<-E];have:=B.out;grind
   case measure=>simp[intOf]
  ·obtain rfl:q= -1:=by omega
   obtain⟨a,hv⟩:=f.out;have o:a*y+r=x:=by simp at hv;rw[cB] at hv;exact hv
   obtain⟨K,p⟩:=sV o m n;have C:=aB p;clear hv o K p;go_wp2;go_ret;exact⟨by rw[<-C.out];rfl,d⟩
section
variable {P V W U D ul dl qt rt q:Int}
theorem M8 (k:0<P) (l:U=W*P+ul) (b:D=V*P+dl) (p:ul<P) (c:0<=dl) (e:0<=q) (o:qt*D+rt=U) (n:0<=rt) (j:0<D) (h:W<q*V):qt+1<=q:=by
 rcases Int.lt_or_le qt q with m|d
 ·omega
 ·have f:q*D<=qt*D:=dG d (by omega);have g:q*D=q*V*P+q*dl:=by rw[b];grind
  have a:(W+1)*P<=q*V*P:=dG (by omega) (by omega);have i:=Int.mul_nonneg e c;rw[Int.add_mul,Int.one_mul] at a;omega
theorem M9 (j:0<P) (k:U=W*P+ul) (g:D=V*P+dl) (s:0<=ul) (l:dl<P) (r:qt*D+rt=U) (p:rt<D) (n:q<=V) (o:0<=qt) (i:0<D) (h:q*V<=W):q<=qt+1:=by
 rcases Int.lt_or_le (qt+1) q with m|b
 ·have a:(qt+1)*D<=(q-1)*D:=dG (by omega) (by omega);have c:(q-1)*D<=(q-1)*(V*P+P-1):=eZ (by omega) (by omega);have d:(q-1)*(V*P+P-1)=(q*V+q-V-1)*P-(q-1):=by grind
  have e:(q*V+q-V-1)*P<=(W-1)*P:=dG (by omega) (by omega);have f:(W-1)*P=W*P-P:=by rw[Int.sub_mul,Int.one_mul]
  rw[Int.add_mul,Int.one_mul] at a;omega
 ·exact b
theorem MA {B a b u0 u1 u2:Int} (x:0<P) (u:2<=B) (z:V=a*B+b) (l:W=(u0*B+u1)*B+u2) (y:U=W*P+ul) (v:D=V*P+dl) (I:0<=ul) (C:dl<P) (K:b<B) (n:0<=u1) (H:0<=u2)
  (J:B<=2*a) (m:a<=u0) (G:qt*D+rt=U) (F:0<=rt) (E:rt<D) (A:U<B*D) (w:0<D):qt<=B-1∧B-1<=qt+1:=by
 constructor
 ·rcases Int.lt_or_le (B-1) qt with h|h
  ·have:B*D<=qt*D:=dG (by omega) (by omega);omega
  ·exact h
 ·rcases Int.lt_or_le (qt+1) (B-1) with h|h
  ·have c:(qt+1)*D<=(B-2)*D:=dG (by omega) (by omega);have d:D<=(a+1)*B*P-1:=by
    have e:V*P<=(a*B+(B-1))*P:=dG (by omega) (by omega);have f:(a*B+(B-1))*P=(a+1)*B*P-P:=by grind
    omega
   have e:(B-2)*D<=(B-2)*((a+1)*B*P-1):=eZ d (by omega);have f:(B-2)*((a+1)*B*P-1)=((B-2)*(a+1))*(B*P)-(B-2):=by grind
   have g:(B-2)*(a+1)<=a*B:=by
    have:(B-2)*(a+1)=a*B+(B-2*a-2):=by grind
    omega
   have k:0<=B*P:=Int.mul_nonneg (by omega) (by omega);have s:((B-2)*(a+1))*(B*P)<=(a*B)*(B*P):=dG g k;have i:a*B*B<=W:=by
    rw[l];have j:a*(B*B)<=u0*(B*B):=dG m (Int.mul_nonneg (by omega) (by omega));have t:=Int.mul_nonneg n (show 0<=B by omega);have o:a*(B*B)=a*B*B:=by grind
    have p:(u0*B+u1)*B=u0*(B*B)+u1*B:=by grind
    omega
   have j:a*B*B*P<=W*P:=dG i (by omega);have r:(a*B)*(B*P)=a*B*B*P:=by grind
   rw[Int.add_mul,Int.one_mul] at c;omega
  ·exact h
end
theorem MB (a:List Int) (m:Nat) (h:a.length=m+2):aF aA a=(a.getD (m+1) 0*aA+a.getD m 0)*aA^m+aF aA (a.take m):=by
 rw[j6 aA a m (by omega),j7 _ _ _ (by omega),j7 _ _ _ (by omega),List.drop_of_length_le (by omega)];simp only[val_nil];grind
theorem MC (us:List Int) (m:Nat) (h:us.length=m+3):aF aA us=((us.getD (m+2) 0*aA+us.getD (m+1) 0)*aA+us.getD m 0)*aA^m+aF aA (us.take m):=by
 rw[j6 aA us m (by omega),j7 _ _ _ (by omega),j7 _ _ _ (by omega),j7 _ _ _ (by omega),List.drop_of_length_le (by omega)];simp only[val_nil];grind
theorem M6 {P:Program} {f:FuncId} {args:Array Value} {w:World} {a n:Nat} {v:Value}
  (h:Calls P f args (w.drewN (a+n)) fun e w'=>e= .returned v∧∃m,w'=(w.drewN (a+n)).drewN m):Calls P f args (w.drewN (a+n)) fun e d=>e= .returned v∧∃m,d=w.drewN (a+m):=
 h.mono fun _ _ ⟨b,m,c⟩=>⟨b,n+m,by rw[c,World.drewN_drewN,Nat.add_assoc]⟩
theorem M7 (A A':Option Addr) (us l:List Int) (cu cd m:Nat) (w:World) (a4:us.length=m+3) (a3:l.length=m+2) (hu:Rd .u64 w A us) (hd:Rd .u64 w A' l) (z:InR aA us) (J:InR aA l)
  (bp:9223372036854775808<=l.getD (m+1) 0) (ae:aF aA us<aA*aF aA l) (hm:m+3<=17592186044416) (j rt:Int) (N:j*aF aA l+rt=aF aA us) (an:0<=rt) (ao:rt<aF aA l) (a9:0<=j):
  Calls Tryz.prog 243 #[.slice A ((m+3:Nat)) cu,.slice A' ((m+2:Nat)) cd] w fun e w'=>∃q,e= .returned (.int .u64 q)∧0<=q∧q<aA∧j<=q∧q<=j+1∧Below w.heap.size w w':=by
 obtain⟨b,o,rfl,hb,M⟩:=hu.at_ (by omega);obtain⟨b',o',rfl,bj,W⟩:=hd.at_ (by omega);have g0:=M (m+2) (by omega);have g1:=M (m+1) (by omega);have g2:=M m (by omega);have f1:=W (m+1) (by omega);have f2:=W m (by omega);have ac:=z.getD aP (m+2);have S:=z.getD aP (m+1);have av:=z.getD aP m;have aw:=J.getD aP (m+1);have k:=J.getD aP m;have G:=MB l m a3;have I:=MC us m a4;have aq:=eQ aP (z.take m);have ar:=fZ aP (z.take m);have ax:=eQ aP (J.take m);have X:=fZ aP (J.take m);rw[aZ,Nat.min_eq_left (by omega)] at ar X;have V:=lF aP m;generalize aF aA (us.take m)=ul at *;generalize aF aA (l.take m)=dl at *;generalize aA^m=P at *;generalize aF aA us=U at *;generalize aF aA l=D at *;generalize us.getD (m+2) 0=u0 at *;generalize us.getD (m+1) 0=u1 at *;generalize us.getD m 0=u2 at *;generalize l.getD (m+1) 0=d at *;generalize l.getD m 0=f at *;have T:0<D:=by omega
 have ah:=fun (h:d<=u0)=>MA V (show(2:Int)<=aA by decide) rfl rfl I G aq X k.2 S.1 av.1 (by unfold aA;omega) h N an ao ae T;have au:=aB ah;have Q:=aB (fun (q:Int) (hq:0<=q) (h:(u0*aA+u1)*aA+u2<q*(d*aA+f))=>M8 V I G ar ax hq N an T h);have O:=aB (fun (q:Int) (hq:q<=d*aA+f) (h:q*(d*aA+f)<=(u0*aA+u1)*aA+u2)=>M9 V I G aq X N ao hq a9 T h);clear ah I G N ae M W;have i0:(0:Int)<=(m:Int)+2-1:=by omega
 have i1:(m:Int)+2-1<(m:Int)+2:=by omega
 by_cases az:d<=u0
 ·have ai:=au.out az;go_enter Tryz.func243,Tryz.ntmps243;go_wp2;go_quiet (fail);go_wp2;go_ret;exact⟨18446744073709551615,rfl,by decide,by decide,by have:=ai.1;unfold aA at this;omega,by have:=ai.2;unfold aA at this;omega,dH (aH _ _) _⟩
 ·obtain⟨i,r0,aj,am,ba⟩:∃q r,q*d+r=u0*aA+u1∧0<=r∧r<d:=
   ⟨(u0*aA+u1)/d,(u0*aA+u1)%d,by have:=Int.emod_add_mul_ediv (u0*aA+u1) d;rw[Int.mul_comm];omega,Int.emod_nonneg _ (by omega),Int.emod_lt_of_pos _ (by omega)⟩
  have al:0<=i∧i<aA:=by
   constructor
   ·rcases Int.lt_or_le i 0 with h|h
    ·have t:i*d<= -1*d:=dG (by omega) (by omega);have g:=Int.mul_nonneg ac.1 (Int.le_of_lt aP);omega
    ·exact h
   ·rcases Int.lt_or_le i aA with h|h
    ·exact h
    ·have t:aA*d<=i*d:=dG h (by omega);have g:(u0+1)*aA<=d*aA:=dG (by omega) (Int.le_of_lt aP);rw[Int.add_mul,Int.one_mul] at g;rw[Int.mul_comm] at t;omega
  have bc:j<=i:=by
   have:=Q.out (i+1) (by omega) (by
    have t:(u0*aA+u1+1)*aA<=(i+1)*d*aA:=dG (by rw[Int.add_mul,Int.one_mul];omega) (Int.le_of_lt aP);have g:(i+1)*(d*aA+f)=(i+1)*d*aA+(i+1)*f:=by grind
    have s:=Int.mul_nonneg (show 0<=i+1 by omega) k.1;rw[Int.add_mul (u0*aA+u1),Int.one_mul] at t;omega)
   omega
  have ab:=aB aj;clear aj;have ak:∀q:Int,q<aA->q<=d*aA+f:=fun q h=>by
   have t:1*aA<=d*aA:=dG (by omega) (Int.le_of_lt aP);omega
  have R:=aB ak;clear ak;have bk:decide (d<=u0)=false:=by simp;omega
  go_enter Tryz.func243,Tryz.ntmps243;go_wp2;go_quiet (fail);go_wp2;go_quiet ((go_at_call 229;exact M6 (MF u0 u1 d i r0 ac.1 (by omega) S.1 S.2 aw.2 ab.out am ba _)));go_wp2_with fail;simp only[show m+2-1=m+1 from rfl];generalize Z:World.drewN (World.drewN w _) _=w2;have bg:w2.cell? ⟨b,o+m,none⟩=some (.int .u64 u2):=by rw[<-Z];exact g2
  have K:Below w.heap.size w w2:=by rw[<-Z];exact dH (dH (aH _ _) _) _
  clear Z;go_loop [8,9] (fun a c=>∃q r,a= .int .u64 q∧c= .int .u64 r∧Hid (q*d+r=u0*aA+u1)∧0<=r∧r<aA∧0<=q∧q<aA∧j<=q) (fun a _=>(intOf a).toNat)
  case atStart=>exact⟨i,r0,rfl,rfl,ab,am,by omega,al.1,al.2,bc⟩
  case round=>
   obtain⟨q,r,rfl,rfl,B,g3,ad,n,p,g6⟩:=hrel;obtain⟨L,H,E⟩:=gE (q*f)
   have bh:=E.hi_bd (Int.mul_nonneg n k.1) (m:=aA) (by
    have:=(jO n (show q<=aA-1 by omega) k.1 (show f<=aA-1 by omega)).2;have e4:(aA-1)*(aA-1)=aA*aA-2*aA+1:=by rfl
    omega)
   have bi:=E.2;have ap:=E.1;have x:=aB E;have F:=aB ap;clear E ap
   have af:r*aA+u2≥q*f->q<=j+1:=fun h=>O.out q (R.out q p) (by
    have g:q*(d*aA+f)=q*d*aA+q*f:=by grind
    have s:=B.out;have u:(q*d+r)*aA=q*d*aA+r*aA:=by rw[Int.add_mul]
    rw[s] at u;omega)
   have HG:=aB af;clear af;rcases Int.lt_trichotomy H r with bo|ay|bm
   ·have v:q<=j+1:=HG.out (by
     have t:(H+1)*aA<=r*aA:=dG (by omega) (Int.le_of_lt aP);have g:=F.out;rw[Int.add_mul,Int.one_mul,Int.mul_comm] at t;omega)
    go_wp2_with (go_at_call 216;refine(lV q f L H ⟨n,p⟩ k x.out _).mono ?_;rintro e w' ⟨rfl,rfl⟩);go_ret;exact⟨q,rfl,n,p,g6,v,K⟩
   ·subst ay;by_cases bn:L<=u2
    ·have v:q<=j+1:=HG.out (by
      have g:=F.out;rw[Int.mul_comm] at g;omega)
     have ag:decide (H<H)=false:=by simp
     go_wp2_with (go_at_call 216;refine(lV q f L H ⟨n,p⟩ k x.out _).mono ?_;rintro e w' ⟨rfl,rfl⟩);go_ret;exact⟨q,rfl,n,p,g6,v,K⟩
    ·obtain⟨r,bb⟩:∃r,r=H:=⟨_,rfl⟩;subst bb;have ag:decide (r<r)=false:=by simp
     have a0:decide (L<=u2)=false:=by simp;omega
     have Y:r*aA+u2<q*f:=by have g:=F.out;rw[Int.mul_comm] at g;omega
     have a5:j+1<=q:=Q.out q n (by
      have g:q*(d*aA+f)=q*d*aA+q*f:=by grind
      have s:=B.out;have u:(q*d+r)*aA=q*d*aA+r*aA:=by rw[Int.add_mul]
      rw[s] at u;omega)
     have y:Hid ((q-1)*d+(r+d)=u0*aA+u1):=by have:=B.out;unfold Hid;rw[Int.sub_mul];omega
     clear Y;have a7:1<=q:=by omega
     have a8:q<=18446744073709551615:=by unfold aA at p;omega
     by_cases C:r+d<aA
     ·have a6:r+d<=18446744073709551615:=by unfold aA at C;omega
      have a2:decide (r+d<d)=false:=by simp;omega
      go_wp2_with (go_at_call 216;refine(lV q f L r ⟨n,p⟩ k x.out _).mono ?_;rintro e w' ⟨rfl,rfl⟩);go_round
      case rel=>exact⟨q-1,r+d,rfl,rfl,y,by omega,C,by omega,by omega,by omega⟩
      case measure=>simp[intOf];omega
     ·have bf:IntKind.u64.wrap (r+d)=r+d-18446744073709551616:=by rw[kL];unfold dE;unfold aA at *;omega
      have a1:r+d-18446744073709551616<d:=by unfold aA at ad;omega
      have v:q-1<=j+1:=O.out (q-1) (R.out _ (by omega)) (by
       have g:(q-1)*(d*aA+f)=(q-1)*d*aA+(q-1)*f:=by grind
       have s:=y.out;have u:((q-1)*d+(r+d))*aA=(q-1)*d*aA+(r+d)*aA:=by rw[Int.add_mul]
       rw[s] at u;have h5:=(jO (show 0<=q-1 by omega) (show q-1<=aA by omega) k.1 (show f<=aA by omega)).2;have h6:aA*aA<=(r+d)*aA:=dG (by omega) (Int.le_of_lt aP);omega)
      go_wp2_with (go_at_call 216;refine(lV q f L r ⟨n,p⟩ k x.out _).mono ?_;rintro e w' ⟨rfl,rfl⟩);go_ret;exact⟨q-1,rfl,by omega,by omega,by omega,v,K⟩
   ·have ag:decide (H<r)=false:=by simp;omega
    have a0:(H==r)=false:=by simp;omega
    have Y:r*aA+u2<q*f:=by
     have t:(r+1)*aA<=H*aA:=dG (by omega) (Int.le_of_lt aP);have g:=F.out;rw[Int.add_mul,Int.one_mul] at t;rw[Int.mul_comm] at g;omega
    have a5:j+1<=q:=Q.out q n (by
     have g:q*(d*aA+f)=q*d*aA+q*f:=by grind
     have s:=B.out;have u:(q*d+r)*aA=q*d*aA+r*aA:=by rw[Int.add_mul]
     rw[s] at u;omega)
    have y:Hid ((q-1)*d+(r+d)=u0*aA+u1):=by have:=B.out;unfold Hid;rw[Int.sub_mul];omega
    clear Y;have a7:1<=q:=by omega
    have a8:q<=18446744073709551615:=by unfold aA at p;omega
    by_cases C:r+d<aA
    ·have a6:r+d<=18446744073709551615:=by unfold aA at C;omega
     have a2:decide (r+d<d)=false:=by simp;omega
     go_wp2_with (go_at_call 216;refine(lV q f L H ⟨n,p⟩ k x.out _).mono ?_;rintro e w' ⟨rfl,rfl⟩);go_round
     case rel=>exact⟨q-1,r+d,rfl,rfl,y,by omega,C,by omega,by omega,by omega⟩
     case measure=>simp[intOf];omega
    ·have bf:IntKind.u64.wrap (r+d)=r+d-18446744073709551616:=by rw[kL];unfold dE;unfold aA at *;omega
     have a1:r+d-18446744073709551616<d:=by unfold aA at ad;omega
     have v:q-1<=j+1:=O.out (q-1) (R.out _ (by omega)) (by
      have g:(q-1)*(d*aA+f)=(q-1)*d*aA+(q-1)*f:=by grind
      have s:=y.out;have u:((q-1)*d+(r+d))*aA=(q-1)*d*aA+(r+d)*aA:=by rw[Int.add_mul]
      rw[s] at u;have h5:=(jO (show 0<=q-1 by omega) (show q-1<=aA by omega) k.1 (show f<=aA by omega)).2;have h6:aA*aA<=(r+d)*aA:=dG (by omega) (Int.le_of_lt aP);omega)
     go_wp2_with (go_at_call 216;refine(lV q f L H ⟨n,p⟩ k x.out _).mono ?_;rintro e w' ⟨rfl,rfl⟩);go_ret;exact⟨q-1,rfl,by omega,by omega,by omega,v,K⟩
theorem LW (A d:Option Addr) (us a:List Int) (g f n:Nat) (w:World) (hn:2<=n) (v:us.length=n+1) (l:a.length=n) (u:Rd .u64 w A us) (k:Rd .u64 w d a) (i:InR aA us) (h:InR aA a)
  (t:9223372036854775808<=a.getD (n-1) 0) (j:aF aA us<aA*aF aA a) (x:n+1<=17592186044416) (b c:Int) (o:b*aF aA a+c=aF aA us) (r:0<=c) (s:c<aF aA a) (p:0<=b):
  Calls Tryz.prog 243 #[.slice A (n+1) g,.slice d n f] w fun e w'=>∃q,e= .returned (.int .u64 q)∧0<=q∧q<aA∧b<=q∧q<=b+1∧Below w.heap.size w w':=by
 obtain⟨m,rfl⟩:∃m,n=m+2:=⟨n-2,by omega⟩;exact M7 A d us a g f m w (by omega) l u k i h t j (by omega) b c o r s p
theorem LX {L:List Int} {k:Nat} (h:InR aA L) (b:k<=L.length) (hv:aF aA L<aA^k):aF aA (L.take k)=aF aA L:=by
 rw[j6 aA L k b] at hv⊢;have c:=eQ aP (h.take k);have d:=eQ aP (h.drop k);have e:=lF aP k;rcases Int.lt_or_le 0 (aF aA (L.drop k)) with a|a
 ·have:aA^k*1<=aA^k*aF aA (L.drop k):=eZ (by omega) (by omega);omega
 ·have:aF aA (L.drop k)=0:=by omega
  rw[this];simp
theorem LY {L:List Int} {j k:Nat} {D:Int} (h:InR aA L) (b:j<=L.length) (hv:aF aA L<D*aA^(j+k)):aF aA (L.drop j)<D*aA^k:=by
 rw[j6 aA L j b] at hv;have c:=eQ aP (h.take j);have d:=lF aP j;have e:D*aA^(j+k)=aA^j*(D*aA^k):=by rw[Int.pow_add];grind
 rw[e] at hv;exact Int.lt_of_mul_lt_mul_left (a:=aA^j) (by omega) (by omega)
theorem CO (zs:List Int) (j n:Nat) (c:j+n<zs.length) (h:InR aA zs) (b:aF aA (zs.drop j)<aA^(n+1)):
  aF aA (zs.drop j)=aF aA ((zs.drop j).take n)+aA^n*zs.getD (j+n) 0∧aF aA ((zs.drop j).take (n+1))=aF aA (zs.drop j):=by
 have a:=LX (h.drop j) (by rw[List.length_drop];omega) b;refine⟨?_,a⟩;rw[<-a,gY _ _ _ (by rw[List.length_drop];omega)];congr 2;simp only[dF,List.getElem?_drop]
theorem LZ {U D q d c g a t b P:Int} (o:0<P) (p:U=g+P*t) (u:a-b*P=g-D*q) (m:0<=a) (n:a<P) (i:d*D+c=U) (r:0<=c) (s:c<D) (l:D<=P) (k:q=d∨q=d+1):
  (q=d∧b=t∧a=c)∨(q=d+1∧b=t+1∧a+D=c+P):=by
 have j:a+P*(t-b)=U-D*q:=by
  have:P*(t-b)=P*t-b*P:=by grind
  omega
 rcases k with rfl|rfl
 ·left;have e:a+P*(t-b)=c:=by rw[j,<-i,Int.mul_comm];omega
  have f:t-b=0:=by
   rcases Int.lt_trichotomy (t-b) 0 with h|h|h
   ·have:P*(t-b)<=P*(-1):=eZ (by omega) (by omega);omega
   ·exact h
   ·have:P*1<=P*(t-b):=eZ (by omega) (by omega);omega
  rw[f] at e;exact⟨rfl,by omega,by simpa using e⟩
 ·right;have e:a+P*(t-b)=c-D:=by rw[j,<-i,Int.mul_add,Int.mul_comm];omega
  have f:t-b= -1:=by
   rcases Int.lt_trichotomy (t-b) (-1) with h|h|h
   ·have:P*(t-b)<=P*(-2):=eZ (by omega) (by omega);omega
   ·exact h
   ·have:P*0<=P*(t-b):=eZ (by omega) (by omega);omega
  rw[f] at e;exact⟨rfl,by omega,by omega⟩
theorem M0 {zs ts:List Int} {j n:Nat} {D b c:Int} (a:j+n<zs.length) (f:ts.length=n) (h:InR aA zs) (d:aF aA (zs.drop j)<aA^(n+1)) (k:b*D+c=aF aA (zs.drop j)) (g:aF aA ts=c):
  aF aA ((patch zs ts j).set (j+n) 0)=aF aA zs-aA^j*(b*D):=by
 subst f;have l:=(CO zs j ts.length a h d).1;rw[lG _ _ _ _ (by rw[iG (by omega)];exact a),oS (by omega),wE (by omega) aE,g];have e:aA^(j+ts.length)=aA^j*aA^ts.length:=Int.pow_add _ _ _;rw[e];generalize aF aA ((zs.drop j).take ts.length)=i at *;generalize zs.getD (j+ts.length) 0=t at *;generalize aF aA (zs.drop j)=U at *;generalize aA^ts.length=P at *;generalize aA^j=J at *;grind
theorem M1 {zv b D a X J B Q:Int} (c:zv+D*(J*B)*Q=X) (d:b=zv-J*(a*D)):b+D*J*(a+B*Q)=X:=by
 rw[d,<-c];grind
theorem CP {y s:Nat} (f:y≠0) (k:s<=64) (h:(y/BN^(nl y-1))*2^s<BN):nl (y*2^s)=nl y:=by
 have i:=fI f;apply Nat.le_antisymm
 ·refine bW ?_;have g:=Nat.mod_add_div y (BN^(nl y-1));have j:=Nat.mod_lt y (show 0<BN^(nl y-1) from Nat.pow_pos (by decide));have c:BN^nl y=BN^(nl y-1)*BN:=by rw[<-cU];congr 1;omega
  rw[c];have b:(y/BN^(nl y-1)+1)*2^s<=BN∨¬(y/BN^(nl y-1)+1)*2^s<=BN:=Classical.em _;generalize y/BN^(nl y-1)=a at *;generalize y%BN^(nl y-1)=r at *;generalize BN^(nl y-1)=p at *;have e:y*2^s<p*((a+1)*2^s):=by
   have:y<p*(a+1):=by rw[Nat.mul_add,Nat.mul_one];omega
   have:=Nat.mul_lt_mul_of_pos_right this (show 0<2^s from Nat.pow_pos (by decide));rw[Nat.mul_assoc] at this;exact this
  rcases b with b|b
  ·exact aU e (dL _ b)
  ·exfalso;have d:BN=2^(64-s)*2^s:=by rw[<-Nat.pow_add,show 64-s+s=64 by omega];rfl
   rw[d] at h b;have:=Nat.lt_of_mul_lt_mul_right h;exact b (cZ _ this)
 ·exact bX (Nat.le_mul_of_pos_right _ (Nat.pow_pos (by decide)))
theorem sU {y:Nat} (a:y≠0):(dg y).getD (nl y-1) 0=((y/BN^(nl y-1):Nat):Int)∧y/BN^(nl y-1)≠0∧y/BN^(nl y-1)<BN:=by
 have c:=fI a;have e:=j7 aA (dg y) (nl y-1) (by rw[aJ];omega);rw[qC,List.drop_of_length_le (i:=nl y-1+1) (by rw[aJ];omega)] at e;have d:=(bV y).getD aP (nl y-1);simp only[val_nil,Int.mul_zero,Int.add_zero] at e;refine⟨e.symm,?_,?_⟩
 ·have b:=vV a;have:=Nat.div_pos b (Nat.pow_pos (by decide));omega
 ·have:=iO;omega
theorem M2 {y s:Nat} (b:y≠0) (d:2^63<=y/BN^(nl y-1)*2^s) (hn:nl (y*2^s)=nl y):9223372036854775808<=(dg (y*2^s)).getD (nl y-1) 0:=by
 have a:y*2^s≠0:=Nat.mul_ne_zero b (by have:0<2^s:=Nat.pow_pos (by decide);omega);have h:=(sU a).1;rw[hn] at h;rw[h];have c:y/BN^(nl y-1)*2^s<=y*2^s/BN^(nl y-1):=by
  rw[Nat.le_div_iff_mul_le (Nat.pow_pos (by decide)),Nat.mul_assoc,dD (2^s),<-Nat.mul_assoc];exact cZ _ (Nat.div_mul_le_self _ _)
 omega
theorem M3 {x y s:Nat} (a:y≠0) (h:nl y<=nl x):((x*2^s:Nat):Int)<((y*2^s:Nat):Int)*aA^(nl x-nl y+1):=by
 rw[<-gK,<-Int.natCast_mul];have b:=cJ x;have c:=vV a;have g:=fI a;have d:BN^nl x=BN^(nl y-1)*BN^(nl x-nl y+1):=by rw[<-Nat.pow_add];congr 1;omega
 have e:x<y*BN^(nl x-nl y+1):=aU (by rw[<-d];exact b) (cZ _ c);have f:=Nat.mul_lt_mul_of_pos_right e (show 0<2^s from Nat.pow_pos (by decide));rw[Nat.mul_assoc,dD (BN^_),<-Nat.mul_assoc] at f;omega
theorem M4 {x y s:Nat} {zv qv:Int} (f:y≠0) (h:zv+((y*2^s:Nat):Int)*qv=((x*2^s:Nat):Int)) (b:0<=zv) (c:zv<((y*2^s:Nat):Int)):qv=((x/y:Nat):Int)∧zv=((x%y*2^s:Nat):Int):=by
 have d:0<2^s:=Nat.pow_pos (by decide);have e:=sV (a:=qv) (y:=((y*2^s:Nat):Int)) (x:=((x*2^s:Nat):Int)) (by rw[<-h,Int.mul_comm,Int.add_comm]) b c;rw[<-Int.natCast_ediv,<-Int.natCast_emod,Nat.mul_div_mul_right _ _ d,Nat.mul_mod_mul_right] at e;exact e
theorem CQ {zs ts c:List Int} {j n:Nat} {D a b X:Int} (m:j+n<zs.length) (p:ts.length=n) (h:InR aA zs) (o:aF aA (zs.drop j)<aA^(n+1)) (g:a*D+b=aF aA (zs.drop j)) (s:b<D)
  (q:aF aA ts=b) (f:j<c.length) (e:aF aA zs+D*aA^(j+1)*aF aA (c.drop (j+1))=X):
  aF aA ((patch zs ts j).set (j+n) 0)+D*aA^j*aF aA ((c.set j a).drop j)=X∧aF aA ((patch zs ts j).set (j+n) 0)<D*aA^j:=by
 have d:=M0 m p h o g q;have i:aF aA ((c.set j a).drop j)=a+aA*aF aA (c.drop (j+1)):=by
  rw[j7 _ _ _ (by rw[List.length_set];exact f),List.drop_set_of_lt (by omega)];simp[List.getElem?_set_self f]
 constructor
 ·rw[i];rw[Int.pow_succ] at e;exact M1 e d
 ·rw[d,j6 aA zs j (by omega),<-g];have k:=fZ aP (h.take j);rw[aZ,Nat.min_eq_left (by omega)] at k;have l:aA^j*(b+1)<=aA^j*D:=eZ (by omega) (Int.le_of_lt (lF aP j));rw[Int.mul_add,Int.mul_one] at l;have r:aA^j*(a*D+b)=aA^j*(a*D)+aA^j*b:=Int.mul_add _ _ _;rw[Int.mul_comm D];omega
theorem wN {zs ts:List Int} {j i:Nat} (h:j+ts.length<=zs.length):(patch zs ts j)[i]? =if i<j then zs[i]? else if i<j+ts.length then ts[i-j]? else zs[i]? :=by
 unfold patch;have c:(zs.take j).length=j:=by rw[aZ];omega
 by_cases a:i<j
 ·rw[if_pos a,f8 (by omega),List.getElem?_take,if_pos a]
 ·rw[if_neg a,dS (by omega),c];by_cases b:i<j+ts.length
  ·rw[if_pos b,f8 (by omega)]
  ·rw[if_neg b,dS (by omega),List.getElem?_drop];congr 1;omega
theorem M5 {zs ts us:List Int} {j n:Nat} {m v:Int} (e:ts.length=n) (f:us.length=n) (h:j+n<zs.length):
  (patch ((patch zs ts j).set (j+n) m) us j).set (j+n) v=(patch zs us j).set (j+n) v:=by
 apply List.ext_getElem?;intro i;have d:((patch zs ts j).set (j+n) m).length=zs.length:=by rw[List.length_set,iG (by omega)]
 rw[List.getElem?_set,List.getElem?_set,iG (by omega),iG (by omega),d];by_cases a:j+n=i
 ·rw[if_pos a,if_pos a]
 ·rw[if_neg a,if_neg a,wN (by omega),wN (by omega),List.getElem?_set,if_neg a,wN (by omega)];by_cases b:i<j
  ·simp[b]
  ·rw[if_neg b,if_neg b,if_neg b];by_cases c:i<j+us.length
   ·rw[if_pos c,if_pos c]
   ·rw[if_neg c,if_neg c,if_neg (by omega)]
def mS (w:World) (a:List Value) (x y:Nat) (e:Ending) (w':World):Prop:=
 ∃v u,e= .returned (.tuple #[v,u])∧NatAt w' v (x/y)∧NatAt w' u (x%y)∧From w a v∧From w a u∧Below w.heap.size w w'
theorem D4 (x y:Nat) (vx vy:Value) (w:World) (hx:NatAt w vx x) (hy:NatAt w vy y) (W:y≠0) (e5:nl x+2<=aI) (e6:nl y+2<=aI):
  Calls Tryz.prog 226 #[vx,vy] w (mS w [vx,vy] x y):=by
 unfold aI at e5 e6;have ah:=hx;have a6:=hy;obtain⟨A,c,rfl,hc,gi,ge⟩:=hx;obtain⟨B,d,rfl,hd,db,gf⟩:=hy;have h0:=fI W;by_cases dy:x<y
 ·have er:decide (bN (x:Int) y<0)=true:=by rw[gT (by omega)];rfl
  go_enter Tryz.func226,Tryz.ntmps226;go_wp2_with fail;refine(kK x y _ _ w ah a6 (by omega) (by omega)).mono ?_;rintro e Y ⟨rfl,z⟩;go_wp2;go_ret2;refine⟨_,_,rfl,?_,?_,From.none,From.mem (by simp),z⟩
  ·rw[Nat.div_eq_of_lt dy];exact NatAt.nil _
  ·rw[Nat.mod_eq_of_lt dy];exact ah.below z
 ·have er:decide (bN (x:Int) y<0)=false:=by
   rcases iH (x:Int) y with ⟨h,_⟩|⟨_,e⟩|⟨_,e⟩
   ·omega
   ·rw[e];rfl
   ·rw[e];rfl
  have e8:=bX (show y<=x by omega);by_cases v:nl y=1
  ·have c0:((nl y:Int)==1)=true:=by simp;omega
   obtain⟨ab,oy,rfl,bg,an⟩:=db.at_ (by rw[aJ];omega);have g0:=an 0 (by rw[aJ];omega);have ai:y<BN:=by have:=cJ y;rw[v,Nat.pow_one] at this;exact this
   rw[Nat.add_zero,mR W ai] at g0;have ee:w.cell? ⟨ab,oy,none⟩=some (.int .u64 (y:Int)):=g0;clear an g0 v;go_enter Tryz.func226,Tryz.ntmps226;go_wp2_with fail;refine(kK x y _ _ w ah a6 (by omega) (by omega)).mono ?_;rintro e Y ⟨rfl,z⟩;have g1:Y.cell? ⟨ab,oy,none⟩=some (.int .u64 (y:Int)):=(z.cell (p:=⟨ab,oy,none⟩) bg).trans ee;go_wp2_with fail;refine(MD x y _ Y (ah.below z) (by omega) ai (by unfold aI;omega)).mono ?_;rintro e S ⟨v2,rfl,a5,bp,a0⟩;go_wp2_with fail;refine(qF (x%y) (Nat.lt_trans (Nat.mod_lt _ (by omega)) ai) S).mono ?_;rintro e w3 ⟨v3,rfl,fl,ew,ac⟩;have bf:Below w.heap.size w S:=aC z a0;go_wp2;go_ret2;exact⟨_,_,rfl,a5.below ac,fl,bp.trans z.size (by simp),ew.trans bf.size (by simp),aC bf ac⟩
  ·have c0:((nl y:Int)==1)=false:=by simp;omega
   obtain⟨ab,oy,rfl,bg,an⟩:=db.at_ (by rw[aJ];omega);obtain⟨dr,d0,ai⟩:=sU W;obtain⟨s,ff,fg,au,af⟩:=sX (y/BN^(nl y-1)) d0 ai;have br:nl (y*2^s)=nl y:=CP W (by omega) af;have fk:=M2 W au br;have dk:=M3 (x:=x) (s:=s) W e8;have a9:=an (nl y-1) (by rw[aJ];omega);rw[dr] at a9;have eg:=iO;generalize y/BN^(nl y-1)=a at *;have gm:=dJ x (2^s);have fr:nl (2^s)<=1:=bW (by rw[Nat.pow_one,qG];exact Nat.pow_lt_pow_right (by decide) ff);have ej:(a:Int)<aA:=by omega
   have ei:0<(a:Int):=by omega
   have b6:=aB br;have d7:=aB dk;clear an dr au af d0 ai br dk eg;obtain⟨N,fw,fx,HN⟩:∃N,nl x+1<=N∧N<=nl x+1∧Hid (nl x+1=N):=⟨_,aE,aE,rfl⟩;obtain⟨M,fu,fv,HM⟩:∃M,nl x+1<=M+nl y∧M+nl y<=nl x+1∧Hid (nl x-nl y+1=M):=⟨nl x-nl y+1,by omega,by omega,rfl⟩;go_enter Tryz.func226,Tryz.ntmps226;go_wp2_with fail;refine(kK x y _ _ w ah a6 (by omega) (by omega)).mono ?_;rintro e Y ⟨rfl,z⟩;have g1:Y.cell? ⟨ab,oy+(nl y-1),none⟩=some (.int .u64 (a:Int)):=(z.cell (p:=⟨ab,oy+(nl y-1),none⟩) bg).trans a9;go_wp2_with fail;refine(oW a s ei ej (by rw[Int.toNat_natCast];exact fg) Y).mono ?_;rintro e go ⟨rfl,rfl⟩;go_wp2_with fail;refine(qJ y s _ Y (a6.below z) (by omega) (by unfold aI;omega)).mono ?_;rintro e S ⟨v2,rfl,⟨P,c2,a5,el,bt,ap⟩,bp,a0⟩;rw[b6.out] at a5 el;subst a5;have aj:Below w.heap.size w S:=aC z a0;go_wp2_with (at_make;refine iE rfl rfl .u64 181 8 Tryz.underlying57 fO N rfl rfl (by omega) (by omega) (by omega) (by omega) ?_;intro w3 b3 au ch ac);have az:Below w.heap.size w w3:=aC aj ac;refine(qJ x s _ w3 (ah.below az) (by omega) (by unfold aI;omega)).mono ?_;rintro e w4 ⟨v4,rfl,⟨A4,c4,rfl,em,c3,fc⟩,ex,ad⟩;have af:=au.below ad b3;have ci:=ch.below ad b3
   go_wp2_with (first
    |(with_reducible refine jM rfl rfl .u64 181 Tryz.underlying57 j9 rfl rfl S.heap.size 0 (List.replicate N 0) (dg (x*2^s)) (by simp) rfl (fun _=>rfl) ci af c3 ?_;intro w5 cj ae)
    |(at_make;refine iE rfl rfl .u64 181 8 Tryz.underlying57 fO M rfl rfl (by omega) (by omega) (by omega) (by omega) ?_;intro w6 d2 de ck ak))
   rw[cN] at ae;have cb:Below w.heap.size w w4:=aC az ad;have bc:Below w.heap.size w w5:=ae.belowOf cb aj.size;have cd:Below w.heap.size w w6:=aC bc ak;have cv:S.heap.size<w5.heap.size:=aU b3 (aG ad.size ae.grown.size);have c5:Rd .u64 w6 P (dg (y*2^s)):=(ae.rd ((bt.below ac).below ad) (fun b o e h=>bt.lt_of e h)).below ak;have cl:=cj.below ak cv;have df:=(ae.soft af).below ak cv;have dw:aF aA (cK (List.replicate N 0) (dg (x*2^s)))=((x*2^s:Nat):Int):=by rw[jP _ _ (by rw[aJ];omega),cB]
   have cs:InR aA (cK (List.replicate N 0) (dg (x*2^s))):=qE (InR.replicate aP _) (bV _);have cu:(cK (List.replicate N 0) (dg (x*2^s))).length=N:=by rw[j5,cN]
   generalize cK (List.replicate N 0) (dg (x*2^s))=fo at *;have cy:∀b o,P=some ⟨b,o,none⟩->0<nl y->b≠S.heap.size:=vW (ap.ne (c:=c2) aE);have ay:=aj.size;have fb:=ap;unfold Old at ap;generalize S.heap.size=G at *;clear fb;generalize w5.heap.size=K at *;have bm:(dg (y*2^s)).length=nl y:=by rw[aJ,b6.out]
   have bn:=cB (y*2^s);have a2:=bV (y*2^s);generalize dg (y*2^s)=f at *;have Z:=aB bm;have a7:=aB bn;have T:=aB cy;have b8:=aB dw;have d5:=aB cu;have b9:aF aA f<aA^nl y:=by have:=fZ aP a2;rwa [bm] at this
   have eh:0<aF aA f:=by
    rw[bn];have:0<y*2^s:=Nat.mul_pos (by omega) (Nat.pow_pos (by decide));omega
   have b5:=aB b9;clear bm bn cy dw cu b9 z a0 ac ad ak aj az cb bc bt c3 ch ci cj ae au af bp ex a9 g1 fc em
   go_loopw [13] (fun i wr=>∃(q:Int) (zs I:List Int), -1<=q∧q<M∧i= .int .i64 q∧Hid (zs.length=N)∧Hid (I.length=M)∧InR aA zs∧InR aA I∧
     Hid (aF aA zs+aF aA f*aA^(q+1).toNat*aF aA (I.drop (q+1).toNat)=((x*2^s:Nat):Int))∧Hid (aF aA zs<aF aA f*aA^(q+1).toNat)∧
     Cells .u64 wr G 0 zs∧Soft wr G∧Cells .u64 wr K 0 I∧Soft wr K∧Rd .u64 wr P f∧Below w.heap.size w wr∧K<wr.heap.size) (fun i _=>(intOf i+1).toNat)
   case atStart=>
    refine⟨(nl x:Int)-nl y,fo,List.replicate M 0,by omega,by omega,rfl,d5,by simp[Hid],cs,InR.replicate aP _,?_,?_,cl,df,ck,de,c5,cd,d2⟩
    ·rw[show((nl x:Int)-nl y+1).toNat=M by omega];unfold Hid;rw[List.drop_of_length_le (by simp),b8.out];simp
    ·rw[show((nl x:Int)-nl y+1).toNat=M by omega];unfold Hid;rw[b8.out,a7.out,<-HM.out];exact d7.out
   case round=>
    clear cl df ck de c5 cd d2 cs;obtain⟨q,zs,I,c0,gh,rfl,O,L,E,bs,a3,bq,V,fj,bi,fh,c9,al,R⟩:=hrel;by_cases ef:0<=q
    ·obtain⟨j,rfl⟩:=Int.eq_ofNat_of_zero_le ef;rw[show((j:Int)+1).toNat=j+1 by omega] at a3 bq;have b4:=O.out;have ba:=LY (k:=1) E (by omega) bq.out;rw[Int.pow_one] at ba;have bb:aF aA (zs.drop j)<aA^(nl y+1):=by
      have v:=b5.out;have h2:aF aA f*aA<=aA^nl y*aA:=dG (by omega) (Int.le_of_lt aP);rw[Int.pow_succ];omega
     have dx:=CO zs j (nl y) (by omega) E bb
     obtain⟨X,rt,c1,da,a4⟩:∃q r,q*aF aA f+r=aF aA (zs.drop j)∧0<=r∧r<aF aA f:=
      ⟨aF aA (zs.drop j)/aF aA f,aF aA (zs.drop j)%aF aA f,by have:=Int.emod_add_mul_ediv (aF aA (zs.drop j)) (aF aA f);rw[Int.mul_comm];omega,Int.emod_nonneg _ (by omega),Int.emod_lt_of_pos _ eh⟩
     have fd:0<=X:=by
      rcases Int.lt_or_le X 0 with h|h
      ·have v:X*aF aA f<= -1*aF aA f:=dG (by omega) (by omega);have h2:=eQ aP (E.drop j);omega
      ·exact h
     have et:Cells .u64 wr G j ((zs.drop j).take (nl y+1)):=by have:=(V.drop j).take (nl y+1);rwa [aS] at this
     have cw:((zs.drop j).take (nl y+1)).length=nl y+1:=by rw[aZ,List.length_drop];omega
     have F:G<wr.heap.size:=by omega
     have ax:=aB c1;have HW:=aB dx;have d6:=aB cw;have b7:=aB bb;have d8:=aB ba;clear c1 dx cw bb ba b4;have f8:j+nl y+1-j=nl y+1:=by omega
     have i1:¬N=j:=by omega
     have i2:j<=N:=by omega
     have i3:j+nl y<=N:=by omega
     have i4:j+nl y+1<=N:=by omega
     go_wp2_with fail;refine(LW _ P ((zs.drop j).take (nl y+1)) f (N-j) c2 (nl y) wr (by omega) d6.out Z.out (Rd.mk F et) c9 ((E.drop j).take _) a2 fk (by rw[HW.out.2,Int.mul_comm];exact d8.out) (by omega) X rt (by rw[HW.out.2];exact ax.out) da a4 fd).mono ?_;rintro e w7 ⟨D,rfl,cq,bk,f4,f5,C⟩;go_wp2_with fail;have f3:D<=18446744073709551615:=by unfold aA at bk;omega
     have cn:Cells .u64 w7 G j ((zs.drop j).take (nl y)):=by have:=((V.below C F).drop j).take (nl y);rwa [aS] at this
     have cx:((zs.drop j).take (nl y)).length=nl y:=by rw[aZ,List.length_drop,O.out];omega
     have dh:=fj.below C F;have c6:=c9.below C;go_wp2_with fail;refine(LI G j ((zs.drop j).take (nl y)) (N-j) P f c2 (nl y) D w7 cx Z.out cn dh (by omega) c6 T.out ((E.drop j).take _) a2 ⟨cq,bk⟩).mono ?_;rintro e l ⟨ts,bo,rfl,fy,fz,bx,ht,bz,bh,J⟩;have eo:=LZ (lF aP (nl y)) HW.out.1 bz (eQ aP ht) (by have:=fZ aP ht;rwa [bx] at this) ax.out da a4 (Int.le_of_lt b5.out) (show D=X∨D=X+1 by omega);have cr:l.cell? ⟨G,j+nl y,none⟩=some (.int .u64 (zs.getD (j+nl y) 0)):=by
      rw[J.rest _ (.inr aE)];have:=(V.below C F) (j+nl y) (by have:=O.out;omega);rwa [aS] at this
     have f1:=E.getD aP (j+nl y);have bv:=J.soft dh;have ey:=fun k=>bv.free k;have gb:G<l.heap.size:=aU (aU F C.size) J.grown.size;have ca:K<l.heap.size:=aU (aU R C.size) J.grown.size;have bj:Cells .u64 l K 0 I:=J.cells (bi.below C R) (aU R C.size) (.inl (by omega));have bw:Soft l K:=(fh.below C R).keep (J.grown.block K (aU R C.size) (by intro e;injection e;omega));have ct:=bj j (by have:=L.out;omega);rw[aS] at ct;have e0:=fun k=>bw.free k;have fs:¬G=K:=by omega
     have ft:¬K=G:=by omega
     have c7:Rd .u64 l P f:=J.rd c6 (fun b o e h=>T.out b o e (by omega));have ce:Below w.heap.size w l:=J.belowOf (aC al C) ay;generalize dm:zs.getD (j+nl y) 0=t at *;generalize I.getD j 0=kq at *;have fp:=aB dm;clear dm;have U:=aB bx;have fq:=aB bz;clear bx bz cx cn;rcases eo with ⟨e1,e2,e3⟩|⟨e1,e2,e3⟩
     ·have aw:=aB e1;have a8:=aB e3;clear e1 e3;subst e2;have ev:decide (bo<bo)=false:=by simp
      go_wp2;go_roundw
      case rel=>
       have b4:=O.out;have dn:=U.out;have cz:=iG (zs:=zs) (ts:=ts) (k:=j) (by omega);have ar:=CQ (by omega) dn E b7.out ax.out a4 a8.out (by have:=L.out;omega) a3.out;have cp:=(J.patch (V.below C F) dn bh (by omega)).set (i:=j+nl y) (by omega) 0;rw[aS] at cp;have am:=(bj.far (a:=⟨G,j+nl y,none⟩) (.inl (by simp;omega)) (.int .u64 0)).set (i:=j) (by have:=L.out;omega) D;rw[aS] at am;have bu:Rd .u64 ((l.setCell ⟨G,j+nl y,none⟩ (.int .u64 0)).setCell ⟨K,j,none⟩ (.int .u64 D)) P f:=by
        refine Only.rd (g:=K) (off:=0) (n:=M) ?_ (Only.rd (g:=G) (off:=j) (n:=nl y+1) ((Only.refl _ _ _ _).set (i:=nl y) (by omega) (.int .u64 0)) c7 (fun b o e h=>T.out b o e (by omega))) (fun b o e h=> ?_)
        ·have:=(Only.refl K 0 M (l.setCell ⟨G,j+nl y,none⟩ (.int .u64 0))).set (i:=j) (by omega) (.int .u64 D);rwa [aS] at this
        ·have v:=ap ⟨b,o,none⟩ e;have h2:b<G:=v;omega
       refine⟨(j:Int)-1,_,_,by omega,by omega,rfl,?_,?_,(nQ E ht j).set (by decide) (by decide) _,bs.set cq bk _,?_,?_,cp.far (.inl (by simp;omega)) _,(bv.set _ _).set _ _,am,(bw.set _ _).set _ _,bu,(ce.setCell (by show _<=G;omega) _).setCell (by show _<=K;omega) _,?_⟩
       ·unfold Hid;rw[List.length_set];omega
       ·unfold Hid;rw[List.length_set];exact L.out
       ·rw[show((j:Int)-1+1).toNat=j by omega,aw.out];exact ar.1
       ·rw[show((j:Int)-1+1).toNat=j by omega];exact ar.2
       ·rw[lC,lC];exact ca
      case measure=>simp[intOf]
     ·have aw:=aB e1;have a8:=aB e3;clear e1 e3;subst e2;have gl:IntKind.u64.wrap (t-(t+1))=18446744073709551615:=by rw[kL];unfold dE;omega
      have ev:t<t+1:=by omega
      have f2:1<=D:=by have:=aw.out;omega
      obtain⟨wo,rfl⟩:∃wo:World,wo=wr:=⟨_,rfl⟩;go_wp2;have aq:Only G j (nl y+1) l (l.setCell ⟨G,j+nl y,none⟩ (.int .u64 18446744073709551615)):=(Only.refl _ _ _ _).set (i:=nl y) (by omega) (.int .u64 18446744073709551615);have en:Cells .u64 (l.setCell ⟨G,j+nl y,none⟩ (.int .u64 18446744073709551615)) G j ts:=bh.far (.inr (.inr (by show _<=j+nl y;have:=U.out;omega))) _;have e7:(l.setCell ⟨G,j+nl y,none⟩ (.int .u64 18446744073709551615)).cell? ⟨G,j+nl y,none⟩=some (.int .u64 18446744073709551615):=World.cell?_setCell_same _ _ _ cr;have eu:Cells .u64 (l.setCell ⟨G,j+nl y,none⟩ (.int .u64 18446744073709551615)) G 0 ((patch zs ts j).set (j+nl y) 18446744073709551615):=by
       have cz:=iG (zs:=zs) (ts:=ts) (k:=j) (by have:=U.out;have:=O.out;omega);have:=(J.patch (V.below C F) U.out bh (by have:=O.out;omega)).set (i:=j+nl y) (by have:=O.out;omega) 18446744073709551615;rwa [aS] at this
      have c8:=aq.rd c7 (fun b o e h=>T.out b o e (by omega));have es:=aq.cells bj ca (.inl (by omega));have fi:Soft _ K:=bw.set ⟨G,j+nl y,none⟩ (.int .u64 18446744073709551615);have di:=aq.soft bv;have gc:=aq.grown.size;generalize l.setCell ⟨G,j+nl y,none⟩ (.int .u64 18446744073709551615)=w9 at *;clear cr ey e0 ct
      go_loopw [17,115] (fun t i wr=>∃(k:Nat) (us:List Int) (c:Int),k<=nl y∧i= .int .i64 k∧t= .int .u64 c∧0<=c∧c<=1∧Hid (us.length=nl y)∧InR aA us∧
        Hid (aF aA us+c*aA^k=aF aA ts+aF aA (f.take k))∧Cells .u64 wr G j us∧Only G j (nl y) w9 wr) (fun _ i _=>nl y-(intOf i).toNat)
      case atStart=>exact⟨0,ts,0,Nat.zero_le _,rfl,rfl,by decide,by decide,U,ht,by simp[Hid],en,Only.refl _ _ _ _⟩
      case round=>
       obtain⟨k,us,Q,hk,rfl,rfl,ep,eq,ag,av,dt,a1,H⟩:=hrel;by_cases f9:k<nl y
       ·obtain⟨b,o,rfl,f0,d1⟩:=(H.rd c8 (fun b o e h=>T.out b o e (by omega))).at_ (by have:=Z.out;omega);have k1:=d1 k (by have:=Z.out;omega);have k2:=a1 k (by have:=ag.out;omega);have hf:=fun m=>(H.soft di).free m;have b1:=av.getD aP k;have b2:=a2.getD aP k;have dl:=wB (y:=f.getD k 0) (show k<us.length by have:=ag.out;omega) dt.out;have dp:=gY aA f k (by have:=Z.out;omega);generalize fm:us.getD k 0=x1 at *;generalize fn:f.getD k 0=y1 at *;have HS:=aB dl;have HT:=aB dp;have HC:=aB a1;obtain⟨ea,eb⟩:=b1;obtain⟨ec,ed⟩:=b2;have j1:j+k<=N:=by omega
        clear d1 fm fn dl dp a1;go_wp2_with (simp only[sN x1 y1 Q ea ec ep eq eb ed]);go_roundw
        case rel=>
         have hl:=j8 (x1+y1+Q);have hh:=qB (x:=x1+y1+Q) (m:=2) (by omega) (by omega);refine⟨k+1,us.set k (dE (x1+y1+Q)),fN (x1+y1+Q),by omega,by go_num,rfl,hh.1,by omega,?_,av.set hl.1 hl.2 k,?_,HC.out.set (by have:=ag.out;omega) _,H.set (by omega) _⟩
         ·unfold Hid;rw[List.length_set];exact ag.out
         ·have:=HS.out;have:=HT.out;unfold Hid;omega
        case measure=>simp[intOf];omega
       ·obtain rfl:k=nl y:=by omega
        have ao:Q=1∧aF aA us=rt:=by
         have v:=dt.out;rw[cA (by have:=Z.out;omega),a8.out] at v;have h2:=eQ aP av;have h3:=fZ aP av;rw[ag.out] at h3;have h4:Q=0∨Q=1:=by omega
         rcases h4 with rfl|rfl
         ·simp at v;omega
         ·simp at v;exact⟨rfl,v⟩
        obtain⟨rfl,du⟩:=ao;have d9:=aB du;clear du;have gd:wr.cell? ⟨G,j+nl y,none⟩=some (.int .u64 18446744073709551615):=(H.rest _ (.inr aE)).trans e7;have dc:=H.soft di;have f6:=fun m=>dc.free m;have ga:=H.grown.size;have cm:=H.cells es (by omega) (.inl (by omega));have dj:Soft wr K:=fi.keep (H.grown.block K (by omega) (by intro e;injection e;omega));have e4:=cm j (by have:=L.out;omega);rw[aS] at e4;have f7:=fun m=>dj.free m;have fe:=H.rd c8 (fun b o e h=>T.out b o e (by omega));have ek:Below w.heap.size w wr:=H.belowOf (aq.belowOf ce ay) ay;have gj:IntKind.u64.wrap (18446744073709551615+1)=0:=by rw[kL];rfl
        generalize I.getD j 0=gn at *;go_wp2;go_roundw
        case rel=>
         have b4:=O.out;have b0:=ag.out;have cz:=iG (zs:=zs) (ts:=us) (k:=j) (by omega);have ar:=CQ (by omega) b0 E b7.out ax.out a4 d9.out (by have:=L.out;omega) a3.out;have gg:=iG (zs:=zs) (ts:=ts) (k:=j) (by have:=U.out;omega);have co:=(H.patch eu b0 a1 (by rw[List.length_set];omega)).set (i:=j+nl y) (by rw[iG (by rw[List.length_set];omega),List.length_set];omega) 0;rw[aS,M5 U.out b0 (by omega)] at co;have am:=(cm.far (a:=⟨G,j+nl y,none⟩) (.inl (by simp;omega)) (.int .u64 0)).set (i:=j) (by have:=L.out;omega) (D-1);rw[aS] at am;have bu:Rd .u64 ((wr.setCell ⟨G,j+nl y,none⟩ (.int .u64 0)).setCell ⟨K,j,none⟩ (.int .u64 (D-1))) P f:=by
          refine Only.rd (g:=K) (off:=0) (n:=M) ?_ (Only.rd (g:=G) (off:=j) (n:=nl y+1) ((Only.refl _ _ _ _).set (i:=nl y) (by omega) (.int .u64 0)) fe (fun b o e h=>T.out b o e (by omega))) (fun b o e h=> ?_)
          ·have:=(Only.refl K 0 M (wr.setCell ⟨G,j+nl y,none⟩ (.int .u64 0))).set (i:=j) (by omega) (.int .u64 (D-1));rwa [aS] at this
          ·have v:=ap ⟨b,o,none⟩ e;have h2:b<G:=v;omega
         refine⟨(j:Int)-1,_,_,by omega,by omega,rfl,?_,?_,(nQ E av j).set (by decide) (by decide) _,bs.set (by omega) (by omega) _,?_,?_,co.far (.inl (by simp;omega)) _,(dc.set _ _).set _ _,am,(dj.set _ _).set _ _,bu,(ek.setCell (by show _<=G;omega) _).setCell (by show _<=K;omega) _,?_⟩
         ·unfold Hid;rw[List.length_set];omega
         ·unfold Hid;rw[List.length_set];exact L.out
         ·rw[show((j:Int)-1+1).toNat=j by omega,show D-1=X by have:=aw.out;omega];exact ar.1
         ·rw[show((j:Int)-1+1).toNat=j by omega];exact ar.2
         ·rw[lC,lC];omega
        case measure=>simp[intOf]
    ·obtain rfl:q= -1:=by omega
     have ao:=M4 (x:=x) (y:=y) (s:=s) (zv:=aF aA zs) (qv:=aF aA I) W (by have:=a3.out;rw[a7.out] at this;simpa using this) (eQ aP E) (by have:=bq.out;rw[a7.out] at this;simpa using this);have d3:=aB ao.1;have d4:=aB ao.2;clear ao;have F:G<wr.heap.size:=by omega
     go_wp2_with fail;refine(eM _ I M M wr L.out (Rd.mk R bi) aE (by omega)).mono ?_;rintro e l ⟨rfl,rfl⟩;go_wp2_with fail;refine(eM _ zs N N wr O.out (Rd.mk F V) aE (by omega)).mono ?_;rintro e l ⟨rfl,rfl⟩;have fa:NatAt wr (.slice (some ⟨G,0,none⟩) (trimL zs).length N) (x%y*2^s):=NatAt.trim (Rd.mk F V) E d4.out (by rw[O.out];exact aE) (Old.mk F);have e9:NatAt wr (.slice (some ⟨K,0,none⟩) (trimL I).length M) (x/y):=NatAt.trim (Rd.mk R bi) bs d3.out (by rw[L.out];exact aE) (Old.mk R);go_wp2_with fail
     refine(CX (x%y*2^s) s _ wr fa (by omega) (by
      unfold aI;have v:=dJ (x%y) (2^s);have h2:=bX (Nat.mod_le x y);omega)).mono ?_
     rintro e w9 ⟨v9,rfl,dv,ez,cg⟩;rw[Nat.mul_div_cancel _ (Nat.pow_pos (by decide))] at dv;go_wp2;go_ret2
     exact⟨_,_,rfl,e9.below cg,dv,From.new (by omega),ez.trans al.size (fun u hu=>by
      have:u= .slice (some ⟨G,0,none⟩) (trimL zs).length N:=by simpa using hu
      subst this;exact From.new ay),aC al cg⟩
