/-
  Contracts, laws: GcdB.
-/
import Derived.Test.YthfnenohhindpaaGreatDoorC08
import Derived.Test.YthfnenohhindpaaGreatDoorC11
import Derived.Lib.AppendIntMem
set_option linter.all false
set_option maxHeartbeats 8000000
set_option maxRecDepth 100000
namespace Go.Proofs.YthfnenohhindpaaGreatDoor
open Go.RowKit Sos
structure Glob (w:World):Prop where
 tz:TabAt 1 Lib.deBruijn64tab w
 pow:Lib.TabIs Tryz.prog w "internal/strconv.uint64pow10" .u64 Lib.pow10Tab
theorem Glob.below {w w':World} (h:Glob w) (a:Below w.heap.size w w'):Glob w':=
 ⟨fun j b=>(a.cell (p:=⟨1,j,none⟩) (block_lt_of_cell (h.tz j b))).trans (h.tz j b),Lib.tabBelow_of_tabIs h.pow w' a⟩
theorem sE (x k:Nat) (d:x≠0) (c:x<BN) (b:k=Lib.ctz 64 x) (w:World) (a:Glob w):
  Calls Tryz.prog 228 #[.int .u64 x] w fun e w'=>e= .returned (.int .i64 k)∧w=w':=by
 subst b;exact(Any7.bits_TrailingZeros64 Tryz.lays7n29 x c w (fun _=>a.tz)).mono fun e w' h=>⟨h.1,h.2.symm⟩
theorem vU (a b:Nat) (c:a<BN) (d:b<BN):bits .or .u64 (a:Int) (b:Int)=((a ||| b:Nat):Int):=by
 have e:(BitVec.ofInt 64 (a:Int)).toNat=a:=by
  rw[BitVec.ofInt_natCast,BitVec.toNat_ofNat];exact Nat.mod_eq_of_lt c
 have f:(BitVec.ofInt 64 (b:Int)).toNat=b:=by
  rw[BitVec.ofInt_natCast,BitVec.toNat_ofNat];exact Nat.mod_eq_of_lt d
 have g:a ||| b<2^64:=Nat.or_lt_two_pow c d;show IntKind.u64.wrap ((BitVec.ofInt 64 (a:Int) ||| BitVec.ofInt 64 (b:Int)).toNat:Int)=_
 rw[BitVec.toNat_or,e,f,IntKind.wrap_u64];omega
theorem BS (x y:Nat) (l:x<BN) (c:y<BN) (w:World) (v:Glob w):
  Calls Tryz.prog 209 #[.int .u64 x,.int .u64 y] w fun e w'=>e= .returned (.int .u64 (Nat.gcd x y:Nat))∧w=w':=by
 by_cases F:x=0
 ·subst F;have e:=vU 0 y (by decide) c;rw[Nat.zero_or] at e;simp only[Int.natCast_zero] at e;have Q:(((0:Nat):Int)==0)=true:=rfl;go_enter Tryz.func209,Tryz.ntmps209;go_wp2_with fail;go_ret;exact⟨by rw[Nat.gcd_zero_left];rfl,rfl⟩
 ·by_cases f:y=0
  ·subst f;have Q:((x:Int)==0)=false:=by simp;omega
   have e:=vU x 0 l (by decide);rw[Nat.or_zero] at e;simp only[Int.natCast_zero] at e;go_enter Tryz.func209,Tryz.ntmps209;go_wp2;go_ret;exact⟨by rw[Nat.gcd_zero_right];rfl,rfl⟩
  ·have Q:((x:Int)==0)=false:=by simp;omega
   have R:((y:Int)==0)=false:=by simp;omega
   have V:=vU x y l c;have O:x ||| y<BN:=by show x ||| y<2^64;exact Nat.or_lt_two_pow l c
   have P:x ||| y≠0:=by
    intro h;have:x<=x ||| y:=Nat.left_le_or;omega
   obtain⟨s,E⟩:∃s,s=Lib.ctz 64 (x ||| y):=⟨_,rfl⟩;obtain⟨i,C⟩:∃i,i=Lib.ctz 64 x:=⟨_,rfl⟩;have u:=sG F l;have n:=sG f c;have z:=sG P O;rw[<-E] at z;rw[<-C] at u;have N:s=min i (Lib.ctz 64 y):=Tz.or u.1 n.1 z.1 rfl;obtain⟨m,d⟩:=u.1;have j:=Tz.gcd (i:=i) n.1 d (by omega);rw[<-N] at j;have M:(x:Int)/2^i=((2*m+1:Nat):Int):=by
    have:x/2^i=2*m+1:=by
     conv=>lhs;rw[d]
     exact Nat.mul_div_cancel_left _ (Nat.pow_pos (by decide))
    rw[<-this,Int.natCast_ediv];simp
   have B:2*m+1<=x:=by
    have:1*(2*m+1)<=2^i*(2*m+1):=cZ _ (Nat.pow_pos (by decide));omega
   have t:(2*m+1)%2=1:=by omega
   generalize 2*m+1=a at *;have aj:=z.2;have ag:=u.2;have T:=aB E;have S:=aB C;have I:=aB j;have X:Nat.gcd x y<=x:=Nat.gcd_le_left _ (by omega);obtain⟨G,A⟩:∃G,Hid (G=Nat.gcd x y):=⟨_,rfl⟩;rw[<-A.out] at X;clear E C u n z N d j;go_enter Tryz.func209,Tryz.ntmps209;go_wp2_with fail;refine(sE (x ||| y) s P O T.out _ v).mono ?_;rintro e w' ⟨rfl,rfl⟩;go_wp2_with fail;refine(sE x i F l S.out _ v).mono ?_;rintro e w' ⟨rfl,rfl⟩;go_wp2_with fail;have L:a<BN:=by omega
   have o:Hid (2^s*Nat.gcd a y=G):=by unfold Hid;rw[A.out];exact I.out
   have g:=aB t;clear M V R t I;go_loop [0,1] (fun p q=>∃a y:Nat,p= .int .u64 a∧q= .int .u64 y∧a<BN∧y<BN∧Hid (a%2=1)∧Hid (2^s*Nat.gcd a y=G)) (fun p q=>(intOf p+intOf q).toNat)
   case atStart=>exact⟨a,y,rfl,rfl,L,c,g,o⟩
   case round=>
    clear B L o g;obtain⟨a,y,rfl,rfl,Y,c,g,o⟩:=hrel;by_cases f:y=0
    ·subst f;have ai:IntKind.u64.wrap ((a:Int)*2^s)=(G:Int):=by
      have r:=o.out;rw[Nat.gcd_zero_right] at r;have W:((2^s*a:Nat):Int)=(G:Int):=by rw[r]
      have U:(a:Int)*2^s=(G:Int):=by rw[<-W];push_cast;rw[Int.mul_comm]
      rw[U,IntKind.wrap_u64];unfold BN at l;omega
     go_wp2;go_ret;exact⟨by rw[<-A.out];rfl,rfl⟩
    ·have R:((y:Int) != 0)=true:=by simp;omega
     obtain⟨k,D⟩:∃k,k=Lib.ctz 64 y:=⟨_,rfl⟩;have n:=sG f c;rw[<-D] at n;obtain⟨⟨m,d⟩,ah⟩:=n;have M:(y:Int)/2^k=((2*m+1:Nat):Int):=by
      have:y/2^k=2*m+1:=by
       conv=>lhs;rw[d]
       exact Nat.mul_div_cancel_left _ (Nat.pow_pos (by decide))
      rw[<-this,Int.natCast_ediv];simp
     have B:2*m+1<=y:=by
      have:1*(2*m+1)<=2^k*(2*m+1):=cZ _ (Nat.pow_pos (by decide));omega
     have t:(2*m+1)%2=1:=by omega
     have j:2^s*Nat.gcd a (2*m+1)=G:=by
      have r:=o.out;rw[d,sF g.out] at r;exact r
     generalize 2*m+1=b at *;have K:=aB D;have H:=aB t;have J:=aB j;clear D d t j;have ab:1<=a:=by have:=g.out;omega
     have af:1<=b:=by have:=H.out;omega
     have Z:a<18446744073709551616:=Y;have ae:b<18446744073709551616:=Nat.lt_of_le_of_lt B c;by_cases ac:b<a
     ·go_wp2_with fail;refine(sE y k f c K.out _ v).mono ?_;rintro e w' ⟨rfl,rfl⟩;go_wp2;go_round
      case rel=>
       refine⟨b,a-b,rfl,by go_num,by omega,by omega,H,?_⟩;unfold Hid;rw[Nat.gcd_sub_self_right (by omega),Nat.gcd_comm];exact J.out
      case measure=>simp[intOf];omega
     ·have ad:¬(b:Int)<a:=by omega
      go_wp2_with fail;refine(sE y k f c K.out _ v).mono ?_;rintro e w' ⟨rfl,rfl⟩;go_wp2;go_round
      case rel=>
       refine⟨a,b-a,rfl,by go_num,by omega,by omega,g,?_⟩;unfold Hid;rw[Nat.gcd_sub_self_right (by omega)];exact J.out
      case measure=>simp[intOf];omega
