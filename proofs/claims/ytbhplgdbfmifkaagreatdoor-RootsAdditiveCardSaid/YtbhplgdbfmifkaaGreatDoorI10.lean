/-
  Contracts of functions that the statement reaches, and plain laws: GcdB.
-/
import Derived.Test.YtbhplgdbfmifkaaGreatDoorI06
import Derived.Test.YtbhplgdbfmifkaaGreatDoorI07
import Derived.Test.YtbhplgdbfmifkaaGreatDoorI08
import Derived.Test.YtbhplgdbfmifkaaGreatDoorI09
import Derived.Lib.AppendIntMem
set_option linter.unusedVariables false
set_option linter.unusedSimpArgs false
set_option maxHeartbeats 8000000
set_option maxRecDepth 100000
namespace Go.Proofs.YtbhplgdbfmifkaaGreatDoor
open Go.RowKit Sos
structure Glob (w:World):Prop where
 tz:TabAt 0 Lib.deBruijn64tab w
 pow:Lib.TabIs Tryz.prog w "internal/strconv.uint64pow10" .u64 Lib.pow10Tab
theorem Glob.below {w w':World} (h:Glob w) (hb:Below w.heap.size w w'):Glob w':=
 ⟨fun j hj=>(hb.cell (p:=⟨0,j,none⟩) (block_lt_of_cell (h.tz j hj))).trans (h.tz j hj),Lib.tabBelow_of_tabIs h.pow w' hb⟩
theorem sC (x k:Nat) (_hx0:x≠0) (hx:x<BN) (hk:k=Lib.ctz 64 x) (w:World) (hG:Glob w):
  Calls Tryz.prog 190 #[.int .u64 x] w fun e w'=>e= .returned (.int .i64 k)∧w=w':=by
 subst hk;exact(Any7.bits_TrailingZeros64 Tryz.lays7n29 x hx w (fun _=>hG.tz)).mono fun e w' h=>⟨h.1,h.2.symm⟩
theorem vJ (a b:Nat) (ha:a<BN) (hb:b<BN):bits .or .u64 (a:Int) (b:Int)=((a ||| b:Nat):Int):=by
 have h1:(BitVec.ofInt 64 (a:Int)).toNat=a:=by
  rw[BitVec.ofInt_natCast,BitVec.toNat_ofNat];exact Nat.mod_eq_of_lt ha
 have h2:(BitVec.ofInt 64 (b:Int)).toNat=b:=by
  rw[BitVec.ofInt_natCast,BitVec.toNat_ofNat];exact Nat.mod_eq_of_lt hb
 have hx:a ||| b<2^64:=Nat.or_lt_two_pow ha hb;show IntKind.u64.wrap ((BitVec.ofInt 64 (a:Int) ||| BitVec.ofInt 64 (b:Int)).toNat:Int)=_
 rw[BitVec.toNat_or,h1,h2,IntKind.wrap_u64];omega
theorem BR (x y:Nat) (hx:x<BN) (hy:y<BN) (w:World) (hG:Glob w):
  Calls Tryz.prog 156 #[.int .u64 x,.int .u64 y] w fun e w'=>e= .returned (.int .u64 (Nat.gcd x y:Nat))∧w=w':=by
 by_cases hx0:x=0
 ·subst hx0;have e:=vJ 0 y (by decide) hy;rw[Nat.zero_or] at e;simp only[Int.natCast_zero] at e;have q0:(((0:Nat):Int)==0)=true:=rfl;go_enter Tryz.func156,Tryz.ntmps156;go_wp2_with fail;go_ret;exact⟨by rw[Nat.gcd_zero_left];rfl,rfl⟩
 ·by_cases hy0:y=0
  ·subst hy0;have q0:((x:Int)==0)=false:=by simp;omega
   have e:=vJ x 0 hx (by decide);rw[Nat.or_zero] at e;simp only[Int.natCast_zero] at e;go_enter Tryz.func156,Tryz.ntmps156;go_wp2;go_ret;exact⟨by rw[Nat.gcd_zero_right];rfl,rfl⟩
  ·have q0:((x:Int)==0)=false:=by simp;omega
   have q1:((y:Int)==0)=false:=by simp;omega
   have eo:=vJ x y hx hy;have hz:x ||| y<BN:=by show x ||| y<2^64;exact Nat.or_lt_two_pow hx hy
   have hz0:x ||| y≠0:=by
    intro h;have:x≤x ||| y:=Nat.left_le_or;omega
   obtain⟨s,hs⟩:∃s,s=Lib.ctz 64 (x ||| y):=⟨_,rfl⟩;obtain⟨i,hi⟩:∃i,i=Lib.ctz 64 x:=⟨_,rfl⟩;have tx:=sF hx0 hx;have ty:=sF hy0 hy;have tz:=sF hz0 hz;rw[←hs] at tz;rw[←hi] at tx;have hs2:s=min i (Lib.ctz 64 y):=Tz.or tx.1 ty.1 tz.1 rfl;obtain⟨m,hm⟩:=tx.1;have hg:=Tz.gcd (i:=i) ty.1 hm (by omega);rw[←hs2] at hg;have hdiv:(x:Int)/2^i=((2*m+1:Nat):Int):=by
    have:x/2^i=2*m+1:=by
     conv=>lhs;rw[hm]
     exact Nat.mul_div_cancel_left _ (Nat.pow_pos (by decide))
    rw[←this,Int.natCast_ediv];simp
   have ham:2*m+1≤x:=by
    have:1*(2*m+1)≤2^i*(2*m+1):=Nat.mul_le_mul_right _ (Nat.pow_pos (by decide));omega
   have hodd:(2*m+1)%2=1:=by omega
   generalize 2*m+1=a at *;have hsl:=tz.2;have hil:=tx.2;have HS:=Lib.hid hs;have HI:=Lib.hid hi;have HG2:=Lib.hid hg;have hGle:Nat.gcd x y≤x:=Nat.gcd_le_left _ (by omega);obtain⟨G,HGe⟩:∃G,Hid (G=Nat.gcd x y):=⟨_,rfl⟩;rw[←HGe.out] at hGle;clear hs hi tx ty tz hs2 hm hg;go_enter Tryz.func156,Tryz.ntmps156;go_wp2_with fail;refine(sC (x ||| y) s hz0 hz HS.out _ hG).mono ?_;rintro e w' ⟨rfl,rfl⟩;go_wp2_with fail;refine(sC x i hx0 hx HI.out _ hG).mono ?_;rintro e w' ⟨rfl,rfl⟩;go_wp2_with fail;have hax:a<BN:=by omega
   have HG3:Hid (2^s*Nat.gcd a y=G):=by unfold Hid;rw[HGe.out];exact HG2.out
   have HOD:=Lib.hid hodd;clear hdiv eo q1 hodd HG2;go_loop [0,1] (fun p q=>∃a y:Nat,p= .int .u64 a∧q= .int .u64 y∧a<BN∧y<BN∧Hid (a%2=1)∧Hid (2^s*Nat.gcd a y=G)) (fun p q=>(intOf p+intOf q).toNat)
   case atStart=>exact⟨a,y,rfl,rfl,hax,hy,HOD,HG3⟩
   case round=>
    clear ham hax HG3 HOD;obtain⟨a,y,rfl,rfl,ha,hy,HOD,HG3⟩:=hrel;by_cases hy0:y=0
    ·subst hy0;have hsh:IntKind.u64.wrap ((a:Int)*2^s)=(G:Int):=by
      have h1:=HG3.out;rw[Nat.gcd_zero_right] at h1;have h2:((2^s*a:Nat):Int)=(G:Int):=by rw[h1]
      have e1:(a:Int)*2^s=(G:Int):=by rw[←h2];push_cast;rw[Int.mul_comm]
      rw[e1,IntKind.wrap_u64];unfold BN at hx;omega
     go_wp2;go_ret;exact⟨by rw[←HGe.out];rfl,rfl⟩
    ·have q1:((y:Int) != 0)=true:=by simp;omega
     obtain⟨k,hk⟩:∃k,k=Lib.ctz 64 y:=⟨_,rfl⟩;have ty:=sF hy0 hy;rw[←hk] at ty;obtain⟨⟨m,hm⟩,hkl⟩:=ty;have hdiv:(y:Int)/2^k=((2*m+1:Nat):Int):=by
      have:y/2^k=2*m+1:=by
       conv=>lhs;rw[hm]
       exact Nat.mul_div_cancel_left _ (Nat.pow_pos (by decide))
      rw[←this,Int.natCast_ediv];simp
     have ham:2*m+1≤y:=by
      have:1*(2*m+1)≤2^k*(2*m+1):=Nat.mul_le_mul_right _ (Nat.pow_pos (by decide));omega
     have hodd:(2*m+1)%2=1:=by omega
     have hg:2^s*Nat.gcd a (2*m+1)=G:=by
      have h1:=HG3.out;rw[hm,sE HOD.out] at h1;exact h1
     generalize 2*m+1=b at *;have HK:=Lib.hid hk;have HB:=Lib.hid hodd;have HG4:=Lib.hid hg;clear hk hm hodd hg;have ha1:1≤a:=by have:=HOD.out;omega
     have hb1:1≤b:=by have:=HB.out;omega
     have ha':a<18446744073709551616:=ha;have hb':b<18446744073709551616:=Nat.lt_of_le_of_lt ham hy;by_cases hab:b<a
     ·go_wp2_with fail;refine(sC y k hy0 hy HK.out _ hG).mono ?_;rintro e w' ⟨rfl,rfl⟩;go_wp2;go_round
      case rel=>
       refine⟨b,a-b,rfl,by go_num,by omega,by omega,HB,?_⟩;unfold Hid;rw[Nat.gcd_sub_self_right (by omega),Nat.gcd_comm];exact HG4.out
      case measure=>simp[intOf];omega
     ·have hab':¬(b:Int)<a:=by omega
      go_wp2_with fail;refine(sC y k hy0 hy HK.out _ hG).mono ?_;rintro e w' ⟨rfl,rfl⟩;go_wp2;go_round
      case rel=>
       refine⟨a,b-a,rfl,by go_num,by omega,by omega,HOD,?_⟩;unfold Hid;rw[Nat.gcd_sub_self_right (by omega)];exact HG4.out
      case measure=>simp[intOf];omega
end Go.Proofs.YtbhplgdbfmifkaaGreatDoor
