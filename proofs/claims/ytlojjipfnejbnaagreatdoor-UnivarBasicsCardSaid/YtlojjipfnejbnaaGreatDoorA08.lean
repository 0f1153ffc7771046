/-
  Contracts of functions that the statement reaches, and plain laws: Mul64, MulA, MulP.
-/
import Derived.Test.YtlojjipfnejbnaaGreatDoorA05
import Derived.Test.YtlojjipfnejbnaaGreatDoorA07
set_option linter.unusedVariables false
set_option linter.unusedSimpArgs false
set_option maxHeartbeats 8000000
set_option maxRecDepth 100000
namespace Go.Proofs.YtlojjipfnejbnaaGreatDoor
open Go.RowKit Sos
def Split (t s c:Int):Prop:=s+B64*c=t∧0≤s∧s<B64
theorem split_of (t:Int):∃s c,Split t s c:=⟨lo64 t,hi64 t,lo_hi t,(lo64_bd t).1,(lo64_bd t).2⟩
theorem Split.lo {t s c:Int} (h:Split t s c):lo64 t=s:=by
 obtain⟨h1,h2,h3⟩:=h;unfold lo64;unfold B64 at *;omega
theorem Split.hi {t s c:Int} (h:Split t s c):hi64 t=c:=by
 obtain⟨h1,h2,h3⟩:=h;unfold hi64;unfold B64 at *;omega
theorem Split.hi_bd {t s c:Int} (h:Split t s c) (h0:0≤t) {m:Int} (hm:t<B64*m):0≤c∧c<m:=by
 rw[←h.hi];exact hi64_bd h0 hm
theorem add64_s (x y c s k:Int) (hx:0≤x∧x<B64) (hy:0≤y∧y<B64) (hc:0≤c∧c≤1) (h:Split (x+y+c) s k) (w:World):
  (callFunc 171 #[.int .u64 x,.int .u64 y,.int .u64 c]).run Tryz.prog w= .ok (.value (.tuple #[.int .u64 s,.int .u64 k])) w:=by
 rw[add64 x y c hx.1 hy.1 hc.1 hc.2 hx.2 hy.2,h.lo,h.hi]
theorem add64_s0 (x y s k:Int) (hx:0≤x∧x<B64) (hy:0≤y∧y<B64) (h:Split (x+y) s k) (w:World):
  (callFunc 171 #[.int .u64 x,.int .u64 y,.int .u64 0]).run Tryz.prog w= .ok (.value (.tuple #[.int .u64 s,.int .u64 k])) w:=by
 rw[add64_0 x y hx.1 hy.1 hx.2 hy.2,h.lo,h.hi]
def Diff (t u d k:Int):Prop:=d=t-u+B64*k∧0≤d∧d<B64∧(k=0∨k=1)
theorem diff_of {t u:Int} (h0:0≤t) (h1:t<B64) (h2:0≤u) (h3:u≤B64):∃d k,Diff t u d k:=
 ⟨lo64 (t-u),bor t u,lo_bor h0 h1 h2 h3,(lo64_bd _).1,(lo64_bd _).2,by unfold bor;split<;>simp⟩
theorem Diff.lo {t u d k:Int} (h:Diff t u d k) (h0:0≤t) (h1:t<B64) (h2:0≤u) (h3:u≤B64):lo64 (t-u)=d:=by
 obtain⟨a,b,c,e⟩:=h
 rw[lo_bor h0 h1 h2 h3,a];unfold bor;unfold B64 at *;split<;>omega
theorem Diff.bo {t u d k:Int} (h:Diff t u d k) (h0:0≤t) (h1:t<B64) (h2:0≤u) (h3:u≤B64):bor t u=k:=by
 obtain⟨a,b,c,e⟩:=h
 unfold bor;unfold B64 at *;split<;>omega
theorem sub64_s (x y c d k:Int) (hx:0≤x∧x<B64) (hy:0≤y∧y<B64) (hc:0≤c∧c≤1) (h:Diff x (y+c) d k) (w:World):
  (callFunc 194 #[.int .u64 x,.int .u64 y,.int .u64 c]).run Tryz.prog w= .ok (.value (.tuple #[.int .u64 d,.int .u64 k])) w:=by
 rw[sub64 x y c hx.1 hy.1 hc.1 hc.2 hx.2 hy.2,show x-y-c=x-(y+c) by omega,h.lo hx.1 hx.2 (by omega) (by omega),h.bo hx.1 hx.2 (by omega) (by omega)]
theorem sub64_s0 (x y d k:Int) (hx:0≤x∧x<B64) (hy:0≤y∧y<B64) (h:Diff x y d k) (w:World):
  (callFunc 194 #[.int .u64 x,.int .u64 y,.int .u64 0]).run Tryz.prog w= .ok (.value (.tuple #[.int .u64 d,.int .u64 k])) w:=by
 rw[sub64_0 x y hx.1 hy.1 hx.2 hy.2,h.lo hx.1 hx.2 (by omega) (by omega),h.bo hx.1 hx.2 (by omega) (by omega)]
theorem mul64_s (x y s k:Int) (hx:0≤x∧x<B64) (hy:0≤y∧y<B64) (h:Split (x*y) s k) (w:World):
  Calls Tryz.prog 176 #[.int .u64 x,.int .u64 y] w fun e w'=>e= .returned (.tuple #[.int .u64 k,.int .u64 s])∧w=w':=by
 rw[←h.lo,←h.hi]
 unfold lo64 hi64;unfold B64 at hx hy
 obtain⟨x,rfl⟩:=Int.eq_ofNat_of_zero_le hx.1
 obtain⟨y,rfl⟩:=Int.eq_ofNat_of_zero_le hy.1
 refine(Tryz.bits_Mul64 x y (by omega) (by omega) w).mono fun e w' hh=>⟨?_,hh.2.symm⟩
 rw[hh.1,←Int.natCast_mul]
 rfl
theorem mul_lt {x y m n:Int} (hx:0≤x) (hx':x≤m) (hy:0≤y) (hy':y≤n):0≤x*y∧x*y≤m*n:=
 ⟨Int.mul_nonneg hx hy,Int.mul_le_mul hx' hy' hy (by omega)⟩
theorem mac_bd {x y c z:Int} (hx:0≤x∧x<B64) (hy:0≤y∧y<B64) (hc:0≤c∧c<B64) (hz:0≤z∧z<B64):0≤z+x*y+c∧z+x*y+c<B64*B64:=by
 have:=mul_lt hx.1 (show x≤B64-1 by omega) hy.1 (show y≤B64-1 by omega)
 have e:(B64-1)*(B64-1)=B64*B64-2*B64+1:=by rfl
 omega
theorem mac_step {zs xs:List Int} {k:Nat} {c y H L C1 S1 C2 S2 T:Int} (hk:k<zs.length) (hkx:k<xs.length) (h1:Split (xs.getD k 0*y) L H) (h2:Split (L+c) S1 C1) (h3:Split (zs.getD k 0+S1) S2 C2)
  (h:val B64 zs+c*B64^k=T+val B64 (xs.take k)*y):
  val B64 (zs.set k S2)+(H+C1+C2)*B64^(k+1)=T+val B64 (xs.take (k+1))*y:=by
 have e1:=h1.1
 have e2:=h2.1
 have e3:=h3.1
 rw[val_set _ _ _ _ hk,val_take_succ _ _ _ hkx,Int.pow_succ]
 generalize zs.getD k 0=z at *
 generalize xs.getD k 0=x at *
 generalize B64^k=p at *
 generalize val B64 zs=s at *
 generalize val B64 (xs.take k)=u at *
 generalize B64=b at *
 have e4:S2+b*(H+C1+C2)=z+x*y+c:=by grind
 have e5:p*(S2+b*(H+C1+C2))=p*(z+x*y+c):=by rw[e4]
 grind
theorem mac_carry {x y c z H L C1 S1 C2 S2:Int} (hx:0≤x∧x<B64) (hy:0≤y∧y<B64) (hc:0≤c∧c<B64) (hz:0≤z∧z<B64) (h1:Split (x*y) L H) (h2:Split (L+c) S1 C1) (h3:Split (z+S1) S2 C2):
  0≤H∧H<B64∧0≤C1∧C1≤1∧0≤C2∧C2≤1∧H+C1<B64∧H+C1+C2<B64:=by
 have hb:=mac_bd hx hy hc hz
 have e1:=h1.1
 have e2:=h2.1
 have e3:=h3.1
 have b1:=h1.2;have b2:=h2.2;have b3:=h3.2
 have m:=mul_lt hx.1 (show x≤B64-1 by omega) hy.1 (show y≤B64-1 by omega)
 generalize x*y=p at *
 have hb64:B64*B64=B64*18446744073709551616:=rfl
 have e4:(B64-1)*(B64-1)=B64*B64-2*B64+1:=by rfl
 unfold B64 at *
 omega
theorem addProduct_any (g off:Nat) (zs:List Int) (cz:Nat) (A:Option Addr) (xs:List Int) (cx n:Nat) (y:Int) (w:World) (hzn:zs.length=n) (hxn:xs.length=n)
  (hz:Cells .u64 w g off zs) (hsoft:Soft w g) (hb:n*8≤281474976710656) (hx:Rd .u64 w A xs)
  (hne:∀b o,A=some ⟨b,o,none⟩→0<n→b≠g) (hZ:InR B64 zs) (hX:InR B64 xs) (hy:0≤y∧y<B64):
  Calls Tryz.prog 143 #[.slice (some ⟨g,off,none⟩) n cz,.slice A n cx,.int .u64 y] w fun e w'=>
   ∃ts c,e= .returned (.int .u64 c)∧0≤c∧c<B64∧ts.length=n∧InR B64 ts∧val B64 ts+c*B64^n=val B64 zs+val B64 xs*y∧Cells .u64 w' g off ts∧Only g off n w w':=by
 have HZN:=Lib.hid hzn
 have HXN:=Lib.hid hxn
 clear hzn hxn
 go_enter Tryz.func143,Tryz.ntmps143
 go_wp2
 go_loopw [7,16] (fun t i wr=>∃(k:Nat) (ts:List Int) (c:Int),k≤n∧i= .int .i64 k∧t= .int .u64 c∧0≤c∧c<B64∧Hid (ts.length=n)∧InR B64 ts∧
   Hid (val B64 ts+c*B64^k=val B64 zs+val B64 (xs.take k)*y)∧Cells .u64 wr g off ts∧Only g off n w wr) (fun _ i _=>n-(intOf i).toNat)
 case atStart=>exact⟨0,zs,0,Nat.zero_le _,rfl,rfl,by decide,by decide,HZN,hZ,by simp[Hid],hz,Only.refl _ _ _ _⟩
 case round=>
  obtain⟨k,ts,c,hk,rfl,rfl,hc0,hc1,htl,ht,hval,hcell,hon⟩:=hrel
  by_cases hlt:k<n
  ·obtain⟨b,o,rfl,hbs,hxc⟩:=(hon.rd hx (fun b o e h=>hne b o e (by have:=HXN.out;omega))).at_ (by have:=HXN.out;omega)
   have h1:=hxc k (by have:=HXN.out;omega)
   have h2:=hcell k (by have:=htl.out;omega)
   have hf:=(hon.soft hsoft).free (off+k)
   have b1:=ht.getD B64_pos k
   have b2:=hX.getD B64_pos k
   have HC:=Lib.hid hcell
   have HN:=Lib.hid hne
   have HO:=Lib.hid hon
   obtain⟨L,H,hs1⟩:=split_of (xs.getD k 0*y)
   obtain⟨S1,C1,hs2⟩:=split_of (L+c)
   obtain⟨S2,C2,hs3⟩:=split_of (ts.getD k 0+S1)
   have hstep:=mac_step (T:=val B64 zs) (show k<ts.length by have:=htl.out;omega) (show k<xs.length by have:=HXN.out;omega) hs1 hs2 hs3 hval.out
   have hcar:=mac_carry b2 hy ⟨hc0,hc1⟩ b1 hs1 hs2 hs3
   generalize hxe:xs.getD k 0=x at *
   generalize hye:ts.getD k 0=z at *
   have HX:=Lib.hid hxe
   have HYE:=Lib.hid hye
   have HS:=Lib.hid hstep
   have HS1:=Lib.hid hs1
   have HS2:=Lib.hid hs2
   have HS3:=Lib.hid hs3
   have d1:=hs1.2;have d2:=hs2.2;have d3:=hs3.2
   obtain⟨q0,q1,q2,q3,q4,q5,q6,q7⟩:=hcar
   have q8:H+C1≤18446744073709551615:=by unfold B64 at q6;omega
   have q9:H+C1+C2≤18446744073709551615:=by unfold B64 at q7;omega
   clear hcell hxc hne hon hxe hye hstep hs1 hs2 hs3
   go_wp2_with (first
    |(go_at_call 176;refine(mul64_s x y L H b2 hy HS1.out _).mono ?_;rintro e w' ⟨rfl,rfl⟩)
    |simp only[add64_s0 L c S1 C1 d1 ⟨hc0,hc1⟩ HS2.out]
    |simp only[add64_s0 z S1 S2 C2 b1 d2 HS3.out])
   go_roundw
   case rel=>
    refine⟨k+1,ts.set k S2,H+C1+C2,by omega,by go_num,rfl,by omega,q7,?_,ht.set d3.1 d3.2 k,HS,HC.out.set (by have:=htl.out;omega) _,HO.out.set (by omega) _⟩
    have:=htl.out
    simpa [Hid] using this
   case measure=>simp[intOf];omega
  ·obtain rfl:k=n:=by omega
   go_wp2
   go_ret
   refine⟨ts,c,rfl,hc0,hc1,htl.out,ht,?_,hcell,hon⟩
   have h1:=hval.out
   rw[List.take_of_length_le (by have:=HXN.out;omega)] at h1
   exact h1
theorem mas_step {zs xs:List Int} {k:Nat} {c y H L C1 S1 C2 S2 T:Int} (hk:k<zs.length) (hkx:k<xs.length) (h1:Split (xs.getD k 0*y) L H) (h2:Split (L+c) S1 C1) (h3:Diff (zs.getD k 0) S1 S2 C2)
  (h:val B64 zs-c*B64^k=T-val B64 (xs.take k)*y):
  val B64 (zs.set k S2)-(H+C1+C2)*B64^(k+1)=T-val B64 (xs.take (k+1))*y:=by
 have e1:=h1.1
 have e2:=h2.1
 have e3:=h3.1
 rw[val_set _ _ _ _ hk,val_take_succ _ _ _ hkx,Int.pow_succ]
 generalize zs.getD k 0=z at *
 generalize xs.getD k 0=x at *
 generalize B64^k=p at *
 generalize val B64 zs=s at *
 generalize val B64 (xs.take k)=u at *
 generalize B64=b at *
 have e4:S2-b*(H+C1+C2)=z-x*y-c:=by grind
 have e5:p*(S2-b*(H+C1+C2))=p*(z-x*y-c):=by rw[e4]
 grind
theorem mas_carry {x y c z H L C1 S1 C2 S2:Int} (hx:0≤x∧x<B64) (hy:0≤y∧y<B64) (hc:0≤c∧c<B64) (hz:0≤z∧z<B64) (h1:Split (x*y) L H) (h2:Split (L+c) S1 C1) (h3:Diff z S1 S2 C2):
  0≤H∧H<B64∧0≤C1∧C1≤1∧0≤C2∧C2≤1∧H+C1<B64∧H+C1+C2<B64:=by
 have e1:=h1.1
 have e2:=h2.1
 have e3:=h3.1
 have b1:=h1.2;have b2:=h2.2;have b3:=h3.2
 have m:=mul_lt hx.1 (show x≤B64-1 by omega) hy.1 (show y≤B64-1 by omega)
 generalize x*y=p at *
 have e4:(B64-1)*(B64-1)=B64*18446744073709551616-2*B64+1:=by rfl
 unfold B64 at *
 omega
theorem subtractProduct_any (g off:Nat) (zs:List Int) (cz:Nat) (A:Option Addr) (xs:List Int) (cx n:Nat) (y:Int) (w:World) (hzn:zs.length=n) (hxn:xs.length=n)
  (hz:Cells .u64 w g off zs) (hsoft:Soft w g) (hb:n*8≤281474976710656) (hx:Rd .u64 w A xs)
  (hne:∀b o,A=some ⟨b,o,none⟩→0<n→b≠g) (hZ:InR B64 zs) (hX:InR B64 xs) (hy:0≤y∧y<B64):
  Calls Tryz.prog 218 #[.slice (some ⟨g,off,none⟩) n cz,.slice A n cx,.int .u64 y] w fun e w'=>
   ∃ts c,e= .returned (.int .u64 c)∧0≤c∧c<B64∧ts.length=n∧InR B64 ts∧val B64 ts-c*B64^n=val B64 zs-val B64 xs*y∧Cells .u64 w' g off ts∧Only g off n w w':=by
 have HZN:=Lib.hid hzn
 have HXN:=Lib.hid hxn
 clear hzn hxn
 go_enter Tryz.func218,Tryz.ntmps218
 go_wp2
 go_loopw [7,16] (fun t i wr=>∃(k:Nat) (ts:List Int) (c:Int),k≤n∧i= .int .i64 k∧t= .int .u64 c∧0≤c∧c<B64∧Hid (ts.length=n)∧InR B64 ts∧
   Hid (val B64 ts-c*B64^k=val B64 zs-val B64 (xs.take k)*y)∧Cells .u64 wr g off ts∧Only g off n w wr) (fun _ i _=>n-(intOf i).toNat)
 case atStart=>exact⟨0,zs,0,Nat.zero_le _,rfl,rfl,by decide,by decide,HZN,hZ,by simp[Hid],hz,Only.refl _ _ _ _⟩
 case round=>
  obtain⟨k,ts,c,hk,rfl,rfl,hc0,hc1,htl,ht,hval,hcell,hon⟩:=hrel
  by_cases hlt:k<n
  ·obtain⟨b,o,rfl,hbs,hxc⟩:=(hon.rd hx (fun b o e h=>hne b o e (by have:=HXN.out;omega))).at_ (by have:=HXN.out;omega)
   have h1:=hxc k (by have:=HXN.out;omega)
   have h2:=hcell k (by have:=htl.out;omega)
   have hf:=(hon.soft hsoft).free (off+k)
   have b1:=ht.getD B64_pos k
   have b2:=hX.getD B64_pos k
   have HC:=Lib.hid hcell
   have HN:=Lib.hid hne
   have HO:=Lib.hid hon
   obtain⟨L,H,hs1⟩:=split_of (xs.getD k 0*y)
   obtain⟨S1,C1,hs2⟩:=split_of (L+c)
   obtain⟨S2,C2,hs3⟩:=diff_of b1.1 b1.2 hs2.2.1 (Int.le_of_lt hs2.2.2)
   have hstep:=mas_step (T:=val B64 zs) (show k<ts.length by have:=htl.out;omega) (show k<xs.length by have:=HXN.out;omega) hs1 hs2 hs3 hval.out
   have hcar:=mas_carry b2 hy ⟨hc0,hc1⟩ b1 hs1 hs2 hs3
   generalize hxe:xs.getD k 0=x at *
   generalize hye:ts.getD k 0=z at *
   have HX:=Lib.hid hxe
   have HYE:=Lib.hid hye
   have HS:=Lib.hid hstep
   have HS1:=Lib.hid hs1
   have HS2:=Lib.hid hs2
   have HS3:=Lib.hid hs3
   have d1:=hs1.2;have d2:=hs2.2;have d3:0≤S2∧S2<B64:=⟨hs3.2.1,hs3.2.2.1⟩
   obtain⟨q0,q1,q2,q3,q4,q5,q6,q7⟩:=hcar
   have q8:H+C1≤18446744073709551615:=by unfold B64 at q6;omega
   have q9:H+C1+C2≤18446744073709551615:=by unfold B64 at q7;omega
   clear hcell hxc hne hon hxe hye hstep hs1 hs2 hs3
   go_wp2_with (first
    |(go_at_call 176;refine(mul64_s x y L H b2 hy HS1.out _).mono ?_;rintro e w' ⟨rfl,rfl⟩)
    |simp only[add64_s0 L c S1 C1 d1 ⟨hc0,hc1⟩ HS2.out]
    |simp only[sub64_s0 z S1 S2 C2 b1 d2 HS3.out])
   go_roundw
   case rel=>
    refine⟨k+1,ts.set k S2,H+C1+C2,by omega,by go_num,rfl,by omega,q7,?_,ht.set d3.1 d3.2 k,HS,HC.out.set (by have:=htl.out;omega) _,HO.out.set (by omega) _⟩
    have:=htl.out
    simpa [Hid] using this
   case measure=>simp[intOf];omega
  ·obtain rfl:k=n:=by omega
   go_wp2
   go_ret
   refine⟨ts,c,rfl,hc0,hc1,htl.out,ht,?_,hcell,hon⟩
   have h1:=hval.out
   rw[List.take_of_length_le (by have:=HXN.out;omega)] at h1
   exact h1
theorem val_take_dg (n k:Nat):val B64 ((dg n).take k)=(n%BN^k:Nat):=by
 rcases Nat.lt_or_ge k (nl n) with hk|hk
 ·have h:=val_take_drop B64 (dg n) k (by rw[dg_len];omega)
  rw[val_dg] at h
  have h1:=val_nonneg B64_pos ((inR_dg n).take k)
  have h2:=val_lt B64_pos ((inR_dg n).take k)
  rw[List.length_take,dg_len,Nat.min_eq_left (by omega)] at h2
  rw[Int.natCast_emod,pow_cast,h,Int.add_mul_emod_self_left,Int.emod_eq_of_lt h1 h2]
 ·rw[List.take_of_length_le (by rw[dg_len];exact hk),val_dg,Nat.mod_eq_of_lt]
  exact Nat.lt_of_lt_of_le (lt_pow_nl n) (Nat.pow_le_pow_right (by decide) hk)
theorem val_drop_dg (n k:Nat):val B64 ((dg n).drop k)=(n/BN^k:Nat):=by
 rcases Nat.lt_or_ge k (nl n) with hk|hk
 ·have h:=val_take_drop B64 (dg n) k (by rw[dg_len];omega)
  rw[val_dg] at h
  have h1:=val_nonneg B64_pos ((inR_dg n).take k)
  have h2:=val_lt B64_pos ((inR_dg n).take k)
  rw[List.length_take,dg_len,Nat.min_eq_left (by omega)] at h2
  have h3:=pow_pos' B64_pos k
  rw[Int.natCast_ediv,pow_cast,h,Int.add_mul_ediv_left _ _ (by omega),Int.ediv_eq_zero_of_lt h1 h2,Int.zero_add]
 ·rw[List.drop_of_length_le (by rw[dg_len];exact hk),Nat.div_eq_of_lt]
  ·rfl
  ·exact Nat.lt_of_lt_of_le (lt_pow_nl n) (Nat.pow_le_pow_right (by decide) hk)
theorem noZ_drop {zs:List Int} (h:NoZ zs) (k:Nat):NoZ (zs.drop k):=by
 unfold NoZ at *
 rw[List.getLast?_drop]
 split
 ·simp
 ·exact h
theorem dg_drop (n k:Nat):(dg n).drop k=dg (n/BN^k):=dg_eq ⟨(inR_dg n).drop k,noZ_drop (canon_dg n).2 k⟩ (val_drop_dg n k)
theorem dg_take (n k:Nat):trimL ((dg n).take k)=dg (n%BN^k):=dg_trim ((inR_dg n).take k) (val_take_dg n k)
theorem nl_div (n k:Nat):nl (n/BN^k)=nl n-k:=by rw[←dg_len,←dg_drop,List.length_drop,dg_len]
theorem nl_mod (n k:Nat):nl (n%BN^k)≤min k (nl n):=by
 rw[←dg_len,←dg_take]
 have:=trimL_len ((dg n).take k)
 rw[List.length_take,dg_len] at this
 exact this
theorem kara_eq (p s b:Nat) (hb:0<b):
  p*s=(p%b)*(s%b)+b*((p%b+p/b)*(s%b+s/b)-(p%b)*(s%b)-(p/b)*(s/b))+b*b*((p/b)*(s/b))∧
   (p%b)*(s%b)≤(p%b+p/b)*(s%b+s/b)∧(p/b)*(s/b)≤(p%b+p/b)*(s%b+s/b)-(p%b)*(s%b):=by
 have e1:=Nat.mod_add_div p b
 have e2:=Nat.mod_add_div s b
 generalize p%b=x0 at *
 generalize p/b=x1 at *
 generalize s%b=y0 at *
 generalize s/b=y1 at *
 have e3:(x0+x1)*(y0+y1)=x0*y0+x1*y1+(x0*y1+x1*y0):=by grind
 have e4:(x0+x1)*(y0+y1)-x0*y0-x1*y1=x0*y1+x1*y0:=by omega
 rw[e4]
 refine⟨?_,by omega,by omega⟩
 rw[←e1,←e2]
 grind
theorem high_lt {z m t:Int} {k n:Nat} (zs:List Int) (hz:InR B64 zs) (hk:k≤zs.length) (hn:zs.length=n) (hv:val B64 zs+B64^k*m=t) (ht:t<B64^n):val B64 (zs.drop k)+m<B64^(n-k):=by
 rw[val_take_drop B64 zs k hk] at hv
 have h1:=val_nonneg B64_pos (hz.take k)
 have h3:=pow_pos' B64_pos k
 have e:B64^n=B64^k*B64^(n-k):=by rw[←Int.pow_add];congr 1;omega
 rw[e] at ht
 have h4:B64^k*(val B64 (zs.drop k)+m)<B64^k*B64^(n-k):=by rw[Int.mul_add];omega
 exact Int.lt_of_mul_lt_mul_left h4 (by omega)
def patch (zs ts:List Int) (k:Nat):List Int:=zs.take k++(ts++zs.drop (k+ts.length))
theorem length_patch {zs ts:List Int} {k:Nat} (h:k+ts.length≤zs.length):(patch zs ts k).length=zs.length:=by simp[patch];omega
theorem inR_patch {zs ts:List Int} {b:Int} (hz:InR b zs) (ht:InR b ts) (k:Nat):InR b (patch zs ts k):=(hz.take k).append (ht.append (hz.drop _))
theorem patch_getD {zs ts:List Int} {k j:Nat} (h:k+ts.length≤zs.length) (hj:k+ts.length≤j):(patch zs ts k).getD j 0=zs.getD j 0:=by
 unfold patch
 have hl:(zs.take k).length=k:=by rw[List.length_take];omega
 simp only[List.getD_eq_getElem?_getD]
 rw[List.getElem?_append_right (by omega),hl,List.getElem?_append_right (by omega),List.getElem?_drop]
 congr 2;omega
theorem val_patch {zs ts:List Int} {k:Nat} (h:k+ts.length≤zs.length):val B64 (patch zs ts k)=val B64 zs+B64^k*(val B64 ts-val B64 ((zs.drop k).take ts.length)):=by
 unfold patch
 have hl:(zs.take k).length=k:=by rw[List.length_take];omega
 rw[val_append,val_append,hl,val_take_drop B64 zs k (by omega),val_take_drop B64 (zs.drop k) ts.length (by rw[List.length_drop];omega),List.drop_drop]
 grind
theorem Only.patch {g k m:Nat} {w2 w3:World} {zs ts:List Int} (ho:Only g k m w2 w3) (hc:Cells .u64 w2 g 0 zs) (htl:ts.length=m) (ht:Cells .u64 w3 g k ts) (hk:k+m≤zs.length):
  Cells .u64 w3 g 0 (patch zs ts k):=by
 subst htl
 have hl:(zs.take k).length=k:=by rw[List.length_take];omega
 refine Cells.append (fun i hi=> ?_) (Cells.append (by rw[hl,Nat.zero_add];exact ht) (fun i hi=> ?_))
 ·rw[ho.rest (0+i) (.inl (by omega))]
  exact hc.take k i hi
 ·rw[hl,Nat.zero_add,ho.rest _ (.inr (by omega))]
  have:=hc.drop (k+ts.length) i hi
  rwa [Nat.zero_add] at this
theorem mul_round {zs ts:List Int} {k m n:Nat} {c y P:Int} (hzl:zs.length=n) (hk:k+m<n) (htl:ts.length=m) (hts:val B64 ts+c*B64^m=val B64 ((zs.drop k).take m)+P*y) (h0:zs.getD (k+m) 0=0):
  val B64 ((patch zs ts k).set (k+m) c)=val B64 zs+B64^k*(P*y):=by
 subst hzl htl
 rw[val_set _ _ _ _ (by rw[length_patch (by omega)];exact hk),val_patch (by omega),patch_getD (by omega) (Nat.le_refl _),h0]
 have e:B64^(k+ts.length)=B64^k*B64^ts.length:=Int.pow_add _ _ _
 rw[e]
 grind
theorem over_zeros_eq (n:Nat) (ys:List Int) (h:ys.length≤n):over (List.replicate n 0) ys=ys++List.replicate (n-ys.length) 0:=by
 unfold over
 rw[List.length_replicate,List.take_of_length_le h,List.drop_replicate]
theorem kara_fill {lo hi h n:Nat} (h1:nl lo≤2*h) (h2:2*h≤n) (h3:nl hi≤n-2*h):
  let zs:=over (List.replicate n 0) (dg lo)
  let us:=over (zs.drop (2*h)) (dg hi)
  us.length=n-2*h∧InR B64 us∧InR B64 zs∧zs.length=n∧val B64 (patch zs us (2*h))=lo+B64^(2*h)*hi:=by
 intro zs us
 have e1:zs=dg lo++List.replicate (n-nl lo) 0:=over_zeros_eq n (dg lo) (by rw[dg_len];omega)
 have e2:zs.drop (2*h)=List.replicate (n-2*h) 0:=by
  rw[e1,List.drop_append,List.drop_of_length_le (by rw[dg_len];exact h1),dg_len,List.nil_append,List.drop_replicate]
  congr 1;omega
 have hl:zs.length=n:=by show(over _ _).length=n;rw[length_over,List.length_replicate]
 have hu:us.length=n-2*h:=by show(over _ _).length=_;rw[length_over,List.length_drop,hl]
 have hiz:InR B64 zs:=(inR_dg lo).take _ |>.append ((InR.replicate B64_pos _).drop _)
 have hiu:InR B64 us:=((inR_dg hi).take _).append ((hiz.drop _).drop _)
 refine⟨hu,hiu,hiz,hl,?_⟩
 have v1:val B64 zs=lo:=by show val B64 (over _ _)=_;rw[over_zeros _ _ (by rw[dg_len];omega),val_dg]
 have v2:val B64 us=hi:=by
  show val B64 (over (zs.drop (2*h)) (dg hi))=_
  rw[e2,over_zeros _ _ (by rw[dg_len];omega),val_dg]
 rw[val_patch (by omega),hu,e2,v1,v2]
 rw[List.take_of_length_le (by simp),val_replicate]
 simp
end Go.Proofs.YtlojjipfnejbnaaGreatDoor
