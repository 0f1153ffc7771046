/-
  Contracts of functions that the statement reaches, and plain laws: Mul64, MulA, MulP.
-/
import Derived.Test.YtbhplgdbfmifkaaGreatDoorI05
import Derived.Test.YtbhplgdbfmifkaaGreatDoorI07
set_option linter.unusedVariables false
set_option linter.unusedSimpArgs false
set_option maxHeartbeats 8000000
set_option maxRecDepth 100000
namespace Go.Proofs.YtbhplgdbfmifkaaGreatDoor
open Go.RowKit Sos
def Split (t s c:Int):Prop:=s+aA*c=t∧0≤s∧s<aA
theorem fK (t:Int):∃s c,Split t s c:=⟨cB t,eX t,vX t,(iH t).1,(iH t).2⟩
theorem Split.lo {t s c:Int} (h:Split t s c):cB t=s:=by
 obtain⟨h1,h2,h3⟩:=h;unfold cB;unfold aA at *;omega
theorem Split.hi {t s c:Int} (h:Split t s c):eX t=c:=by
 obtain⟨h1,h2,h3⟩:=h;unfold eX;unfold aA at *;omega
theorem Split.hi_bd {t s c:Int} (h:Split t s c) (h0:0≤t) {m:Int} (hm:t<aA*m):0≤c∧c<m:=by
 rw[←h.hi];exact pT h0 hm
theorem oP (x y s k:Int) (hx:0≤x∧x<aA) (hy:0≤y∧y<aA) (h:Split (x+y) s k) (w:World):
  (callFunc 171 #[.int .u64 x,.int .u64 y,.int .u64 0]).run Tryz.prog w= .ok (.value (.tuple #[.int .u64 s,.int .u64 k])) w:=by
 rw[KO x y hx.1 hy.1 hx.2 hy.2,h.lo,h.hi]
def Diff (t u d k:Int):Prop:=d=t-u+aA*k∧0≤d∧d<aA∧(k=0∨k=1)
theorem pV {t u:Int} (h0:0≤t) (h1:t<aA) (h2:0≤u) (h3:u≤aA):∃d k,Diff t u d k:=
 ⟨cB (t-u),fS t u,vY h0 h1 h2 h3,(iH _).1,(iH _).2,by unfold fS;split<;>simp⟩
theorem Diff.lo {t u d k:Int} (h:Diff t u d k) (h0:0≤t) (h1:t<aA) (h2:0≤u) (h3:u≤aA):cB (t-u)=d:=by
 obtain⟨a,b,c,e⟩:=h;rw[vY h0 h1 h2 h3,a];unfold fS;unfold aA at *;split<;>omega
theorem Diff.bo {t u d k:Int} (h:Diff t u d k) (h0:0≤t) (h1:t<aA) (h2:0≤u) (h3:u≤aA):fS t u=k:=by
 obtain⟨a,b,c,e⟩:=h;unfold fS;unfold aA at *;split<;>omega
theorem sR (x y c d k:Int) (hx:0≤x∧x<aA) (hy:0≤y∧y<aA) (hc:0≤c∧c≤1) (h:Diff x (y+c) d k) (w:World):
  (callFunc 189 #[.int .u64 x,.int .u64 y,.int .u64 c]).run Tryz.prog w= .ok (.value (.tuple #[.int .u64 d,.int .u64 k])) w:=by
 rw[sQ x y c hx.1 hy.1 hc.1 hc.2 hx.2 hy.2,show x-y-c=x-(y+c) by omega,h.lo hx.1 hx.2 (by omega) (by omega),h.bo hx.1 hx.2 (by omega) (by omega)]
theorem LB (x y d k:Int) (hx:0≤x∧x<aA) (hy:0≤y∧y<aA) (h:Diff x y d k) (w:World):
  (callFunc 189 #[.int .u64 x,.int .u64 y,.int .u64 0]).run Tryz.prog w= .ok (.value (.tuple #[.int .u64 d,.int .u64 k])) w:=by
 rw[KQ x y hx.1 hy.1 hx.2 hy.2,h.lo hx.1 hx.2 (by omega) (by omega),h.bo hx.1 hx.2 (by omega) (by omega)]
theorem f9 (x y s k:Int) (hx:0≤x∧x<aA) (hy:0≤y∧y<aA) (h:Split (x*y) s k) (w:World):
  Calls Tryz.prog 195 #[.int .u64 x,.int .u64 y] w fun e w'=>e= .returned (.tuple #[.int .u64 k,.int .u64 s])∧w=w':=by
 rw[←h.lo,←h.hi];unfold cB eX;unfold aA at hx hy;obtain⟨x,rfl⟩:=Int.eq_ofNat_of_zero_le hx.1;obtain⟨y,rfl⟩:=Int.eq_ofNat_of_zero_le hy.1;refine(Tryz.bits_Mul64 x y (by omega) (by omega) w).mono fun e w' hh=>⟨?_,hh.2.symm⟩;rw[hh.1,←Int.natCast_mul];rfl
theorem iV {x y m n:Int} (hx:0≤x) (hx':x≤m) (hy:0≤y) (hy':y≤n):0≤x*y∧x*y≤m*n:=
 ⟨Int.mul_nonneg hx hy,Int.mul_le_mul hx' hy' hy (by omega)⟩
theorem jN {x y c z:Int} (hx:0≤x∧x<aA) (hy:0≤y∧y<aA) (hc:0≤c∧c<aA) (hz:0≤z∧z<aA):0≤z+x*y+c∧z+x*y+c<aA*aA:=by
 have:=iV hx.1 (show x≤aA-1 by omega) hy.1 (show y≤aA-1 by omega);have e:(aA-1)*(aA-1)=aA*aA-2*aA+1:=by rfl
 omega
theorem KZ {zs xs:List Int} {k:Nat} {c y H L C1 S1 C2 S2 T:Int} (hk:k<zs.length) (hkx:k<xs.length) (h1:Split (xs.getD k 0*y) L H) (h2:Split (L+c) S1 C1) (h3:Split (zs.getD k 0+S1) S2 C2)
  (h:aD aA zs+c*aA^k=T+aD aA (xs.take k)*y):
  aD aA (zs.set k S2)+(H+C1+C2)*aA^(k+1)=T+aD aA (xs.take (k+1))*y:=by
 have e1:=h1.1;have e2:=h2.1;have e3:=h3.1;rw[kO _ _ _ _ hk,gF _ _ _ hkx,Int.pow_succ];generalize zs.getD k 0=z at *;generalize xs.getD k 0=x at *;generalize aA^k=p at *;generalize aD aA zs=s at *;generalize aD aA (xs.take k)=u at *;generalize aA=b at *;have e4:S2+b*(H+C1+C2)=z+x*y+c:=by grind
 have e5:p*(S2+b*(H+C1+C2))=p*(z+x*y+c):=by rw[e4]
 grind
theorem L0 {x y c z H L C1 S1 C2 S2:Int} (hx:0≤x∧x<aA) (hy:0≤y∧y<aA) (hc:0≤c∧c<aA) (hz:0≤z∧z<aA) (h1:Split (x*y) L H) (h2:Split (L+c) S1 C1) (h3:Split (z+S1) S2 C2):
  0≤H∧H<aA∧0≤C1∧C1≤1∧0≤C2∧C2≤1∧H+C1<aA∧H+C1+C2<aA:=by
 have hb:=jN hx hy hc hz;have e1:=h1.1;have e2:=h2.1;have e3:=h3.1;have b1:=h1.2;have b2:=h2.2;have b3:=h3.2
 have m:=iV hx.1 (show x≤aA-1 by omega) hy.1 (show y≤aA-1 by omega);generalize x*y=p at *;have hb64:aA*aA=aA*18446744073709551616:=rfl;have e4:(aA-1)*(aA-1)=aA*aA-2*aA+1:=by rfl
 unfold aA at *;omega
theorem CB (g off:Nat) (zs:List Int) (cz:Nat) (A:Option Addr) (xs:List Int) (cx n:Nat) (y:Int) (w:World) (hzn:zs.length=n) (hxn:xs.length=n)
  (hz:Cells .u64 w g off zs) (hsoft:Soft w g) (hb:n*8≤281474976710656) (hx:Rd .u64 w A xs)
  (hne:∀b o,A=some ⟨b,o,none⟩→0<n→b≠g) (hZ:InR aA zs) (hX:InR aA xs) (hy:0≤y∧y<aA):
  Calls Tryz.prog 165 #[.slice (some ⟨g,off,none⟩) n cz,.slice A n cx,.int .u64 y] w fun e w'=>
   ∃ts c,e= .returned (.int .u64 c)∧0≤c∧c<aA∧ts.length=n∧InR aA ts∧aD aA ts+c*aA^n=aD aA zs+aD aA xs*y∧Cells .u64 w' g off ts∧Only g off n w w':=by
 have HZN:=Lib.hid hzn;have HXN:=Lib.hid hxn;clear hzn hxn;go_enter Tryz.func165,Tryz.ntmps165;go_wp2
 go_loopw [7,16] (fun t i wr=>∃(k:Nat) (ts:List Int) (c:Int),k≤n∧i= .int .i64 k∧t= .int .u64 c∧0≤c∧c<aA∧Hid (ts.length=n)∧InR aA ts∧
   Hid (aD aA ts+c*aA^k=aD aA zs+aD aA (xs.take k)*y)∧Cells .u64 wr g off ts∧Only g off n w wr) (fun _ i _=>n-(intOf i).toNat)
 case atStart=>exact⟨0,zs,0,Nat.zero_le _,rfl,rfl,by decide,by decide,HZN,hZ,by simp[Hid],hz,Only.refl _ _ _ _⟩
 case round=>
  obtain⟨k,ts,c,hk,rfl,rfl,hc0,hc1,htl,ht,hval,hcell,hon⟩:=hrel;by_cases hlt:k<n
  ·obtain⟨b,o,rfl,hbs,hxc⟩:=(hon.rd hx (fun b o e h=>hne b o e (by have:=HXN.out;omega))).at_ (by have:=HXN.out;omega);have h1:=hxc k (by have:=HXN.out;omega);have h2:=hcell k (by have:=htl.out;omega);have hf:=(hon.soft hsoft).free (off+k);have b1:=ht.getD aM k;have b2:=hX.getD aM k;have HC:=Lib.hid hcell;have HN:=Lib.hid hne;have HO:=Lib.hid hon;obtain⟨L,H,hs1⟩:=fK (xs.getD k 0*y);obtain⟨S1,C1,hs2⟩:=fK (L+c);obtain⟨S2,C2,hs3⟩:=fK (ts.getD k 0+S1);have hstep:=KZ (T:=aD aA zs) (show k<ts.length by have:=htl.out;omega) (show k<xs.length by have:=HXN.out;omega) hs1 hs2 hs3 hval.out;have hcar:=L0 b2 hy ⟨hc0,hc1⟩ b1 hs1 hs2 hs3;generalize hxe:xs.getD k 0=x at *;generalize hye:ts.getD k 0=z at *;have HX:=Lib.hid hxe;have HYE:=Lib.hid hye;have HS:=Lib.hid hstep;have HS1:=Lib.hid hs1;have HS2:=Lib.hid hs2;have HS3:=Lib.hid hs3;have d1:=hs1.2;have d2:=hs2.2;have d3:=hs3.2
   obtain⟨q0,q1,q2,q3,q4,q5,q6,q7⟩:=hcar;have q8:H+C1≤18446744073709551615:=by unfold aA at q6;omega
   have q9:H+C1+C2≤18446744073709551615:=by unfold aA at q7;omega
   clear hcell hxc hne hon hxe hye hstep hs1 hs2 hs3
   go_wp2_with (first
    |(go_at_call 195;refine(f9 x y L H b2 hy HS1.out _).mono ?_;rintro e w' ⟨rfl,rfl⟩)
    |simp only[oP L c S1 C1 d1 ⟨hc0,hc1⟩ HS2.out]
    |simp only[oP z S1 S2 C2 b1 d2 HS3.out])
   go_roundw
   case rel=>
    refine⟨k+1,ts.set k S2,H+C1+C2,by omega,by go_num,rfl,by omega,q7,?_,ht.set d3.1 d3.2 k,HS,HC.out.set (by have:=htl.out;omega) _,HO.out.set (by omega) _⟩;have:=htl.out;simpa [Hid] using this
   case measure=>simp[intOf];omega
  ·obtain rfl:k=n:=by omega
   go_wp2;go_ret;refine⟨ts,c,rfl,hc0,hc1,htl.out,ht,?_,hcell,hon⟩;have h1:=hval.out;rw[List.take_of_length_le (by have:=HXN.out;omega)] at h1;exact h1
theorem L7 {zs xs:List Int} {k:Nat} {c y H L C1 S1 C2 S2 T:Int} (hk:k<zs.length) (hkx:k<xs.length) (h1:Split (xs.getD k 0*y) L H) (h2:Split (L+c) S1 C1) (h3:Diff (zs.getD k 0) S1 S2 C2)
  (h:aD aA zs-c*aA^k=T-aD aA (xs.take k)*y):
  aD aA (zs.set k S2)-(H+C1+C2)*aA^(k+1)=T-aD aA (xs.take (k+1))*y:=by
 have e1:=h1.1;have e2:=h2.1;have e3:=h3.1;rw[kO _ _ _ _ hk,gF _ _ _ hkx,Int.pow_succ];generalize zs.getD k 0=z at *;generalize xs.getD k 0=x at *;generalize aA^k=p at *;generalize aD aA zs=s at *;generalize aD aA (xs.take k)=u at *;generalize aA=b at *;have e4:S2-b*(H+C1+C2)=z-x*y-c:=by grind
 have e5:p*(S2-b*(H+C1+C2))=p*(z-x*y-c):=by rw[e4]
 grind
theorem TS {x y c z H L C1 S1 C2 S2:Int} (hx:0≤x∧x<aA) (hy:0≤y∧y<aA) (hc:0≤c∧c<aA) (hz:0≤z∧z<aA) (h1:Split (x*y) L H) (h2:Split (L+c) S1 C1) (h3:Diff z S1 S2 C2):
  0≤H∧H<aA∧0≤C1∧C1≤1∧0≤C2∧C2≤1∧H+C1<aA∧H+C1+C2<aA:=by
 have e1:=h1.1;have e2:=h2.1;have e3:=h3.1;have b1:=h1.2;have b2:=h2.2;have b3:=h3.2
 have m:=iV hx.1 (show x≤aA-1 by omega) hy.1 (show y≤aA-1 by omega);generalize x*y=p at *;have e4:(aA-1)*(aA-1)=aA*18446744073709551616-2*aA+1:=by rfl
 unfold aA at *;omega
theorem LA (g off:Nat) (zs:List Int) (cz:Nat) (A:Option Addr) (xs:List Int) (cx n:Nat) (y:Int) (w:World) (hzn:zs.length=n) (hxn:xs.length=n)
  (hz:Cells .u64 w g off zs) (hsoft:Soft w g) (hb:n*8≤281474976710656) (hx:Rd .u64 w A xs)
  (hne:∀b o,A=some ⟨b,o,none⟩→0<n→b≠g) (hZ:InR aA zs) (hX:InR aA xs) (hy:0≤y∧y<aA):
  Calls Tryz.prog 213 #[.slice (some ⟨g,off,none⟩) n cz,.slice A n cx,.int .u64 y] w fun e w'=>
   ∃ts c,e= .returned (.int .u64 c)∧0≤c∧c<aA∧ts.length=n∧InR aA ts∧aD aA ts-c*aA^n=aD aA zs-aD aA xs*y∧Cells .u64 w' g off ts∧Only g off n w w':=by
 have HZN:=Lib.hid hzn;have HXN:=Lib.hid hxn;clear hzn hxn;go_enter Tryz.func213,Tryz.ntmps213;go_wp2
 go_loopw [7,16] (fun t i wr=>∃(k:Nat) (ts:List Int) (c:Int),k≤n∧i= .int .i64 k∧t= .int .u64 c∧0≤c∧c<aA∧Hid (ts.length=n)∧InR aA ts∧
   Hid (aD aA ts-c*aA^k=aD aA zs-aD aA (xs.take k)*y)∧Cells .u64 wr g off ts∧Only g off n w wr) (fun _ i _=>n-(intOf i).toNat)
 case atStart=>exact⟨0,zs,0,Nat.zero_le _,rfl,rfl,by decide,by decide,HZN,hZ,by simp[Hid],hz,Only.refl _ _ _ _⟩
 case round=>
  obtain⟨k,ts,c,hk,rfl,rfl,hc0,hc1,htl,ht,hval,hcell,hon⟩:=hrel;by_cases hlt:k<n
  ·obtain⟨b,o,rfl,hbs,hxc⟩:=(hon.rd hx (fun b o e h=>hne b o e (by have:=HXN.out;omega))).at_ (by have:=HXN.out;omega);have h1:=hxc k (by have:=HXN.out;omega);have h2:=hcell k (by have:=htl.out;omega);have hf:=(hon.soft hsoft).free (off+k);have b1:=ht.getD aM k;have b2:=hX.getD aM k;have HC:=Lib.hid hcell;have HN:=Lib.hid hne;have HO:=Lib.hid hon;obtain⟨L,H,hs1⟩:=fK (xs.getD k 0*y);obtain⟨S1,C1,hs2⟩:=fK (L+c);obtain⟨S2,C2,hs3⟩:=pV b1.1 b1.2 hs2.2.1 (Int.le_of_lt hs2.2.2);have hstep:=L7 (T:=aD aA zs) (show k<ts.length by have:=htl.out;omega) (show k<xs.length by have:=HXN.out;omega) hs1 hs2 hs3 hval.out;have hcar:=TS b2 hy ⟨hc0,hc1⟩ b1 hs1 hs2 hs3;generalize hxe:xs.getD k 0=x at *;generalize hye:ts.getD k 0=z at *;have HX:=Lib.hid hxe;have HYE:=Lib.hid hye;have HS:=Lib.hid hstep;have HS1:=Lib.hid hs1;have HS2:=Lib.hid hs2;have HS3:=Lib.hid hs3;have d1:=hs1.2;have d2:=hs2.2;have d3:0≤S2∧S2<aA:=⟨hs3.2.1,hs3.2.2.1⟩
   obtain⟨q0,q1,q2,q3,q4,q5,q6,q7⟩:=hcar;have q8:H+C1≤18446744073709551615:=by unfold aA at q6;omega
   have q9:H+C1+C2≤18446744073709551615:=by unfold aA at q7;omega
   clear hcell hxc hne hon hxe hye hstep hs1 hs2 hs3
   go_wp2_with (first
    |(go_at_call 195;refine(f9 x y L H b2 hy HS1.out _).mono ?_;rintro e w' ⟨rfl,rfl⟩)
    |simp only[oP L c S1 C1 d1 ⟨hc0,hc1⟩ HS2.out]
    |simp only[LB z S1 S2 C2 b1 d2 HS3.out])
   go_roundw
   case rel=>
    refine⟨k+1,ts.set k S2,H+C1+C2,by omega,by go_num,rfl,by omega,q7,?_,ht.set d3.1 d3.2 k,HS,HC.out.set (by have:=htl.out;omega) _,HO.out.set (by omega) _⟩;have:=htl.out;simpa [Hid] using this
   case measure=>simp[intOf];omega
  ·obtain rfl:k=n:=by omega
   go_wp2;go_ret;refine⟨ts,c,rfl,hc0,hc1,htl.out,ht,?_,hcell,hon⟩;have h1:=hval.out;rw[List.take_of_length_le (by have:=HXN.out;omega)] at h1;exact h1
theorem nM (n k:Nat):aD aA ((dg n).take k)=(n%BN^k:Nat):=by
 rcases Nat.lt_or_ge k (nl n) with hk|hk
 ·have h:=iF aA (dg n) k (by rw[aJ];omega);rw[bC] at h;have h1:=dM aM ((aW n).take k);have h2:=fE aM ((aW n).take k);rw[List.length_take,aJ,Nat.min_eq_left (by omega)] at h2;rw[Int.natCast_emod,fO,h,Int.add_mul_emod_self_left,Int.emod_eq_of_lt h1 h2]
 ·rw[List.take_of_length_le (by rw[aJ];exact hk),bC,Nat.mod_eq_of_lt];exact Nat.lt_of_lt_of_le (bX n) (Nat.pow_le_pow_right (by decide) hk)
theorem pU (n k:Nat):aD aA ((dg n).drop k)=(n/BN^k:Nat):=by
 rcases Nat.lt_or_ge k (nl n) with hk|hk
 ·have h:=iF aA (dg n) k (by rw[aJ];omega);rw[bC] at h;have h1:=dM aM ((aW n).take k);have h2:=fE aM ((aW n).take k);rw[List.length_take,aJ,Nat.min_eq_left (by omega)] at h2;have h3:=kM aM k;rw[Int.natCast_ediv,fO,h,Int.add_mul_ediv_left _ _ (by omega),Int.ediv_eq_zero_of_lt h1 h2,Int.zero_add]
 ·rw[List.drop_of_length_le (by rw[aJ];exact hk),Nat.div_eq_of_lt]
  ·rfl
  ·exact Nat.lt_of_lt_of_le (bX n) (Nat.pow_le_pow_right (by decide) hk)
theorem KU {zs:List Int} (h:gO zs) (k:Nat):gO (zs.drop k):=by
 unfold gO at *;rw[List.getLast?_drop];split
 ·simp
 ·exact h
theorem oN (n k:Nat):(dg n).drop k=dg (n/BN^k):=sH ⟨(aW n).drop k,KU (sG n).2 k⟩ (pU n k)
theorem KV (n k:Nat):trimL ((dg n).take k)=dg (n%BN^k):=lZ ((aW n).take k) (nM n k)
theorem gW (n k:Nat):nl (n/BN^k)=nl n-k:=by rw[←aJ,←oN,List.length_drop,aJ]
theorem nN (n k:Nat):nl (n%BN^k)≤min k (nl n):=by
 rw[←aJ,←KV];have:=m6 ((dg n).take k);rw[List.length_take,aJ] at this;exact this
theorem KW (p s b:Nat) (hb:0<b):
  p*s=(p%b)*(s%b)+b*((p%b+p/b)*(s%b+s/b)-(p%b)*(s%b)-(p/b)*(s/b))+b*b*((p/b)*(s/b))∧
   (p%b)*(s%b)≤(p%b+p/b)*(s%b+s/b)∧(p/b)*(s/b)≤(p%b+p/b)*(s%b+s/b)-(p%b)*(s%b):=by
 have e1:=Nat.mod_add_div p b;have e2:=Nat.mod_add_div s b;generalize p%b=x0 at *;generalize p/b=x1 at *;generalize s%b=y0 at *;generalize s/b=y1 at *;have e3:(x0+x1)*(y0+y1)=x0*y0+x1*y1+(x0*y1+x1*y0):=by grind
 have e4:(x0+x1)*(y0+y1)-x0*y0-x1*y1=x0*y1+x1*y0:=by omega
 rw[e4];refine⟨?_,by omega,by omega⟩;rw[←e1,←e2];grind
theorem CA {z m t:Int} {k n:Nat} (zs:List Int) (hz:InR aA zs) (hk:k≤zs.length) (hn:zs.length=n) (hv:aD aA zs+aA^k*m=t) (ht:t<aA^n):aD aA (zs.drop k)+m<aA^(n-k):=by
 rw[iF aA zs k hk] at hv;have h1:=dM aM (hz.take k);have h3:=kM aM k;have e:aA^n=aA^k*aA^(n-k):=by rw[←Int.pow_add];congr 1;omega
 rw[e] at ht;have h4:aA^k*(aD aA (zs.drop k)+m)<aA^k*aA^(n-k):=by rw[Int.mul_add];omega
 exact Int.lt_of_mul_lt_mul_left h4 (by omega)
def patch (zs ts:List Int) (k:Nat):List Int:=zs.take k++(ts++zs.drop (k+ts.length))
theorem gQ {zs ts:List Int} {k:Nat} (h:k+ts.length≤zs.length):(patch zs ts k).length=zs.length:=by simp[patch];omega
theorem nO {zs ts:List Int} {b:Int} (hz:InR b zs) (ht:InR b ts) (k:Nat):InR b (patch zs ts k):=(hz.take k).append (ht.append (hz.drop _))
theorem vZ {zs ts:List Int} {k j:Nat} (h:k+ts.length≤zs.length) (hj:k+ts.length≤j):(patch zs ts k).getD j 0=zs.getD j 0:=by
 unfold patch;have hl:(zs.take k).length=k:=by rw[List.length_take];omega
 simp only[List.getD_eq_getElem?_getD];rw[List.getElem?_append_right (by omega),hl,List.getElem?_append_right (by omega),List.getElem?_drop];congr 2;omega
theorem oO {zs ts:List Int} {k:Nat} (h:k+ts.length≤zs.length):aD aA (patch zs ts k)=aD aA zs+aA^k*(aD aA ts-aD aA ((zs.drop k).take ts.length)):=by
 unfold patch;have hl:(zs.take k).length=k:=by rw[List.length_take];omega
 rw[gV,gV,hl,iF aA zs k (by omega),iF aA (zs.drop k) ts.length (by rw[List.length_drop];omega),List.drop_drop];grind
theorem Only.patch {g k m:Nat} {w2 w3:World} {zs ts:List Int} (ho:Only g k m w2 w3) (hc:Cells .u64 w2 g 0 zs) (htl:ts.length=m) (ht:Cells .u64 w3 g k ts) (hk:k+m≤zs.length):
  Cells .u64 w3 g 0 (patch zs ts k):=by
 subst htl;have hl:(zs.take k).length=k:=by rw[List.length_take];omega
 refine Cells.append (fun i hi=> ?_) (Cells.append (by rw[hl,Nat.zero_add];exact ht) (fun i hi=> ?_))
 ·rw[ho.rest (0+i) (.inl (by omega))];exact hc.take k i hi
 ·rw[hl,Nat.zero_add,ho.rest _ (.inr (by omega))];have:=hc.drop (k+ts.length) i hi;rwa [Nat.zero_add] at this
theorem KX {zs ts:List Int} {k m n:Nat} {c y P:Int} (hzl:zs.length=n) (hk:k+m<n) (htl:ts.length=m) (hts:aD aA ts+c*aA^m=aD aA ((zs.drop k).take m)+P*y) (h0:zs.getD (k+m) 0=0):
  aD aA ((patch zs ts k).set (k+m) c)=aD aA zs+aA^k*(P*y):=by
 subst hzl htl;rw[kO _ _ _ _ (by rw[gQ (by omega)];exact hk),oO (by omega),vZ (by omega) (Nat.le_refl _),h0];have e:aA^(k+ts.length)=aA^k*aA^ts.length:=Int.pow_add _ _ _;rw[e];grind
theorem wF (n:Nat) (ys:List Int) (h:ys.length≤n):bJ (List.replicate n 0) ys=ys++List.replicate (n-ys.length) 0:=by
 unfold bJ;rw[List.length_replicate,List.take_of_length_le h,List.drop_replicate]
theorem KY {lo hi h n:Nat} (h1:nl lo≤2*h) (h2:2*h≤n) (h3:nl hi≤n-2*h):
  let zs:=bJ (List.replicate n 0) (dg lo)
  let us:=bJ (zs.drop (2*h)) (dg hi)
  us.length=n-2*h∧InR aA us∧InR aA zs∧zs.length=n∧aD aA (patch zs us (2*h))=lo+aA^(2*h)*hi:=by
 intro zs us;have e1:zs=dg lo++List.replicate (n-nl lo) 0:=wF n (dg lo) (by rw[aJ];omega);have e2:zs.drop (2*h)=List.replicate (n-2*h) 0:=by
  rw[e1,List.drop_append,List.drop_of_length_le (by rw[aJ];exact h1),aJ,List.nil_append,List.drop_replicate];congr 1;omega
 have hl:zs.length=n:=by show(bJ _ _).length=n;rw[iE,List.length_replicate]
 have hu:us.length=n-2*h:=by show(bJ _ _).length=_;rw[iE,List.length_drop,hl]
 have hiz:InR aA zs:=(aW lo).take _ |>.append ((InR.replicate aM _).drop _);have hiu:InR aA us:=((aW hi).take _).append ((hiz.drop _).drop _);refine⟨hu,hiu,hiz,hl,?_⟩;have v1:aD aA zs=lo:=by show aD aA (bJ _ _)=_;rw[iW _ _ (by rw[aJ];omega),bC]
 have v2:aD aA us=hi:=by
  show aD aA (bJ (zs.drop (2*h)) (dg hi))=_
  rw[e2,iW _ _ (by rw[aJ];omega),bC]
 rw[oO (by omega),hu,e2,v1,v2];rw[List.take_of_length_le (by simp),iU];simp
end Go.Proofs.YtbhplgdbfmifkaaGreatDoor
