/-
  Contracts of functions that the statement reaches, and plain laws: Bits, WordsA, WordsB.
-/
import Derived.Test.YtbhplgdbfmifkaaGreatDoorProg
import Derived.Test.YtbhplgdbfmifkaaGreatDoorI02
import Derived.Shelf.Spec.BitsCarry
set_option linter.unusedVariables false
set_option linter.unusedSimpArgs false
set_option maxHeartbeats 8000000
set_option maxRecDepth 100000
namespace Go.Proofs.YtbhplgdbfmifkaaGreatDoor
open Go.RowKit Sos
def aA:Int:=18446744073709551616
def cB (x:Int):Int:=x%18446744073709551616
def eX (x:Int):Int:=x/18446744073709551616
def fS (x y:Int):Int:=if x<y then 1 else 0
theorem vX (x:Int):cB x+aA*eX x=x:=by unfold cB eX aA;omega
theorem iH (x:Int):0≤cB x∧cB x<aA:=by unfold cB aA;omega
theorem pT {x:Int} (h0:0≤x) {m:Int} (h:x<aA*m):0≤eX x∧eX x<m:=by
 unfold eX;unfold aA at h;have h1:x/18446744073709551616<m:=Int.ediv_lt_of_lt_mul (by decide) (by rw[Int.mul_comm];exact h);omega
theorem x5 (x y:Int):0≤fS x y∧fS x y≤1:=by unfold fS;split<;>decide
theorem vY {x y:Int} (hx:0≤x) (hx':x<aA) (hy:0≤y) (hy':y≤aA):cB (x-y)=x-y+aA*fS x y:=by
 unfold cB fS;unfold aA at *;split<;>omega
theorem sO (x y c:Int) (hx:0≤x) (hy:0≤y) (hc0:0≤c) (hc:c≤1) (hx':x<aA) (hy':y<aA) (w:World):(callFunc 171 #[.int .u64 x,.int .u64 y,.int .u64 c]).run Tryz.prog w=
  .ok (.value (.tuple #[.int .u64 (cB (x+y+c)),.int .u64 (eX (x+y+c))])) w:=by
 unfold cB eX;unfold aA at hx' hy';obtain⟨x,rfl⟩:=Int.eq_ofNat_of_zero_le hx;obtain⟨y,rfl⟩:=Int.eq_ofNat_of_zero_le hy;obtain⟨c,rfl⟩:=Int.eq_ofNat_of_zero_le hc0;rw[run_callFunc_extern Tryz.func171 (by kernel_rfl) (by kernel_rfl) (by kernel_rfl) (e:=add64Entry) (by kernel_rfl),run_add64 x y c (by omega) (by omega) (by omega) (by omega)];simp only[Result.andThen]
theorem KO (x y:Int) (hx:0≤x) (hy:0≤y) (hx':x<aA) (hy':y<aA) (w:World):(callFunc 171 #[.int .u64 x,.int .u64 y,.int .u64 0]).run Tryz.prog w=
  .ok (.value (.tuple #[.int .u64 (cB (x+y)),.int .u64 (eX (x+y))])) w:=by
 simpa using sO x y 0 hx hy (Int.le_refl 0) (by decide) hx' hy' w
theorem KP (x c:Int) (hx:0≤x) (hc0:0≤c) (hc:c≤1) (hx':x<aA) (w:World):(callFunc 171 #[.int .u64 x,.int .u64 0,.int .u64 c]).run Tryz.prog w=
  .ok (.value (.tuple #[.int .u64 (cB (x+c)),.int .u64 (eX (x+c))])) w:=by
 simpa using sO x 0 c hx (Int.le_refl 0) hc0 hc hx' (by unfold aA;decide) w
theorem sQ (x y b:Int) (hx:0≤x) (hy:0≤y) (hb0:0≤b) (hb:b≤1) (hx':x<aA) (hy':y<aA) (w:World):(callFunc 189 #[.int .u64 x,.int .u64 y,.int .u64 b]).run Tryz.prog w=
  .ok (.value (.tuple #[.int .u64 (cB (x-y-b)),.int .u64 (fS x (y+b))])) w:=by
 unfold cB fS;unfold aA at hx' hy';obtain⟨x,rfl⟩:=Int.eq_ofNat_of_zero_le hx;obtain⟨y,rfl⟩:=Int.eq_ofNat_of_zero_le hy;obtain⟨b,rfl⟩:=Int.eq_ofNat_of_zero_le hb0;have e1:(((x+18446744073709551616-y-b)%18446744073709551616:Nat):Int)=((x:Int)-y-b)%18446744073709551616:=by omega
 have e2:((if x<y+b then 1 else 0:Nat):Int)=if (x:Int)<y+b then 1 else 0:=by split<;>split<;>omega
 rw[←e1,←e2];rw[run_callFunc_extern Tryz.func189 (by kernel_rfl) (by kernel_rfl) (by kernel_rfl) (e:=sub64Entry) (by kernel_rfl),run_sub64 x y b (by omega)];rfl
theorem KQ (x y:Int) (hx:0≤x) (hy:0≤y) (hx':x<aA) (hy':y<aA) (w:World):(callFunc 189 #[.int .u64 x,.int .u64 y,.int .u64 0]).run Tryz.prog w=
  .ok (.value (.tuple #[.int .u64 (cB (x-y)),.int .u64 (fS x y)])) w:=by
 simpa using sQ x y 0 hx hy (Int.le_refl 0) (by decide) hx' hy' w
theorem KT (x c:Int) (hx:0≤x) (hc0:0≤c) (hc:c≤1) (hx':x<aA) (w:World):(callFunc 189 #[.int .u64 x,.int .u64 0,.int .u64 c]).run Tryz.prog w=
  .ok (.value (.tuple #[.int .u64 (cB (x-c)),.int .u64 (fS x c)])) w:=by
 simpa using sQ x 0 c hx (Int.le_refl 0) hc0 hc hx' (by unfold aA;decide) w
theorem KN (A:Option Addr) (zs:List Int) (c:Nat) (w:World) (hs:Rd .u64 w A zs) (hc:zs.length≤c) (hcap:zs.length*8≤281474976710656):
  Calls Tryz.prog 127 #[.slice A zs.length c] w fun e w'=>e= .returned (.slice A (trimL zs).length c)∧w=w':=by
 go_enter Tryz.func127,Tryz.ntmps127;go_wp2;go_loop [3] (fun i=>∃n:Nat,n≤zs.length∧i= .int .i64 n∧∀j,n≤j→zs.getD j 0=0) (fun i=>(intOf i).toNat)
 case atStart=>exact⟨zs.length,Nat.le_refl _,rfl,fun j hj=>by simp[hj]⟩
 case round=>
  obtain⟨n,hn,rfl,hz⟩:=hrel;have HZ:=Lib.hid hz;clear hz;by_cases h0:0<n
  ·obtain⟨b,off,rfl,hb,hcell⟩:=hs.at_ (by omega);have hc1:=hcell (n-1) (by omega);have HC:=Lib.hid hcell;clear hcell;go_wp2
   ·have e0:(zs[n-1]?.getD 0==0)=true:=by assumption
    go_round
    case rel=>
     refine⟨n-1,by omega,by go_num,fun j hj=> ?_⟩;by_cases e:j=n-1
     ·subst e;simpa using e0
     ·exact HZ.out j (by omega)
    case measure=>simp[intOf];omega
   ·have e0:(zs[n-1]?.getD 0==0)=false:=by assumption
    go_ret;refine⟨?_,rfl⟩;have e:trimL zs=zs.take n:=BY hn (.inr (by simpa using e0)) HZ.out;rw[e,List.length_take,Nat.min_eq_left hn];rfl
  ·obtain rfl:n=0:=by omega
   go_wp2;go_ret;refine⟨?_,rfl⟩;have e:trimL zs=zs.take 0:=BY (Nat.zero_le _) (.inl rfl) HZ.out;rw[e];rfl
theorem dI (A:Option Addr) (zs:List Int) (n c:Nat) (w:World) (hn:zs.length=n) (hs:Rd .u64 w A zs) (hc:n≤c) (hcap:n*8≤281474976710656):
  Calls Tryz.prog 127 #[.slice A n c] w fun e w'=>e= .returned (.slice A (trimL zs).length c)∧w=w':=by
 subst hn;exact KN A zs c w hs hc (by omega)
theorem aM:(0:Int)<aA:=by decide
theorem vV:(1:Int)<aA:=by decide
theorem jM (zs:List Int) (i j:Nat) (v:Int) (h:i≠j):(zs.set i v).getD j 0=zs.getD j 0:=by
 simp only[List.getD_eq_getElem?_getD,List.getElem?_set_ne h]
theorem vW {zs:List Int} {k:Nat} {c y T:Int} (hk:k<zs.length) (h:aD aA zs+c*aA^k=T):
  aD aA (zs.set k (cB (zs.getD k 0+y+c)))+eX (zs.getD k 0+y+c)*aA^(k+1)=T+aA^k*y:=by
 have e:=vX (zs.getD k 0+y+c);rw[kO _ _ _ _ hk,←h,Int.pow_succ];generalize cB (zs.getD k 0+y+c)=l at *;generalize eX (zs.getD k 0+y+c)=m at *;generalize zs.getD k 0=z at *;generalize aA^k=p at *;generalize aD aA zs=s at *;generalize aA=b at *;have e2:p*(l+b*m)=p*(z+y+c):=by rw[e]
 grind
theorem x3 {zs:List Int} {k:Nat} {c y T:Int} (hk:k<zs.length) (hz:InR aA zs) (hy0:0≤y) (hy1:y<aA) (hc0:0≤c) (hc1:c≤1) (h:aD aA zs-c*aA^k=T):
  aD aA (zs.set k (cB (zs.getD k 0-y-c)))-fS (zs.getD k 0) (y+c)*aA^(k+1)=T-aA^k*y:=by
 have hb:=hz.getD aM k;have e:=vY hb.1 hb.2 (show 0≤y+c by omega) (show y+c≤aA by omega);rw[show zs.getD k 0-y-c=zs.getD k 0-(y+c) by omega,kO _ _ _ _ hk,←h,Int.pow_succ,e];generalize fS (zs.getD k 0) (y+c)=m;grind
theorem KH {zs:List Int} {c T:Int} (hz:InR aA zs) (hc0:0≤c) (hc1:c≤1) (h:aD aA zs+c*aA^zs.length=T) (hT:T<aA^zs.length):aD aA zs=T:=by
 have h0:=dM aM hz;have hcc:c=0∨c=1:=by omega
 rcases hcc with rfl|rfl
 ·simpa using h
 ·omega
theorem KI {zs:List Int} {c T:Int} (hz:InR aA zs) (hc0:0≤c) (hc1:c≤1) (h:aD aA zs-c*aA^zs.length=T) (hT:0≤T):aD aA zs=T:=by
 have h0:=fE aM hz;have hcc:c=0∨c=1:=by omega
 rcases hcc with rfl|rfl
 ·simpa using h
 ·omega
theorem KJ (g off:Nat) (xs:List Int) (cx:Nat) (A:Option Addr) (ys:List Int) (cy:Nat) (w:World)
  (hx:Cells .u64 w g off xs) (hsoft:Soft w g) (hcx:xs.length≤cx) (hb:xs.length*8≤281474976710656) (hy:Rd .u64 w A ys)
  (hne:∀b o,A=some ⟨b,o,none⟩→0<ys.length→b≠g) (hlen:ys.length≤xs.length) (hX:InR aA xs) (hY:InR aA ys) (hsum:aD aA xs+aD aA ys<aA^xs.length):
  Calls Tryz.prog 167 #[.slice (some ⟨g,off,none⟩) xs.length cx,.slice A ys.length cy] w fun e w'=>e= .returned (.tuple #[])∧
   ∃zs,zs.length=xs.length∧InR aA zs∧aD aA zs=aD aA xs+aD aA ys∧Cells .u64 w' g off zs∧Only g off xs.length w w':=by
 go_enter Tryz.func167,Tryz.ntmps167;go_wp2
 go_loopw [4,10] (fun t i wr=>∃(k:Nat) (zs:List Int) (c:Int),k≤ys.length∧i= .int .i64 k∧t= .int .u64 c∧0≤c∧c≤1∧zs.length=xs.length∧InR aA zs∧
   Hid (aD aA zs+c*aA^k=aD aA xs+aD aA (ys.take k))∧Cells .u64 wr g off zs∧Only g off xs.length w wr) (fun _ i _=>ys.length-(intOf i).toNat)
 case atStart=>exact⟨0,xs,0,Nat.zero_le _,rfl,rfl,by decide,by decide,rfl,hX,by simp[Hid],hx,Only.refl _ _ _ _⟩
 case round=>
  obtain⟨k,zs,c,hk,rfl,rfl,hc0,hc1,hzl,hz,hval,hcell,hon⟩:=hrel;by_cases hlt:k<ys.length
  ·obtain⟨b,o,rfl,hbs,hyc⟩:=(hon.rd hy hne).at_ (by omega);have h1:=hyc k hlt;have h2:=hcell k (by omega);have hf:=(hon.soft hsoft).free (off+k);have b1:=hz.getD aM k;have b2:=hY.getD aM k;have HC:=Lib.hid hcell;have HN:=Lib.hid hne;have HO:=Lib.hid hon;have hstep:=vW (y:=ys.getD k 0) (show k<zs.length by omega) hval.out;have hts:=gF aA ys k hlt;generalize hxe:zs.getD k 0=x at *;generalize hye:ys.getD k 0=y at *;have HX:=Lib.hid hxe;have HYE:=Lib.hid hye;have HS:=Lib.hid hstep;have HT:=Lib.hid hts;obtain⟨b10,b11⟩:=b1;obtain⟨b20,b21⟩:=b2;clear hcell hyc hne hon hxe hye hstep hts;go_wp2_with (simp only[sO x y c b10 b20 hc0 hc1 b11 b21]);go_roundw
   case rel=>
    have hl:=iH (x+y+c);have hh:=pT (x:=x+y+c) (m:=2) (by omega) (by omega);refine⟨k+1,zs.set k (cB (x+y+c)),eX (x+y+c),by omega,by go_num,rfl,hh.1,by omega,by simpa using hzl,hz.set hl.1 hl.2 k,?_,HC.out.set (by omega) _,HO.out.set (by omega) _⟩;have:=HS.out;have:=HT.out;unfold Hid;omega
   case measure=>simp[intOf];omega
  ·obtain rfl:k=ys.length:=by omega
   rw[List.take_length] at hval;clear hy hne;go_wp2
   go_loopw [4,7] (fun t i wr=>∃(k:Nat) (zs:List Int) (c:Int),k≤xs.length∧i= .int .i64 k∧t= .int .u64 c∧0≤c∧c≤1∧zs.length=xs.length∧InR aA zs∧
     Hid (aD aA zs+c*aA^k=aD aA xs+aD aA ys)∧Cells .u64 wr g off zs∧Only g off xs.length w wr) (fun _ i _=>xs.length-(intOf i).toNat)
   case atStart=>exact⟨ys.length,zs,c,by omega,rfl,rfl,hc0,hc1,hzl,hz,hval,hcell,hon⟩
   case round=>
    clear hc0 hc1 hzl hz hval hcell hon;obtain⟨k,zs,c,hk,rfl,rfl,hc0,hc1,hzl,hz,hval,hcell,hon⟩:=hrel;have hend:c=0∨k=xs.length→aD aA zs=aD aA xs+aD aA ys:=by
     rintro (rfl|rfl)
     ·simpa using hval.out
     ·exact KH hz hc0 hc1 (by rw[hzl];exact hval.out) (by rw[hzl];exact hsum)
    have HE:=Lib.hid hend;have HSUM:=Lib.hid hsum;clear hend hsum;by_cases h0:c=0
    ·have HE2:=Lib.hid (HE.out (.inl h0));subst h0;go_wp2;go_end0;exact⟨rfl,zs,hzl,hz,HE2.out,hcell,hon⟩
    ·obtain rfl:c=1:=by omega
     by_cases hlt:k<xs.length
     ·have h2:=hcell k (by omega);have hf:=(hon.soft hsoft).free (off+k);have b1:=hz.getD aM k;have HC:=Lib.hid hcell;have HO:=Lib.hid hon;have hstep:=vW (y:=0) (show k<zs.length by omega) hval.out;generalize hxe:zs.getD k 0=x at *;have HX:=Lib.hid hxe;have HS:=Lib.hid hstep;obtain⟨b10,b11⟩:=b1;clear hcell hon hxe hstep;go_wp2_with (simp only[KP x 1 b10 (by decide) (by decide) b11]);go_roundw
      case rel=>
       have hl:=iH (x+1);have hh:=pT (x:=x+1) (m:=2) (by omega) (by have:=vV;omega);refine⟨k+1,zs.set k (cB (x+1)),eX (x+1),by omega,by go_num,rfl,hh.1,by omega,by simpa using hzl,hz.set hl.1 hl.2 k,?_,HC.out.set (by omega) _,HO.out.set (by omega) _⟩;have:=HS.out;unfold Hid;simpa using this
      case measure=>simp[intOf];omega
     ·obtain rfl:k=xs.length:=by omega
      have HE2:=Lib.hid (HE.out (.inr rfl));go_wp2;go_end0;exact⟨rfl,zs,hzl,hz,HE2.out,hcell,hon⟩
theorem KL (g off:Nat) (xs:List Int) (cx:Nat) (A:Option Addr) (ys:List Int) (cy:Nat) (w:World)
  (hx:Cells .u64 w g off xs) (hsoft:Soft w g) (hcx:xs.length≤cx) (hb:xs.length*8≤281474976710656) (hy:Rd .u64 w A ys)
  (hne:∀b o,A=some ⟨b,o,none⟩→0<ys.length→b≠g) (hlen:ys.length≤xs.length) (hX:InR aA xs) (hY:InR aA ys) (hsum:aD aA ys≤aD aA xs):
  Calls Tryz.prog 170 #[.slice (some ⟨g,off,none⟩) xs.length cx,.slice A ys.length cy] w fun e w'=>e= .returned (.tuple #[])∧
   ∃zs,zs.length=xs.length∧InR aA zs∧aD aA zs=aD aA xs-aD aA ys∧Cells .u64 w' g off zs∧Only g off xs.length w w':=by
 go_enter Tryz.func170,Tryz.ntmps170;go_wp2
 go_loopw [4,10] (fun t i wr=>∃(k:Nat) (zs:List Int) (c:Int),k≤ys.length∧i= .int .i64 k∧t= .int .u64 c∧0≤c∧c≤1∧zs.length=xs.length∧InR aA zs∧
   Hid (aD aA zs-c*aA^k=aD aA xs-aD aA (ys.take k))∧Cells .u64 wr g off zs∧Only g off xs.length w wr) (fun _ i _=>ys.length-(intOf i).toNat)
 case atStart=>exact⟨0,xs,0,Nat.zero_le _,rfl,rfl,by decide,by decide,rfl,hX,by simp[Hid],hx,Only.refl _ _ _ _⟩
 case round=>
  obtain⟨k,zs,c,hk,rfl,rfl,hc0,hc1,hzl,hz,hval,hcell,hon⟩:=hrel;by_cases hlt:k<ys.length
  ·obtain⟨b,o,rfl,hbs,hyc⟩:=(hon.rd hy hne).at_ (by omega);have h1:=hyc k hlt;have h2:=hcell k (by omega);have hf:=(hon.soft hsoft).free (off+k);have b1:=hz.getD aM k;have b2:=hY.getD aM k;have HC:=Lib.hid hcell;have HN:=Lib.hid hne;have HO:=Lib.hid hon;have hstep:=x3 (y:=ys.getD k 0) (show k<zs.length by omega) hz b2.1 b2.2 hc0 hc1 hval.out;have hts:=gF aA ys k hlt;generalize hxe:zs.getD k 0=x at *;generalize hye:ys.getD k 0=y at *;have HX:=Lib.hid hxe;have HYE:=Lib.hid hye;have HS:=Lib.hid hstep;have HT:=Lib.hid hts;obtain⟨b10,b11⟩:=b1;obtain⟨b20,b21⟩:=b2;clear hcell hyc hne hon hxe hye hstep hts;go_wp2_with (simp only[sQ x y c b10 b20 hc0 hc1 b11 b21]);go_roundw
   case rel=>
    have hl:=iH (x-y-c);have hh:=x5 x (y+c);refine⟨k+1,zs.set k (cB (x-y-c)),fS x (y+c),by omega,by go_num,rfl,hh.1,by omega,by simpa using hzl,hz.set hl.1 hl.2 k,?_,HC.out.set (by omega) _,HO.out.set (by omega) _⟩;have:=HS.out;have:=HT.out;unfold Hid;omega
   case measure=>simp[intOf];omega
  ·obtain rfl:k=ys.length:=by omega
   rw[List.take_length] at hval;clear hy hne;go_wp2
   go_loopw [4,7] (fun t i wr=>∃(k:Nat) (zs:List Int) (c:Int),k≤xs.length∧i= .int .i64 k∧t= .int .u64 c∧0≤c∧c≤1∧zs.length=xs.length∧InR aA zs∧
     Hid (aD aA zs-c*aA^k=aD aA xs-aD aA ys)∧Cells .u64 wr g off zs∧Only g off xs.length w wr) (fun _ i _=>xs.length-(intOf i).toNat)
   case atStart=>exact⟨ys.length,zs,c,by omega,rfl,rfl,hc0,hc1,hzl,hz,hval,hcell,hon⟩
   case round=>
    clear hc0 hc1 hzl hz hval hcell hon;obtain⟨k,zs,c,hk,rfl,rfl,hc0,hc1,hzl,hz,hval,hcell,hon⟩:=hrel;have hend:c=0∨k=xs.length→aD aA zs=aD aA xs-aD aA ys:=by
     rintro (rfl|rfl)
     ·simpa using hval.out
     ·exact KI hz hc0 hc1 (by rw[hzl];exact hval.out) (by omega)
    have HE:=Lib.hid hend;have HSUM:=Lib.hid hsum;clear hend hsum;by_cases h0:c=0
    ·have HE2:=Lib.hid (HE.out (.inl h0));subst h0;go_wp2;go_end0;exact⟨rfl,zs,hzl,hz,HE2.out,hcell,hon⟩
    ·obtain rfl:c=1:=by omega
     by_cases hlt:k<xs.length
     ·have h2:=hcell k (by omega);have hf:=(hon.soft hsoft).free (off+k);have b1:=hz.getD aM k;have HC:=Lib.hid hcell;have HO:=Lib.hid hon;have hstep:=x3 (y:=0) (show k<zs.length by omega) hz (by decide) (by decide) (by decide) (by decide) hval.out;generalize hxe:zs.getD k 0=x at *;have HX:=Lib.hid hxe;have HS:=Lib.hid hstep;obtain⟨b10,b11⟩:=b1;clear hcell hon hxe hstep;go_wp2_with (simp only[KT x 1 b10 (by decide) (by decide) b11]);go_roundw
      case rel=>
       have hl:=iH (x-1);have hh:=x5 x 1;refine⟨k+1,zs.set k (cB (x-1)),fS x 1,by omega,by go_num,rfl,hh.1,by omega,by simpa using hzl,hz.set hl.1 hl.2 k,?_,HC.out.set (by omega) _,HO.out.set (by omega) _⟩;have:=HS.out;unfold Hid;simpa using this
      case measure=>simp[intOf];omega
     ·obtain rfl:k=xs.length:=by omega
      have HE2:=Lib.hid (HE.out (.inr rfl));go_wp2;go_end0;exact⟨rfl,zs,hzl,hz,HE2.out,hcell,hon⟩
theorem sM (g off n:Nat) (xs:List Int) (cx:Nat) (A:Option Addr) (m:Nat) (ys:List Int) (cy:Nat) (w:World) (hn:xs.length=n) (hm:ys.length=m)
  (hx:Cells .u64 w g off xs) (hsoft:Soft w g) (hcx:n≤cx) (hb:n*8≤281474976710656) (hy:Rd .u64 w A ys)
  (hne:∀b o,A=some ⟨b,o,none⟩→0<m→b≠g) (hlen:m≤n) (hX:InR aA xs) (hY:InR aA ys) (hsum:aD aA xs+aD aA ys<aA^n):
  Calls Tryz.prog 167 #[.slice (some ⟨g,off,none⟩) n cx,.slice A m cy] w fun e w'=>e= .returned (.tuple #[])∧
   ∃zs,zs.length=n∧InR aA zs∧aD aA zs=aD aA xs+aD aA ys∧Cells .u64 w' g off zs∧Only g off n w w':=by
 subst hn hm;exact KJ g off xs cx A ys cy w hx hsoft hcx hb hy hne hlen hX hY hsum
theorem C7 (g off n:Nat) (xs:List Int) (cx:Nat) (A:Option Addr) (m:Nat) (ys:List Int) (cy:Nat) (w:World) (hn:xs.length=n) (hm:ys.length=m)
  (hx:Cells .u64 w g off xs) (hsoft:Soft w g) (hcx:n≤cx) (hb:n*8≤281474976710656) (hy:Rd .u64 w A ys)
  (hne:∀b o,A=some ⟨b,o,none⟩→0<m→b≠g) (hlen:m≤n) (hX:InR aA xs) (hY:InR aA ys) (hsum:aD aA ys≤aD aA xs):
  Calls Tryz.prog 170 #[.slice (some ⟨g,off,none⟩) n cx,.slice A m cy] w fun e w'=>e= .returned (.tuple #[])∧
   ∃zs,zs.length=n∧InR aA zs∧aD aA zs=aD aA xs-aD aA ys∧Cells .u64 w' g off zs∧Only g off n w w':=by
 subst hn hm;exact KL g off xs cx A ys cy w hx hsoft hcx hb hy hne hlen hX hY hsum
end Go.Proofs.YtbhplgdbfmifkaaGreatDoor
