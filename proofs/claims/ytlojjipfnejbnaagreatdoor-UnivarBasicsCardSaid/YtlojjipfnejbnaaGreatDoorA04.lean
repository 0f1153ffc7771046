/-
  Contracts of functions that the statement reaches, and plain laws: Bits, WordsA, WordsB.
-/
import Derived.Test.YtlojjipfnejbnaaGreatDoorProg
import Derived.Test.YtlojjipfnejbnaaGreatDoorA02
import Derived.Shelf.Spec.BitsCarry
set_option linter.unusedVariables false
set_option linter.unusedSimpArgs false
set_option maxHeartbeats 8000000
set_option maxRecDepth 100000
namespace Go.Proofs.YtlojjipfnejbnaaGreatDoor
open Go.RowKit Sos
def B64:Int:=18446744073709551616
def lo64 (x:Int):Int:=x%18446744073709551616
def hi64 (x:Int):Int:=x/18446744073709551616
def bor (x y:Int):Int:=if x<y then 1 else 0
theorem B64_eq:B64=18446744073709551616:=rfl
theorem lo_hi (x:Int):lo64 x+B64*hi64 x=x:=by unfold lo64 hi64 B64;omega
theorem lo64_bd (x:Int):0≤lo64 x∧lo64 x<B64:=by unfold lo64 B64;omega
theorem hi64_bd {x:Int} (h0:0≤x) {m:Int} (h:x<B64*m):0≤hi64 x∧hi64 x<m:=by
 unfold hi64;unfold B64 at h
 have h1:x/18446744073709551616<m:=Int.ediv_lt_of_lt_mul (by decide) (by rw[Int.mul_comm];exact h)
 omega
theorem bor_bd (x y:Int):0≤bor x y∧bor x y≤1:=by unfold bor;split<;>decide
theorem lo_bor {x y:Int} (hx:0≤x) (hx':x<B64) (hy:0≤y) (hy':y≤B64):lo64 (x-y)=x-y+B64*bor x y:=by
 unfold lo64 bor;unfold B64 at *;split<;>omega
theorem add64 (x y c:Int) (hx:0≤x) (hy:0≤y) (hc0:0≤c) (hc:c≤1) (hx':x<B64) (hy':y<B64) (w:World):(callFunc 171 #[.int .u64 x,.int .u64 y,.int .u64 c]).run Tryz.prog w=
  .ok (.value (.tuple #[.int .u64 (lo64 (x+y+c)),.int .u64 (hi64 (x+y+c))])) w:=by
 unfold lo64 hi64;unfold B64 at hx' hy'
 obtain⟨x,rfl⟩:=Int.eq_ofNat_of_zero_le hx
 obtain⟨y,rfl⟩:=Int.eq_ofNat_of_zero_le hy
 obtain⟨c,rfl⟩:=Int.eq_ofNat_of_zero_le hc0
 rw[run_callFunc_extern Tryz.func171 (by kernel_rfl) (by kernel_rfl) (by kernel_rfl) (e:=add64Entry) (by kernel_rfl),run_add64 x y c (by omega) (by omega) (by omega) (by omega)]
 simp only[Result.andThen]
theorem add64_0 (x y:Int) (hx:0≤x) (hy:0≤y) (hx':x<B64) (hy':y<B64) (w:World):(callFunc 171 #[.int .u64 x,.int .u64 y,.int .u64 0]).run Tryz.prog w=
  .ok (.value (.tuple #[.int .u64 (lo64 (x+y)),.int .u64 (hi64 (x+y))])) w:=by
 simpa using add64 x y 0 hx hy (Int.le_refl 0) (by decide) hx' hy' w
theorem add64_z (x c:Int) (hx:0≤x) (hc0:0≤c) (hc:c≤1) (hx':x<B64) (w:World):(callFunc 171 #[.int .u64 x,.int .u64 0,.int .u64 c]).run Tryz.prog w=
  .ok (.value (.tuple #[.int .u64 (lo64 (x+c)),.int .u64 (hi64 (x+c))])) w:=by
 simpa using add64 x 0 c hx (Int.le_refl 0) hc0 hc hx' (by unfold B64;decide) w
theorem sub64 (x y b:Int) (hx:0≤x) (hy:0≤y) (hb0:0≤b) (hb:b≤1) (hx':x<B64) (hy':y<B64) (w:World):(callFunc 194 #[.int .u64 x,.int .u64 y,.int .u64 b]).run Tryz.prog w=
  .ok (.value (.tuple #[.int .u64 (lo64 (x-y-b)),.int .u64 (bor x (y+b))])) w:=by
 unfold lo64 bor;unfold B64 at hx' hy'
 obtain⟨x,rfl⟩:=Int.eq_ofNat_of_zero_le hx
 obtain⟨y,rfl⟩:=Int.eq_ofNat_of_zero_le hy
 obtain⟨b,rfl⟩:=Int.eq_ofNat_of_zero_le hb0
 have e1:(((x+18446744073709551616-y-b)%18446744073709551616:Nat):Int)=((x:Int)-y-b)%18446744073709551616:=by omega
 have e2:((if x<y+b then 1 else 0:Nat):Int)=if (x:Int)<y+b then 1 else 0:=by split<;>split<;>omega
 rw[←e1,←e2]
 rw[run_callFunc_extern Tryz.func194 (by kernel_rfl) (by kernel_rfl) (by kernel_rfl) (e:=sub64Entry) (by kernel_rfl),run_sub64 x y b (by omega)]
 rfl
theorem sub64_0 (x y:Int) (hx:0≤x) (hy:0≤y) (hx':x<B64) (hy':y<B64) (w:World):(callFunc 194 #[.int .u64 x,.int .u64 y,.int .u64 0]).run Tryz.prog w=
  .ok (.value (.tuple #[.int .u64 (lo64 (x-y)),.int .u64 (bor x y)])) w:=by
 simpa using sub64 x y 0 hx hy (Int.le_refl 0) (by decide) hx' hy' w
theorem sub64_z (x c:Int) (hx:0≤x) (hc0:0≤c) (hc:c≤1) (hx':x<B64) (w:World):(callFunc 194 #[.int .u64 x,.int .u64 0,.int .u64 c]).run Tryz.prog w=
  .ok (.value (.tuple #[.int .u64 (lo64 (x-c)),.int .u64 (bor x c)])) w:=by
 simpa using sub64 x 0 c hx (Int.le_refl 0) hc0 hc hx' (by unfold B64;decide) w
theorem trim_any (A:Option Addr) (zs:List Int) (c:Nat) (w:World) (hs:Rd .u64 w A zs) (hc:zs.length≤c) (hcap:zs.length*8≤281474976710656):
  Calls Tryz.prog 138 #[.slice A zs.length c] w fun e w'=>e= .returned (.slice A (trimL zs).length c)∧w=w':=by
 go_enter Tryz.func138,Tryz.ntmps138
 go_wp2
 go_loop [3] (fun i=>∃n:Nat,n≤zs.length∧i= .int .i64 n∧∀j,n≤j→zs.getD j 0=0) (fun i=>(intOf i).toNat)
 case atStart=>exact⟨zs.length,Nat.le_refl _,rfl,fun j hj=>by simp[hj]⟩
 case round=>
  obtain⟨n,hn,rfl,hz⟩:=hrel
  have HZ:=Lib.hid hz
  clear hz
  by_cases h0:0<n
  ·obtain⟨b,off,rfl,hb,hcell⟩:=hs.at_ (by omega)
   have hc1:=hcell (n-1) (by omega)
   have HC:=Lib.hid hcell
   clear hcell
   go_wp2
   ·have e0:(zs[n-1]?.getD 0==0)=true:=by assumption
    go_round
    case rel=>
     refine⟨n-1,by omega,by go_num,fun j hj=> ?_⟩
     by_cases e:j=n-1
     ·subst e;simpa using e0
     ·exact HZ.out j (by omega)
    case measure=>simp[intOf];omega
   ·have e0:(zs[n-1]?.getD 0==0)=false:=by assumption
    go_ret
    refine⟨?_,rfl⟩
    have e:trimL zs=zs.take n:=noZ_take_of hn (.inr (by simpa using e0)) HZ.out
    rw[e,List.length_take,Nat.min_eq_left hn];rfl
  ·obtain rfl:n=0:=by omega
   go_wp2
   go_ret
   refine⟨?_,rfl⟩
   have e:trimL zs=zs.take 0:=noZ_take_of (Nat.zero_le _) (.inl rfl) HZ.out
   rw[e];rfl
theorem trim_at (A:Option Addr) (zs:List Int) (n c:Nat) (w:World) (hn:zs.length=n) (hs:Rd .u64 w A zs) (hc:n≤c) (hcap:n*8≤281474976710656):
  Calls Tryz.prog 138 #[.slice A n c] w fun e w'=>e= .returned (.slice A (trimL zs).length c)∧w=w':=by
 subst hn;exact trim_any A zs c w hs hc (by omega)
theorem B64_pos:(0:Int)<B64:=by decide
theorem B64_gt1:(1:Int)<B64:=by decide
theorem set_getD (zs:List Int) (i j:Nat) (v:Int) (h:i≠j):(zs.set i v).getD j 0=zs.getD j 0:=by
 simp only[List.getD_eq_getElem?_getD,List.getElem?_set_ne h]
theorem add_step {zs:List Int} {k:Nat} {c y T:Int} (hk:k<zs.length) (h:val B64 zs+c*B64^k=T):
  val B64 (zs.set k (lo64 (zs.getD k 0+y+c)))+hi64 (zs.getD k 0+y+c)*B64^(k+1)=T+B64^k*y:=by
 have e:=lo_hi (zs.getD k 0+y+c)
 rw[val_set _ _ _ _ hk,←h,Int.pow_succ]
 generalize lo64 (zs.getD k 0+y+c)=l at *
 generalize hi64 (zs.getD k 0+y+c)=m at *
 generalize zs.getD k 0=z at *
 generalize B64^k=p at *
 generalize val B64 zs=s at *
 generalize B64=b at *
 have e2:p*(l+b*m)=p*(z+y+c):=by rw[e]
 grind
theorem sub_step {zs:List Int} {k:Nat} {c y T:Int} (hk:k<zs.length) (hz:InR B64 zs) (hy0:0≤y) (hy1:y<B64) (hc0:0≤c) (hc1:c≤1) (h:val B64 zs-c*B64^k=T):
  val B64 (zs.set k (lo64 (zs.getD k 0-y-c)))-bor (zs.getD k 0) (y+c)*B64^(k+1)=T-B64^k*y:=by
 have hb:=hz.getD B64_pos k
 have e:=lo_bor hb.1 hb.2 (show 0≤y+c by omega) (show y+c≤B64 by omega)
 rw[show zs.getD k 0-y-c=zs.getD k 0-(y+c) by omega,val_set _ _ _ _ hk,←h,Int.pow_succ,e]
 generalize bor (zs.getD k 0) (y+c)=m
 grind
theorem carry_end {zs:List Int} {c T:Int} (hz:InR B64 zs) (hc0:0≤c) (hc1:c≤1) (h:val B64 zs+c*B64^zs.length=T) (hT:T<B64^zs.length):val B64 zs=T:=by
 have h0:=val_nonneg B64_pos hz
 have hcc:c=0∨c=1:=by omega
 rcases hcc with rfl|rfl
 ·simpa using h
 ·omega
theorem borrow_end {zs:List Int} {c T:Int} (hz:InR B64 zs) (hc0:0≤c) (hc1:c≤1) (h:val B64 zs-c*B64^zs.length=T) (hT:0≤T):val B64 zs=T:=by
 have h0:=val_lt B64_pos hz
 have hcc:c=0∨c=1:=by omega
 rcases hcc with rfl|rfl
 ·simpa using h
 ·omega
theorem mod_lo {zs:List Int} (h:InR B64 zs) (k:Nat) (s:Int):InR B64 (zs.set k (lo64 s)):=h.set (lo64_bd s).1 (lo64_bd s).2 k
theorem addInto_any (g off:Nat) (xs:List Int) (cx:Nat) (A:Option Addr) (ys:List Int) (cy:Nat) (w:World)
  (hx:Cells .u64 w g off xs) (hsoft:Soft w g) (hcx:xs.length≤cx) (hb:xs.length*8≤281474976710656) (hy:Rd .u64 w A ys)
  (hne:∀b o,A=some ⟨b,o,none⟩→0<ys.length→b≠g) (hlen:ys.length≤xs.length) (hX:InR B64 xs) (hY:InR B64 ys) (hsum:val B64 xs+val B64 ys<B64^xs.length):
  Calls Tryz.prog 145 #[.slice (some ⟨g,off,none⟩) xs.length cx,.slice A ys.length cy] w fun e w'=>e= .returned (.tuple #[])∧
   ∃zs,zs.length=xs.length∧InR B64 zs∧val B64 zs=val B64 xs+val B64 ys∧Cells .u64 w' g off zs∧Only g off xs.length w w':=by
 go_enter Tryz.func145,Tryz.ntmps145
 go_wp2
 go_loopw [4,10] (fun t i wr=>∃(k:Nat) (zs:List Int) (c:Int),k≤ys.length∧i= .int .i64 k∧t= .int .u64 c∧0≤c∧c≤1∧zs.length=xs.length∧InR B64 zs∧
   Hid (val B64 zs+c*B64^k=val B64 xs+val B64 (ys.take k))∧Cells .u64 wr g off zs∧Only g off xs.length w wr) (fun _ i _=>ys.length-(intOf i).toNat)
 case atStart=>exact⟨0,xs,0,Nat.zero_le _,rfl,rfl,by decide,by decide,rfl,hX,by simp[Hid],hx,Only.refl _ _ _ _⟩
 case round=>
  obtain⟨k,zs,c,hk,rfl,rfl,hc0,hc1,hzl,hz,hval,hcell,hon⟩:=hrel
  by_cases hlt:k<ys.length
  ·obtain⟨b,o,rfl,hbs,hyc⟩:=(hon.rd hy hne).at_ (by omega)
   have h1:=hyc k hlt
   have h2:=hcell k (by omega)
   have hf:=(hon.soft hsoft).free (off+k)
   have b1:=hz.getD B64_pos k
   have b2:=hY.getD B64_pos k
   have HC:=Lib.hid hcell
   have HN:=Lib.hid hne
   have HO:=Lib.hid hon
   have hstep:=add_step (y:=ys.getD k 0) (show k<zs.length by omega) hval.out
   have hts:=val_take_succ B64 ys k hlt
   generalize hxe:zs.getD k 0=x at *
   generalize hye:ys.getD k 0=y at *
   have HX:=Lib.hid hxe
   have HYE:=Lib.hid hye
   have HS:=Lib.hid hstep
   have HT:=Lib.hid hts
   obtain⟨b10,b11⟩:=b1
   obtain⟨b20,b21⟩:=b2
   clear hcell hyc hne hon hxe hye hstep hts
   go_wp2_with (simp only[add64 x y c b10 b20 hc0 hc1 b11 b21])
   go_roundw
   case rel=>
    have hl:=lo64_bd (x+y+c)
    have hh:=hi64_bd (x:=x+y+c) (m:=2) (by omega) (by omega)
    refine⟨k+1,zs.set k (lo64 (x+y+c)),hi64 (x+y+c),by omega,by go_num,rfl,hh.1,by omega,by simpa using hzl,hz.set hl.1 hl.2 k,?_,HC.out.set (by omega) _,HO.out.set (by omega) _⟩
    have:=HS.out
    have:=HT.out
    unfold Hid;omega
   case measure=>simp[intOf];omega
  ·obtain rfl:k=ys.length:=by omega
   rw[List.take_length] at hval
   clear hy hne
   go_wp2
   go_loopw [4,7] (fun t i wr=>∃(k:Nat) (zs:List Int) (c:Int),k≤xs.length∧i= .int .i64 k∧t= .int .u64 c∧0≤c∧c≤1∧zs.length=xs.length∧InR B64 zs∧
     Hid (val B64 zs+c*B64^k=val B64 xs+val B64 ys)∧Cells .u64 wr g off zs∧Only g off xs.length w wr) (fun _ i _=>xs.length-(intOf i).toNat)
   case atStart=>exact⟨ys.length,zs,c,by omega,rfl,rfl,hc0,hc1,hzl,hz,hval,hcell,hon⟩
   case round=>
    clear hc0 hc1 hzl hz hval hcell hon
    obtain⟨k,zs,c,hk,rfl,rfl,hc0,hc1,hzl,hz,hval,hcell,hon⟩:=hrel
    have hend:c=0∨k=xs.length→val B64 zs=val B64 xs+val B64 ys:=by
     rintro (rfl|rfl)
     ·simpa using hval.out
     ·exact carry_end hz hc0 hc1 (by rw[hzl];exact hval.out) (by rw[hzl];exact hsum)
    have HE:=Lib.hid hend
    have HSUM:=Lib.hid hsum
    clear hend hsum
    by_cases h0:c=0
    ·have HE2:=Lib.hid (HE.out (.inl h0))
     subst h0
     go_wp2
     go_end0
     exact⟨rfl,zs,hzl,hz,HE2.out,hcell,hon⟩
    ·obtain rfl:c=1:=by omega
     by_cases hlt:k<xs.length
     ·have h2:=hcell k (by omega)
      have hf:=(hon.soft hsoft).free (off+k)
      have b1:=hz.getD B64_pos k
      have HC:=Lib.hid hcell
      have HO:=Lib.hid hon
      have hstep:=add_step (y:=0) (show k<zs.length by omega) hval.out
      generalize hxe:zs.getD k 0=x at *
      have HX:=Lib.hid hxe
      have HS:=Lib.hid hstep
      obtain⟨b10,b11⟩:=b1
      clear hcell hon hxe hstep
      go_wp2_with (simp only[add64_z x 1 b10 (by decide) (by decide) b11])
      go_roundw
      case rel=>
       have hl:=lo64_bd (x+1)
       have hh:=hi64_bd (x:=x+1) (m:=2) (by omega) (by have:=B64_gt1;omega)
       refine⟨k+1,zs.set k (lo64 (x+1)),hi64 (x+1),by omega,by go_num,rfl,hh.1,by omega,by simpa using hzl,hz.set hl.1 hl.2 k,?_,HC.out.set (by omega) _,HO.out.set (by omega) _⟩
       have:=HS.out
       unfold Hid
       simpa using this
      case measure=>simp[intOf];omega
     ·obtain rfl:k=xs.length:=by omega
      have HE2:=Lib.hid (HE.out (.inr rfl))
      go_wp2
      go_end0
      exact⟨rfl,zs,hzl,hz,HE2.out,hcell,hon⟩
theorem subtractFrom_any (g off:Nat) (xs:List Int) (cx:Nat) (A:Option Addr) (ys:List Int) (cy:Nat) (w:World)
  (hx:Cells .u64 w g off xs) (hsoft:Soft w g) (hcx:xs.length≤cx) (hb:xs.length*8≤281474976710656) (hy:Rd .u64 w A ys)
  (hne:∀b o,A=some ⟨b,o,none⟩→0<ys.length→b≠g) (hlen:ys.length≤xs.length) (hX:InR B64 xs) (hY:InR B64 ys) (hsum:val B64 ys≤val B64 xs):
  Calls Tryz.prog 174 #[.slice (some ⟨g,off,none⟩) xs.length cx,.slice A ys.length cy] w fun e w'=>e= .returned (.tuple #[])∧
   ∃zs,zs.length=xs.length∧InR B64 zs∧val B64 zs=val B64 xs-val B64 ys∧Cells .u64 w' g off zs∧Only g off xs.length w w':=by
 go_enter Tryz.func174,Tryz.ntmps174
 go_wp2
 go_loopw [4,10] (fun t i wr=>∃(k:Nat) (zs:List Int) (c:Int),k≤ys.length∧i= .int .i64 k∧t= .int .u64 c∧0≤c∧c≤1∧zs.length=xs.length∧InR B64 zs∧
   Hid (val B64 zs-c*B64^k=val B64 xs-val B64 (ys.take k))∧Cells .u64 wr g off zs∧Only g off xs.length w wr) (fun _ i _=>ys.length-(intOf i).toNat)
 case atStart=>exact⟨0,xs,0,Nat.zero_le _,rfl,rfl,by decide,by decide,rfl,hX,by simp[Hid],hx,Only.refl _ _ _ _⟩
 case round=>
  obtain⟨k,zs,c,hk,rfl,rfl,hc0,hc1,hzl,hz,hval,hcell,hon⟩:=hrel
  by_cases hlt:k<ys.length
  ·obtain⟨b,o,rfl,hbs,hyc⟩:=(hon.rd hy hne).at_ (by omega)
   have h1:=hyc k hlt
   have h2:=hcell k (by omega)
   have hf:=(hon.soft hsoft).free (off+k)
   have b1:=hz.getD B64_pos k
   have b2:=hY.getD B64_pos k
   have HC:=Lib.hid hcell
   have HN:=Lib.hid hne
   have HO:=Lib.hid hon
   have hstep:=sub_step (y:=ys.getD k 0) (show k<zs.length by omega) hz b2.1 b2.2 hc0 hc1 hval.out
   have hts:=val_take_succ B64 ys k hlt
   generalize hxe:zs.getD k 0=x at *
   generalize hye:ys.getD k 0=y at *
   have HX:=Lib.hid hxe
   have HYE:=Lib.hid hye
   have HS:=Lib.hid hstep
   have HT:=Lib.hid hts
   obtain⟨b10,b11⟩:=b1
   obtain⟨b20,b21⟩:=b2
   clear hcell hyc hne hon hxe hye hstep hts
   go_wp2_with (simp only[sub64 x y c b10 b20 hc0 hc1 b11 b21])
   go_roundw
   case rel=>
    have hl:=lo64_bd (x-y-c)
    have hh:=bor_bd x (y+c)
    refine⟨k+1,zs.set k (lo64 (x-y-c)),bor x (y+c),by omega,by go_num,rfl,hh.1,by omega,by simpa using hzl,hz.set hl.1 hl.2 k,?_,HC.out.set (by omega) _,HO.out.set (by omega) _⟩
    have:=HS.out
    have:=HT.out
    unfold Hid;omega
   case measure=>simp[intOf];omega
  ·obtain rfl:k=ys.length:=by omega
   rw[List.take_length] at hval
   clear hy hne
   go_wp2
   go_loopw [4,7] (fun t i wr=>∃(k:Nat) (zs:List Int) (c:Int),k≤xs.length∧i= .int .i64 k∧t= .int .u64 c∧0≤c∧c≤1∧zs.length=xs.length∧InR B64 zs∧
     Hid (val B64 zs-c*B64^k=val B64 xs-val B64 ys)∧Cells .u64 wr g off zs∧Only g off xs.length w wr) (fun _ i _=>xs.length-(intOf i).toNat)
   case atStart=>exact⟨ys.length,zs,c,by omega,rfl,rfl,hc0,hc1,hzl,hz,hval,hcell,hon⟩
   case round=>
    clear hc0 hc1 hzl hz hval hcell hon
    obtain⟨k,zs,c,hk,rfl,rfl,hc0,hc1,hzl,hz,hval,hcell,hon⟩:=hrel
    have hend:c=0∨k=xs.length→val B64 zs=val B64 xs-val B64 ys:=by
     rintro (rfl|rfl)
     ·simpa using hval.out
     ·exact borrow_end hz hc0 hc1 (by rw[hzl];exact hval.out) (by omega)
    have HE:=Lib.hid hend
    have HSUM:=Lib.hid hsum
    clear hend hsum
    by_cases h0:c=0
    ·have HE2:=Lib.hid (HE.out (.inl h0))
     subst h0
     go_wp2
     go_end0
     exact⟨rfl,zs,hzl,hz,HE2.out,hcell,hon⟩
    ·obtain rfl:c=1:=by omega
     by_cases hlt:k<xs.length
     ·have h2:=hcell k (by omega)
      have hf:=(hon.soft hsoft).free (off+k)
      have b1:=hz.getD B64_pos k
      have HC:=Lib.hid hcell
      have HO:=Lib.hid hon
      have hstep:=sub_step (y:=0) (show k<zs.length by omega) hz (by decide) (by decide) (by decide) (by decide) hval.out
      generalize hxe:zs.getD k 0=x at *
      have HX:=Lib.hid hxe
      have HS:=Lib.hid hstep
      obtain⟨b10,b11⟩:=b1
      clear hcell hon hxe hstep
      go_wp2_with (simp only[sub64_z x 1 b10 (by decide) (by decide) b11])
      go_roundw
      case rel=>
       have hl:=lo64_bd (x-1)
       have hh:=bor_bd x 1
       refine⟨k+1,zs.set k (lo64 (x-1)),bor x 1,by omega,by go_num,rfl,hh.1,by omega,by simpa using hzl,hz.set hl.1 hl.2 k,?_,HC.out.set (by omega) _,HO.out.set (by omega) _⟩
       have:=HS.out
       unfold Hid
       simpa using this
      case measure=>simp[intOf];omega
     ·obtain rfl:k=xs.length:=by omega
      have HE2:=Lib.hid (HE.out (.inr rfl))
      go_wp2
      go_end0
      exact⟨rfl,zs,hzl,hz,HE2.out,hcell,hon⟩
theorem addInto_at (g off n:Nat) (xs:List Int) (cx:Nat) (A:Option Addr) (m:Nat) (ys:List Int) (cy:Nat) (w:World) (hn:xs.length=n) (hm:ys.length=m)
  (hx:Cells .u64 w g off xs) (hsoft:Soft w g) (hcx:n≤cx) (hb:n*8≤281474976710656) (hy:Rd .u64 w A ys)
  (hne:∀b o,A=some ⟨b,o,none⟩→0<m→b≠g) (hlen:m≤n) (hX:InR B64 xs) (hY:InR B64 ys) (hsum:val B64 xs+val B64 ys<B64^n):
  Calls Tryz.prog 145 #[.slice (some ⟨g,off,none⟩) n cx,.slice A m cy] w fun e w'=>e= .returned (.tuple #[])∧
   ∃zs,zs.length=n∧InR B64 zs∧val B64 zs=val B64 xs+val B64 ys∧Cells .u64 w' g off zs∧Only g off n w w':=by
 subst hn hm;exact addInto_any g off xs cx A ys cy w hx hsoft hcx hb hy hne hlen hX hY hsum
theorem subtractFrom_at (g off n:Nat) (xs:List Int) (cx:Nat) (A:Option Addr) (m:Nat) (ys:List Int) (cy:Nat) (w:World) (hn:xs.length=n) (hm:ys.length=m)
  (hx:Cells .u64 w g off xs) (hsoft:Soft w g) (hcx:n≤cx) (hb:n*8≤281474976710656) (hy:Rd .u64 w A ys)
  (hne:∀b o,A=some ⟨b,o,none⟩→0<m→b≠g) (hlen:m≤n) (hX:InR B64 xs) (hY:InR B64 ys) (hsum:val B64 ys≤val B64 xs):
  Calls Tryz.prog 174 #[.slice (some ⟨g,off,none⟩) n cx,.slice A m cy] w fun e w'=>e= .returned (.tuple #[])∧
   ∃zs,zs.length=n∧InR B64 zs∧val B64 zs=val B64 xs-val B64 ys∧Cells .u64 w' g off zs∧Only g off n w w':=by
 subst hn hm;exact subtractFrom_any g off xs cx A ys cy w hx hsoft hcx hb hy hne hlen hX hY hsum
end Go.Proofs.YtlojjipfnejbnaaGreatDoor
