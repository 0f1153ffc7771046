/-
  Contracts of functions that the statement reaches, and plain laws: Div64, DivA, EstP, EstA, DivS, DivT.
-/
import Derived.Test.YtbhplgdbfmifkaaGreatDoorI09
import Derived.Deep.CutBlock
set_option linter.unusedVariables false
set_option linter.unusedSimpArgs false
set_option maxHeartbeats 8000000
set_option maxRecDepth 100000
namespace Go.Proofs.YtbhplgdbfmifkaaGreatDoor
open Go.RowKit Sos
theorem oS (y:Int) (s:Nat) (hy0:0<y) (hy1:y<aA) (hs:Lib.bitLen y.toNat+s=64) (w:World):
  Calls Tryz.prog 185 #[.int .u64 y] w fun e w'=>e= .returned (.int .i64 s)∧w=w':=by
 refine(Tryz.bits_LeadingZeros64 y w (by omega) (by unfold aA at hy1;omega)).mono fun e w' h=>⟨?_,h.2.symm⟩;rw[h.1];congr 2;omega
theorem CQ {z y:Int} {sh:Nat} (h:sh≤64) (hz0:0≤z) (hz:z<2^sh) (hy0:0≤y) (hy:y<aA) (hd:∃q,y=2^sh*q):bits .or .u64 y z=y+z:=by
 rw[Int.add_comm,←wJ h hz0 hz hy0 hy hd];have hp:(2:Int)^sh≤aA:=by
  have e:=jP h;have h2:=cN (64-sh);have h1:=cN sh;have:(2:Int)^sh*1≤2^sh*2^(64-sh):=Int.mul_le_mul_of_nonneg_left (by omega) (by omega);omega
 rw[u64_or y z hy0 (by unfold aA at hy;omega) hz0 (by unfold aA at hp;omega),u64_or z y hz0 (by unfold aA at hp;omega) hy0 (by unfold aA at hy;omega),Nat.or_comm]
theorem wV (Y:Int) (h0:0≤Y) (h1:Y<aA):bits .and .u64 Y 4294967295=Y%4294967296:=by
 rw[u64_and Y 4294967295 h0 (by unfold aA at h1;omega) (by decide) (by decide)];obtain⟨n,rfl⟩:=Int.eq_ofNat_of_zero_le h0;rw[Int.toNat_natCast,show(4294967295:Int).toNat=2^32-1 from rfl,Nat.and_two_pow_sub_one_eq_mod];rfl
theorem sY (hi lo y:Int) (h0:0≤hi) (h1:hi<y) (hl0:0≤lo) (hl1:lo<aA) (hy:y<aA) (w:World):
  Calls Tryz.prog 191 #[.int .u64 hi,.int .u64 lo,.int .u64 y] w fun e w'=>∃q r,e= .returned (.tuple #[.int .u64 q,.int .u64 r])∧0≤q∧q<aA∧0≤r∧r<y∧q*y+r=hi*aA+lo∧∃m,w'=w.drewN m:=by
 have k0:(y==0)=false:=by simp;omega
 have k1:¬y≤hi:=by omega
 have k2:1≤y:=by omega
 by_cases hz:hi=0
 ·subst hz;unfold aA at hl1 hy;go_enter Tryz.func191,Tryz.ntmps191;go_wp2;go_quiet (fail);go_wp2;go_ret2;refine⟨lo/y,lo%y,rfl,Int.ediv_nonneg hl0 (by omega),?_,Int.emod_nonneg _ (by omega),Int.emod_lt_of_pos _ (by omega),?_,_,rfl⟩
  ·have:=Int.ediv_le_self y hl0;unfold aA;omega
  ·have:=Int.emod_add_mul_ediv lo y;rw[Int.mul_comm];omega
 ·have k3:(hi==0)=false:=by simp;omega
  obtain⟨yn,rfl⟩:=Int.eq_ofNat_of_zero_le (show 0≤y by omega);obtain⟨s,hs1,hs2,hs3,hs4⟩:=sZ yn (by omega) (by have:=gU;omega);obtain⟨Y,hYe⟩:∃Y,Y=(yn:Int)*2^s:=⟨_,rfl⟩;have hY1:9223372036854775808≤Y:=by
   rw[hYe];have:((2^63:Nat):Int)≤((yn*2^s:Nat):Int):=by omega
   simpa using this
  have hY2:Y<aA:=by
   rw[hYe];have:((yn*2^s:Nat):Int)<((BN:Nat):Int):=by omega
   simpa [gU] using this
  have e1:IntKind.u64.wrap ((yn:Int)*2^s)=Y:=by
   rw[jO,←hYe];unfold cB;unfold aA at hY2;omega
  have hhs:hi*2^s<aA:=by
   have:hi*2^s<(yn:Int)*2^s:=Int.mul_lt_mul_of_pos_right h1 (cN s);omega
  have hhs0:0≤hi*2^s:=Int.mul_nonneg h0 (Int.le_of_lt (cN s));have e2:IntKind.u64.wrap (hi*2^s)=hi*2^s:=by
   rw[jO];unfold cB;unfold aA at hhs;omega
  obtain⟨V,H,hsp⟩:=fK (lo*2^s);have hHb:=wI hl0 hl1 s;rw[hsp.hi] at hHb;have e3:lo/2^(64-s)=H:=by rw[CF lo (by omega),hsp.hi]
  have e4:IntKind.u64.wrap (lo*2^s)=V:=by rw[jO,hsp.lo]
  have e5:bits .or .u64 (hi*2^s) H=hi*2^s+H:=CQ (by omega) hHb.1 hHb.2 hhs0 hhs ⟨hi,Int.mul_comm _ _⟩;obtain⟨U,hUe⟩:∃U,U=hi*2^s+H:=⟨_,rfl⟩;have hU0:0≤U:=by omega
  have hU1:U<Y:=by
   have h9:(hi+1)*2^s≤(yn:Int)*2^s:=Int.mul_le_mul_of_nonneg_right (by omega) (Int.le_of_lt (cN s));rw[Int.add_mul,Int.one_mul] at h9;omega
  have hUV:U*aA+V=(hi*aA+lo)*2^s:=by
   rw[hUe];have:=hsp.1;grind
  have hV:=hsp.2;rw[←hUe] at e5;have HUV:=Lib.hid hUV;have HYE:=Lib.hid hYe;have HUE:=Lib.hid hUe;clear hUV hYe hUe hsp;obtain⟨y1,hy1⟩:∃y1,Y/4294967296=y1:=⟨_,rfl⟩;obtain⟨y0,hy0⟩:∃y0,y0=Y%4294967296:=⟨_,rfl⟩;obtain⟨d1,hd1⟩:∃d1,V/4294967296=d1:=⟨_,rfl⟩;obtain⟨d0,hd0⟩:∃d0,d0=V%4294967296:=⟨_,rfl⟩;have e6:bits .and .u64 Y 4294967295=y0:=by rw[hy0];exact wV Y (by omega) hY2
  have e7:bits .and .u64 V 4294967295=d0:=by rw[hd0];exact wV V hV.1 hV.2
  have by1:2147483648≤y1∧y1<4294967296:=by unfold aA at hY2;omega
  have by0:0≤y0∧y0<4294967296:=by omega
  have bd1:0≤d1∧d1<4294967296:=by have:=hV;unfold aA at this;omega
  have bd0:0≤d0∧d0<4294967296:=by omega
  have hYY:Y=y1*4294967296+y0:=by omega
  have hVV:V=d1*4294967296+d0:=by omega
  have HY0:=Lib.hid hy0;have HD0:=Lib.hid hd0;have HYY:=Lib.hid hYY;have HVV:=Lib.hid hVV;clear hy0 hd0 hYY hVV;obtain⟨q0,hq0⟩:∃q0,U/y1=q0:=⟨_,rfl⟩;obtain⟨r0,hr0⟩:∃r0,U-q0*y1=r0:=⟨_,rfl⟩;have hUl:U≤18446744073709551615:=by unfold aA at hY2;omega
  have hq0b:0≤q0∧q0≤4294967297:=by
   refine⟨by rw[←hq0];exact Int.ediv_nonneg hU0 (by omega),?_⟩;have:q0<4294967298:=by
    rw[←hq0];refine Int.ediv_lt_of_lt_mul (by omega) ?_;have:=HYY.out;omega
   omega
  have hr0b:0≤r0∧r0<y1:=by
   have h1:=Int.emod_add_mul_ediv U y1;have h2:=Int.emod_nonneg U (show y1≠0 by omega);have h3:=Int.emod_lt_of_pos U (show 0<y1 by omega);rw[hq0,Int.mul_comm] at h1;omega
  have hqy0:0≤q0*y1:=Int.mul_nonneg hq0b.1 (by omega);have hqy1:q0*y1≤18446744073709551615:=by omega
  obtain⟨t1,R1,ht1,hR10,hR11⟩:∃t R,t*Y+R=U*4294967296+d1∧0≤R∧R<Y:=
   ⟨(U*4294967296+d1)/Y,(U*4294967296+d1)%Y,by have:=Int.emod_add_mul_ediv (U*4294967296+d1) Y;rw[Int.mul_comm];omega,Int.emod_nonneg _ (by omega),Int.emod_lt_of_pos _ (by omega)⟩
  have HT1:=Lib.hid ht1;clear ht1;go_enter Tryz.func191,Tryz.ntmps191;go_upto_block 0 with (go_at_call 185;refine(oS _ s (by omega) hy (by rw[Int.toNat_natCast];exact hs2) _).mono ?_;rintro e w' ⟨rfl,rfl⟩);have hbt1:=CU hU0 hU1 bd1.1 bd1.2 HT1.out hR10 hR11;have HT1Y:Hid (t1*(y1*4294967296+y0)+R1=U*4294967296+d1):=by have:=HT1.out;rw[HYY.out] at this;exact this
  have hup1:t1≤q0:=by
   rcases Int.lt_or_le q0 t1 with h|h
   ·have h9:(q0+1)*(y1*4294967296+y0)≤t1*(y1*4294967296+y0):=Int.mul_le_mul_of_nonneg_right (by omega) (by omega);have h10:=HT1Y.out;have h11:(q0+1)*(y1*4294967296+y0)=q0*y1*4294967296+y1*4294967296+(q0+1)*y0:=by grind
    have h12:=(iV (show 0≤q0+1 by omega) (Int.le_refl _) by0.1 (Int.le_refl _)).1;omega
   ·exact h
  simp only[hq0];go_cut [15] (fun q wx=>q= .int .u64 t1∧w=wx)
  case first=>
   go_wp2;go_loop [15,16] (fun a c=>∃q r,a= .int .u64 q∧c= .int .u64 r∧Dig U d1 y1 y0 t1 q r) (fun a _=>(intOf a).toNat)
   case atStart=>exact⟨q0,r0,rfl,rfl,⟨by omega,hr0b.1,by omega,hup1,hq0b.1,hq0b.2⟩⟩
   case round=>
    obtain⟨q,r,rfl,rfl,hdg⟩:=hrel;have g1:=hdg.r0;have g2:=hdg.r1;have g3:=hdg.up;have g4:=hdg.q0;have g5:=hdg.q1
    by_cases hc1:4294967296≤q
    ·have hnx:=hdg.next (R:=R1) (by omega) by0.1 bd1.1 HT1Y.out hR10 (by omega) hbt1.2 (.inl hc1);have HEQ:=Lib.hid hnx.2;have hle:=hnx.1;clear hnx;by_cases hbr:4294967296≤r+y1
     ·have hst:q-1=t1:=by
       have:=Dig.stop (d:=d1) (t:=t1) (R:=R1) HEQ.out (by omega) g5 by0.1 by0.2 bd1.1 HT1Y.out (by have:=HYY.out;omega) (by omega) hbr;omega
      clear HEQ;go_wp2;go_meet
      case rel=>exact⟨by first|rfl|rw[hst],rfl⟩
     ·go_wp2;go_round
      case rel=>exact⟨q-1,r+y1,rfl,rfl,⟨HEQ.out,by omega,by omega,hle,by omega,by omega⟩⟩
      case measure=>simp[intOf];omega
    ·have hp:=iV g4 (show q≤4294967295 by omega) by0.1 (show y0≤4294967295 by omega);have hp1:=hp.1;have hp2:q*y0≤18446744073709551615:=by omega
     by_cases hc2:4294967296*r+d1<q*y0
     ·have hnx:=hdg.next (R:=R1) (by omega) by0.1 bd1.1 HT1Y.out hR10 (by omega) hbt1.2 (.inr hc2);have HEQ:=Lib.hid hnx.2;have hle:=hnx.1;clear hnx hp;by_cases hbr:4294967296≤r+y1
      ·have hst:q-1=t1:=by
        have:=Dig.stop (d:=d1) (t:=t1) (R:=R1) HEQ.out (by omega) g5 by0.1 by0.2 bd1.1 HT1Y.out (by have:=HYY.out;omega) (by omega) hbr;omega
       clear HEQ;go_wp2;go_meet
       case rel=>exact⟨by first|rfl|rw[hst],rfl⟩
      ·go_wp2;go_round
       case rel=>exact⟨q-1,r+y1,rfl,rfl,⟨HEQ.out,by omega,by omega,hle,by omega,by omega⟩⟩
       case measure=>simp[intOf];omega
     ·have hst:q=t1:=by
       have:=Dig.down (d:=d1) (t:=t1) (R:=R1) hdg.eq HT1Y.out (by have:=HYY.out;omega) (by omega) (by omega);omega
      have HST:=Lib.hid hst;clear hst hp;go_wp2;go_meet
      case rel=>exact⟨by first|rfl|rw[HST.out],rfl⟩
  case rest=>
   obtain⟨rfl,rfl⟩:=hcut;clear hq0 hr0 hqy0 hqy1 hup1 hr0b hq0b;obtain⟨A1,hA1⟩:∃A1,IntKind.u64.wrap (U*4294967296)=A1:=⟨_,rfl⟩;obtain⟨A2,hA2⟩:∃A2,IntKind.u64.wrap (A1+d1)=A2:=⟨_,rfl⟩;obtain⟨A3,hA3⟩:∃A3,IntKind.u64.wrap (t1*Y)=A3:=⟨_,rfl⟩;have hA4:IntKind.u64.wrap (A2-A3)=R1:=by
    have h9:=HT1.out;rw[jO] at hA1 hA2 hA3⊢;unfold cB at *;unfold aA at hY2;omega
   have hR1l:R1≤18446744073709551615:=by unfold aA at hY2;omega
   obtain⟨q2,hq2⟩:∃q2,R1/y1=q2:=⟨_,rfl⟩;obtain⟨r2,hr2⟩:∃r2,R1-q2*y1=r2:=⟨_,rfl⟩;have hq2b:0≤q2∧q2≤4294967297:=by
    refine⟨by rw[←hq2];exact Int.ediv_nonneg hR10 (by omega),?_⟩;have:q2<4294967298:=by
     rw[←hq2];refine Int.ediv_lt_of_lt_mul (by omega) ?_;have:=HYY.out;omega
    omega
   have hr2b:0≤r2∧r2<y1:=by
    have h1:=Int.emod_add_mul_ediv R1 y1;have h2:=Int.emod_nonneg R1 (show y1≠0 by omega);have h3:=Int.emod_lt_of_pos R1 (show 0<y1 by omega);rw[hq2,Int.mul_comm] at h1;omega
   have hqy20:0≤q2*y1:=Int.mul_nonneg hq2b.1 (by omega);have hqy21:q2*y1≤18446744073709551615:=by omega
   obtain⟨t2,R2,ht2,hR20,hR21⟩:∃t R,t*Y+R=R1*4294967296+d0∧0≤R∧R<Y:=
    ⟨(R1*4294967296+d0)/Y,(R1*4294967296+d0)%Y,by have:=Int.emod_add_mul_ediv (R1*4294967296+d0) Y;rw[Int.mul_comm];omega,Int.emod_nonneg _ (by omega),Int.emod_lt_of_pos _ (by omega)⟩
   have HT2:=Lib.hid ht2;clear ht2;have hbt2:=CU hR10 hR11 bd0.1 bd0.2 HT2.out hR20 hR21;have HT2Y:Hid (t2*(y1*4294967296+y0)+R2=R1*4294967296+d0):=by have:=HT2.out;rw[HYY.out] at this;exact this
   have hup2:t2≤q2:=by
    rcases Int.lt_or_le q2 t2 with h|h
    ·have h9:(q2+1)*(y1*4294967296+y0)≤t2*(y1*4294967296+y0):=Int.mul_le_mul_of_nonneg_right (by omega) (by omega);have h10:=HT2Y.out;have h11:(q2+1)*(y1*4294967296+y0)=q2*y1*4294967296+y1*4294967296+(q2+1)*y0:=by grind
     have h12:=(iV (show 0≤q2+1 by omega) (Int.le_refl _) by0.1 (Int.le_refl _)).1;omega
    ·exact h
   go_upto_block 2 with (fail);simp only[hq2];go_cut [18] (fun q wx=>q= .int .u64 t2∧w=wx)
   case first=>
    go_wp2;go_loop [18,16] (fun a c=>∃q r,a= .int .u64 q∧c= .int .u64 r∧Dig R1 d0 y1 y0 t2 q r) (fun a _=>(intOf a).toNat)
    case atStart=>exact⟨q2,r2,rfl,rfl,⟨by omega,hr2b.1,by omega,hup2,hq2b.1,hq2b.2⟩⟩
    case round=>
     obtain⟨q,r,rfl,rfl,hdg⟩:=hrel;have g1:=hdg.r0;have g2:=hdg.r1;have g3:=hdg.up;have g4:=hdg.q0;have g5:=hdg.q1
     by_cases hc1:4294967296≤q
     ·have hnx:=hdg.next (R:=R2) (by omega) by0.1 bd0.1 HT2Y.out hR20 (by omega) hbt2.2 (.inl hc1);have HEQ:=Lib.hid hnx.2;have hle:=hnx.1;clear hnx;by_cases hbr:4294967296≤r+y1
      ·have hst:q-1=t2:=by
        have:=Dig.stop (d:=d0) (t:=t2) (R:=R2) HEQ.out (by omega) g5 by0.1 by0.2 bd0.1 HT2Y.out (by have:=HYY.out;omega) (by omega) hbr;omega
       clear HEQ;go_wp2;go_meet
       case rel=>exact⟨by first|rfl|rw[hst],rfl⟩
      ·go_wp2;go_round
       case rel=>exact⟨q-1,r+y1,rfl,rfl,⟨HEQ.out,by omega,by omega,hle,by omega,by omega⟩⟩
       case measure=>simp[intOf];omega
     ·have hp:=iV g4 (show q≤4294967295 by omega) by0.1 (show y0≤4294967295 by omega);have hp1:=hp.1;have hp2:q*y0≤18446744073709551615:=by omega
      by_cases hc2:4294967296*r+d0<q*y0
      ·have hnx:=hdg.next (R:=R2) (by omega) by0.1 bd0.1 HT2Y.out hR20 (by omega) hbt2.2 (.inr hc2);have HEQ:=Lib.hid hnx.2;have hle:=hnx.1;clear hnx hp;by_cases hbr:4294967296≤r+y1
       ·have hst:q-1=t2:=by
         have:=Dig.stop (d:=d0) (t:=t2) (R:=R2) HEQ.out (by omega) g5 by0.1 by0.2 bd0.1 HT2Y.out (by have:=HYY.out;omega) (by omega) hbr;omega
        clear HEQ;go_wp2;go_meet
        case rel=>exact⟨by first|rfl|rw[hst],rfl⟩
       ·go_wp2;go_round
        case rel=>exact⟨q-1,r+y1,rfl,rfl,⟨HEQ.out,by omega,by omega,hle,by omega,by omega⟩⟩
        case measure=>simp[intOf];omega
      ·have hst:q=t2:=by
        have:=Dig.down (d:=d0) (t:=t2) (R:=R2) hdg.eq HT2Y.out (by have:=HYY.out;omega) (by omega) (by omega);omega
       have HST:=Lib.hid hst;clear hst hp;go_wp2;go_meet
       case rel=>exact⟨by first|rfl|rw[HST.out],rfl⟩
   case rest=>
    obtain⟨rfl,rfl⟩:=hcut;clear hq2 hr2 hqy20 hqy21 hup2 hr2b hq2b hA4;obtain⟨C1,hC1⟩:∃C1,IntKind.u64.wrap (R1*4294967296)=C1:=⟨_,rfl⟩;obtain⟨C2,hC2⟩:∃C2,IntKind.u64.wrap (C1+d0)=C2:=⟨_,rfl⟩;obtain⟨C3,hC3⟩:∃C3,IntKind.u64.wrap (t2*Y)=C3:=⟨_,rfl⟩;have hC4:IntKind.u64.wrap (C2-C3)=R2:=by
     have h9:=HT2.out;rw[jO] at hC1 hC2 hC3⊢;unfold cB at *;unfold aA at hY2;omega
    go_wp2;go_ret2;have hfin:(t1*4294967296+t2)*Y+R2=(hi*aA+lo)*2^s:=by
     rw[←HUV.out,HVV.out];have a1:=HT1.out;have a2:=HT2.out;have a3:aA=4294967296*4294967296:=rfl;rw[a3];grind
    have hYs:=HYE.out;have hp:=cN s;have hdiv:R2=2^s*(hi*aA+lo-(t1*4294967296+t2)*yn):=by rw[hYs] at hfin;grind
    have hr:R2/2^s=hi*aA+lo-(t1*4294967296+t2)*yn:=by rw[hdiv,Int.mul_ediv_cancel_left _ (by omega)]
    refine⟨t1*4294967296+t2,R2/2^s,rfl,by omega,by unfold aA;omega,Int.ediv_nonneg hR20 (by omega),?_,by rw[hr];omega,0,rfl⟩;exact Int.ediv_lt_of_lt_mul hp (by rw[←hYs];exact hR21)
theorem M6 {q r q' r' y t:Int} (h:q*y+r=t) (h':q'*y+r'=t) (h0:0≤r) (h1:r<y) (h0':0≤r') (h1':r'<y):q=q'∧r=r':=by
 have e1:q=t/y:=by rw[←h,Int.add_comm,Int.add_mul_ediv_right _ _ (by omega),Int.ediv_eq_zero_of_lt h0 h1,Int.zero_add]
 have e2:q'=t/y:=by rw[←h',Int.add_comm,Int.add_mul_ediv_right _ _ (by omega),Int.ediv_eq_zero_of_lt h0' h1',Int.zero_add]
 have e3:q=q':=by rw[e1,e2]
 subst e3;exact⟨rfl,by omega⟩
theorem M7 (hi lo y q r:Int) (h0:0≤hi) (h1:hi<y) (hl0:0≤lo) (hl1:lo<aA) (hy:y<aA) (h:q*y+r=hi*aA+lo) (hr0:0≤r) (hr1:r<y) (w:World):
  Calls Tryz.prog 191 #[.int .u64 hi,.int .u64 lo,.int .u64 y] w fun e w'=>e= .returned (.tuple #[.int .u64 q,.int .u64 r])∧∃m,w'=w.drewN m:=by
 refine(sY hi lo y h0 h1 hl0 hl1 hy w).mono ?_;rintro e w' ⟨q',r',rfl,_,_,h3,h4,h5,hm⟩;obtain⟨rfl,rfl⟩:=M6 h h5 hr0 hr1 h3 h4;exact⟨rfl,hm⟩
theorem CO {zs xs:List Int} {j:Nat} {r r' q y:Int} (hx:j<xs.length) (hz:j<zs.length) (hq:q*y+r'=r*aA+xs.getD j 0) (hv:aD aA (zs.drop (j+1))*y+r=aD aA (xs.drop (j+1))):
  aD aA ((zs.set j q).drop j)*y+r'=aD aA (xs.drop j):=by
 rw[iG _ _ _ (by rw[List.length_set];exact hz),iG _ _ _ hx,←hv];have e1:(zs.set j q).getD j 0=q:=by simp[List.getElem?_set_self hz]
 have e2:(zs.set j q).drop (j+1)=zs.drop (j+1):=List.drop_set_of_lt (by omega);rw[e1,e2];grind
theorem sX {a r y x:Int} (h:a*y+r=x) (h0:0≤r) (h1:r<y):a=x/y∧r=x%y:=by
 have hy:y≠0:=by omega
 constructor
 ·rw[←h,Int.add_comm,Int.add_mul_ediv_right _ _ hy,Int.ediv_eq_zero_of_lt h0 h1,Int.zero_add]
 ·rw[←h,Int.add_comm,Int.add_mul_emod_self_right,Int.emod_eq_of_lt h0 h1]
theorem M5 (x y:Nat) (vx:Value) (w:World) (hx:NatAt w vx x) (hy0:0<y) (hy1:y<BN) (hlim:nl x≤aF):
  Calls Tryz.prog 211 #[vx,.int .u64 y] w fun e w'=>∃v,e= .returned (.tuple #[v,.int .u64 ((x%y:Nat):Int)])∧NatAt w' v (x/y)∧From w [] v∧Below w.heap.size w w':=by
 unfold aF at hlim;obtain⟨A,c,rfl,hc,hrx,hox⟩:=hx;go_enter Tryz.func211,Tryz.ntmps211;go_wp2_with (at_make;refine gN rfl rfl .u64 161 8 Tryz.underlying48 eY (nl x) rfl rfl rfl rfl (by omega) (by omega) ?_;intro w1 hz1 hs1 hc1 hb1)
 go_loopw [7,8] (fun t i wr=>∃(q r:Int) (zs:List Int), -1≤q∧q<nl x∧i= .int .i64 q∧t= .int .u64 r∧0≤r∧r<y∧Hid (zs.length=nl x)∧InR aA zs∧Hid (aD aA (zs.drop (q+1).toNat)*y+r=aD aA ((dg x).drop (q+1).toNat))∧
   Cells .u64 wr w.heap.size 0 zs∧Soft wr w.heap.size∧Below w.heap.size w wr∧w.heap.size<wr.heap.size) (fun _ i _=>(intOf i+1).toNat)
 case atStart=>exact⟨(nl x:Int)-1,0,_,by omega,by omega,rfl,rfl,by decide,by omega,by simp[Hid],InR.replicate aM _,by
  rw[show((nl x:Int)-1+1).toNat=nl x by omega];unfold Hid;rw[List.drop_of_length_le (by simp),List.drop_of_length_le (by rw[aJ];exact Nat.le_refl _)];simp,hc1,hs1,hb1,hz1⟩
 case round=>
  obtain⟨q,r,zs,hq1,hq2,rfl,rfl,hr0,hr1,hzl,hz,hval,hcell,hsoft,hbel,hlt⟩:=hrel;by_cases h0:0≤q
  ·obtain⟨j,rfl⟩:=Int.eq_ofNat_of_zero_le h0;obtain⟨b,off,rfl,hb,hcx⟩:=(hrx.below hbel).at_ (by rw[aJ];omega);have g1:=hcx j (by rw[aJ];omega);have g2:=hcell j (by have:=hzl.out;omega);rw[Nat.zero_add] at g2;have hf:=fun j=>hsoft.free j;have hxb:=(aW x).getD aM j;have hj:((j:Int)+1).toNat=j+1:=by omega
   rw[hj] at hval;have hst:=fun q r' h=>CO (q:=q) (r':=r') (y:=y) (by rw[aJ];omega) (by have:=hzl.out;omega) h hval.out;generalize (dg x).getD j 0=xd at *;have HST:=Lib.hid hst;have HC:=Lib.hid hcell;clear hst hcx hj hcell;go_wp2_with fail;refine(sY r xd y hr0 hr1 hxb.1 hxb.2 (by have:=gU;omega) _).mono ?_;rintro e w2 ⟨q,r',rfl,hd0,hd1,hr0',hr1',heq,nd,rfl⟩;have hb2:Below wr.heap.size wr (wr.drewN nd):=cH (Below.refl _ _) _;generalize wr.drewN nd=w2 at *;have HEQ:=Lib.hid heq;clear heq;have g3:w2.cell? ⟨w.heap.size,j,none⟩=_:=(hb2.cell (p:=⟨w.heap.size,j,none⟩) hlt).trans g2;have hs2:=hsoft.below hb2 hlt;have hf2:=fun j=>hs2.free j;clear g1 g2 hf;have hlt2:w.heap.size<w2.heap.size:=Nat.lt_of_lt_of_le hlt hb2.size;go_wp2;go_roundw
   case rel=>
    have hc3:=(HC.out.below hb2 hlt).set (i:=j) (by have:=hzl.out;omega) q;rw[Nat.zero_add] at hc3;refine⟨(j:Int)-1,r',zs.set j q,by omega,by omega,rfl,rfl,hr0',hr1',?_,hz.set hd0 hd1 _,?_,hc3,hs2.set _ _,?_,?_⟩
    ·unfold Hid;rw[List.length_set];exact hzl.out
    ·rw[show((j:Int)-1+1).toNat=j by omega];exact HST.out q r' HEQ.out
    ·exact(aB hbel hb2).setCell (Nat.le_refl _) _
    ·rw[kJ];exact hlt2
   case measure=>simp[intOf]
  ·obtain rfl:q= -1:=by omega
   have hv:aD aA zs*y+r=x:=by have:=hval.out;simp at this;rw[bC] at this;exact this
   obtain⟨hv1,hv2⟩:=sX hv hr0 hr1;have HV1:=Lib.hid hv1;have HV2:=Lib.hid hv2;clear hv hv1 hv2;go_wp2_with fail;refine(dI _ zs (nl x) (nl x) wr hzl.out (Rd.mk hlt hcell) (Nat.le_refl _) (by omega)).mono ?_;rintro e w4 ⟨rfl,rfl⟩;go_wp2;go_ret2;refine⟨_,by rw[show((x%y:Nat):Int)=r by rw[HV2.out];rfl];rfl,NatAt.trim (Rd.mk hlt hcell) hz (by rw[HV1.out];rfl) (by rw[hzl.out];exact Nat.le_refl _) (Old.mk hlt),From.new (Nat.le_refl _),hbel⟩
theorem CP (x y:Nat) (vx:Value) (w:World) (hx:NatAt w vx x) (hy0:0<y) (hy1:y<BN) (hlim:nl x≤aF):
  Calls Tryz.prog 157 #[vx,.int .u64 y] w fun e w'=>e= .returned (.int .u64 ((x%y:Nat):Int))∧Below w.heap.size w w':=by
 unfold aF at hlim;obtain⟨A,c,rfl,hc,hrx,hox⟩:=hx;go_enter Tryz.func157,Tryz.ntmps157;go_wp2;go_loopw [5,6] (fun t i wr=>∃(q r:Int), -1≤q∧q<nl x∧i= .int .i64 q∧t= .int .u64 r∧0≤r∧r<y∧Hid (∃a,a*y+r=aD aA ((dg x).drop (q+1).toNat))∧Below w.heap.size w wr) (fun _ i _=>(intOf i+1).toNat)
 case atStart=>exact⟨(nl x:Int)-1,0,by omega,by omega,rfl,rfl,by decide,by omega,by
  rw[show((nl x:Int)-1+1).toNat=nl x by omega];exact⟨0,by rw[List.drop_of_length_le (by rw[aJ];exact Nat.le_refl _)];simp⟩,Below.refl _ _⟩
 case round=>
  obtain⟨q,r,hq1,hq2,rfl,rfl,hr0,hr1,hval,hbel⟩:=hrel;by_cases h0:0≤q
  ·obtain⟨j,rfl⟩:=Int.eq_ofNat_of_zero_le h0;obtain⟨b,off,rfl,hb,hcx⟩:=(hrx.below hbel).at_ (by rw[aJ];omega);have g1:=hcx j (by rw[aJ];omega);have hxb:=(aW x).getD aM j;have hj:((j:Int)+1).toNat=j+1:=by omega
   rw[hj] at hval;have hdc:=iG aA (dg x) j (by rw[aJ];omega);generalize (dg x).getD j 0=xd at *;have HDC:=Lib.hid hdc;clear hdc hcx hj;go_wp2_with fail;refine(sY r xd y hr0 hr1 hxb.1 hxb.2 (by have:=gU;omega) _).mono ?_;rintro e w2 ⟨q,r',rfl,hd0,hd1,hr0',hr1',heq,nd,rfl⟩;have hb2:Below wr.heap.size wr (wr.drewN nd):=cH (Below.refl _ _) _;generalize wr.drewN nd=w2 at *;have HEQ:=Lib.hid heq;clear heq;go_wp2;go_roundw
   case rel=>
    refine⟨(j:Int)-1,r',by omega,by omega,rfl,rfl,hr0',hr1',?_,aB hbel hb2⟩;rw[show((j:Int)-1+1).toNat=j by omega];obtain⟨a,ha⟩:=hval.out;refine⟨a*aA+q,?_⟩;rw[HDC.out,←ha];have:=HEQ.out;grind
   case measure=>simp[intOf]
  ·obtain rfl:q= -1:=by omega
   obtain⟨a,hv⟩:=hval.out;have hv':a*y+r=x:=by simp at hv;rw[bC] at hv;exact hv
   obtain⟨hv1,hv2⟩:=sX hv' hr0 hr1;have HV2:=Lib.hid hv2;clear hv hv' hv1 hv2;go_wp2;go_ret;exact⟨by rw[←HV2.out];rfl,hbel⟩
section
variable {P V W U D ul dl qt rt q:Int}
theorem M0 (hP:0<P) (hU:U=W*P+ul) (hD:D=V*P+dl) (hul:ul<P) (hdl:0≤dl) (hq:0≤q) (ht:qt*D+rt=U) (hrt:0≤rt) (hDp:0<D) (h:W<q*V):qt+1≤q:=by
 rcases Int.lt_or_le qt q with hlt|hge
 ·omega
 ·have h1:q*D≤qt*D:=Int.mul_le_mul_of_nonneg_right hge (by omega);have h2:q*D=q*V*P+q*dl:=by rw[hD];grind
  have h3:(W+1)*P≤q*V*P:=Int.mul_le_mul_of_nonneg_right (by omega) (by omega);have h4:=Int.mul_nonneg hq hdl;rw[Int.add_mul,Int.one_mul] at h3;omega
theorem M1 (hP:0<P) (hU:U=W*P+ul) (hD:D=V*P+dl) (hul:0≤ul) (hdl:dl<P) (ht:qt*D+rt=U) (hrt:rt<D) (hq:q≤V) (hqt:0≤qt) (hDp:0<D) (h:q*V≤W):q≤qt+1:=by
 rcases Int.lt_or_le (qt+1) q with hlt|hge
 ·have h1:(qt+1)*D≤(q-1)*D:=Int.mul_le_mul_of_nonneg_right (by omega) (by omega);have h2:(q-1)*D≤(q-1)*(V*P+P-1):=Int.mul_le_mul_of_nonneg_left (by omega) (by omega);have h3:(q-1)*(V*P+P-1)=(q*V+q-V-1)*P-(q-1):=by grind
  have h4:(q*V+q-V-1)*P≤(W-1)*P:=Int.mul_le_mul_of_nonneg_right (by omega) (by omega);have h5:(W-1)*P=W*P-P:=by rw[Int.sub_mul,Int.one_mul]
  rw[Int.add_mul,Int.one_mul] at h1;omega
 ·exact hge
theorem M2 {B v1 v2 u0 u1 u2:Int} (hP:0<P) (hB:2≤B) (hV:V=v1*B+v2) (hW:W=(u0*B+u1)*B+u2) (hU:U=W*P+ul) (hD:D=V*P+dl) (hul:0≤ul) (hdl:dl<P) (hv2:v2<B) (hu1:0≤u1) (hu2:0≤u2)
  (hv1:B≤2*v1) (hu0:v1≤u0) (ht:qt*D+rt=U) (hrt0:0≤rt) (hrt:rt<D) (hbig:U<B*D) (hDp:0<D):qt≤B-1∧B-1≤qt+1:=by
 constructor
 ·rcases Int.lt_or_le (B-1) qt with h|h
  ·have:B*D≤qt*D:=Int.mul_le_mul_of_nonneg_right (by omega) (by omega);omega
  ·exact h
 ·rcases Int.lt_or_le (qt+1) (B-1) with h|h
  ·have h1:(qt+1)*D≤(B-2)*D:=Int.mul_le_mul_of_nonneg_right (by omega) (by omega);have h2:D≤(v1+1)*B*P-1:=by
    have h3:V*P≤(v1*B+(B-1))*P:=Int.mul_le_mul_of_nonneg_right (by omega) (by omega);have h4:(v1*B+(B-1))*P=(v1+1)*B*P-P:=by grind
    omega
   have h3:(B-2)*D≤(B-2)*((v1+1)*B*P-1):=Int.mul_le_mul_of_nonneg_left h2 (by omega);have h4:(B-2)*((v1+1)*B*P-1)=((B-2)*(v1+1))*(B*P)-(B-2):=by grind
   have h5:(B-2)*(v1+1)≤v1*B:=by
    have:(B-2)*(v1+1)=v1*B+(B-2*v1-2):=by grind
    omega
   have hBP:0≤B*P:=Int.mul_nonneg (by omega) (by omega);have h6:((B-2)*(v1+1))*(B*P)≤(v1*B)*(B*P):=Int.mul_le_mul_of_nonneg_right h5 hBP;have h7:v1*B*B≤W:=by
    rw[hW];have h8:v1*(B*B)≤u0*(B*B):=Int.mul_le_mul_of_nonneg_right hu0 (Int.mul_nonneg (by omega) (by omega));have h9:=Int.mul_nonneg hu1 (show 0≤B by omega);have e1:v1*(B*B)=v1*B*B:=by grind
    have e2:(u0*B+u1)*B=u0*(B*B)+u1*B:=by grind
    omega
   have h8:v1*B*B*P≤W*P:=Int.mul_le_mul_of_nonneg_right h7 (by omega);have e3:(v1*B)*(B*P)=v1*B*B*P:=by grind
   rw[Int.add_mul,Int.one_mul] at h1;omega
  ·exact h
end
theorem M3 (ds:List Int) (m:Nat) (h:ds.length=m+2):aD aA ds=(ds.getD (m+1) 0*aA+ds.getD m 0)*aA^m+aD aA (ds.take m):=by
 rw[iF aA ds m (by omega),iG _ _ _ (by omega),iG _ _ _ (by omega),List.drop_of_length_le (by omega)];simp only[val_nil];grind
theorem M4 (us:List Int) (m:Nat) (h:us.length=m+3):aD aA us=((us.getD (m+2) 0*aA+us.getD (m+1) 0)*aA+us.getD m 0)*aA^m+aD aA (us.take m):=by
 rw[iF aA us m (by omega),iG _ _ _ (by omega),iG _ _ _ (by omega),iG _ _ _ (by omega),List.drop_of_length_le (by omega)];simp only[val_nil];grind
theorem LY {P:Program} {f:FuncId} {args:Array Value} {w:World} {a n:Nat} {v:Value}
  (h:Calls P f args (w.drewN (a+n)) fun e w'=>e= .returned v∧∃m,w'=(w.drewN (a+n)).drewN m):Calls P f args (w.drewN (a+n)) fun e w''=>e= .returned v∧∃m,w''=w.drewN (a+m):=
 h.mono fun _ _ ⟨he,m,hm⟩=>⟨he,n+m,by rw[hm,World.drewN_drewN,Nat.add_assoc]⟩
theorem LZ (A A':Option Addr) (us ds:List Int) (cu cd m:Nat) (w:World) (hlu:us.length=m+3) (hld:ds.length=m+2) (hu:Rd .u64 w A us) (hd:Rd .u64 w A' ds) (hU:InR aA us) (hD:InR aA ds)
  (htop:9223372036854775808≤ds.getD (m+1) 0) (hbig:aD aA us<aA*aD aA ds) (hm:m+3≤17592186044416) (qt rt:Int) (hqt:qt*aD aA ds+rt=aD aA us) (hrt0:0≤rt) (hrt1:rt<aD aA ds) (hqt0:0≤qt):
  Calls Tryz.prog 212 #[.slice A ((m+3:Nat)) cu,.slice A' ((m+2:Nat)) cd] w fun e w'=>∃q,e= .returned (.int .u64 q)∧0≤q∧q<aA∧qt≤q∧q≤qt+1∧Below w.heap.size w w':=by
 obtain⟨b,o,rfl,hb,hcu⟩:=hu.at_ (by omega);obtain⟨b',o',rfl,hb',hcd⟩:=hd.at_ (by omega);have g0:=hcu (m+2) (by omega);have g1:=hcu (m+1) (by omega);have g2:=hcu m (by omega);have f1:=hcd (m+1) (by omega);have f2:=hcd m (by omega);have bu0:=hU.getD aM (m+2);have bu1:=hU.getD aM (m+1);have bu2:=hU.getD aM m;have bv1:=hD.getD aM (m+1);have bv2:=hD.getD aM m;have eD:=M3 ds m hld;have eU:=M4 us m hlu;have hul0:=dM aM (hU.take m);have hul1:=fE aM (hU.take m);have hdl0:=dM aM (hD.take m);have hdl1:=fE aM (hD.take m);rw[List.length_take,Nat.min_eq_left (by omega)] at hul1 hdl1;have hP:=kM aM m;generalize aD aA (us.take m)=ul at *;generalize aD aA (ds.take m)=dl at *;generalize aA^m=P at *;generalize aD aA us=U at *;generalize aD aA ds=D at *;generalize us.getD (m+2) 0=u0 at *;generalize us.getD (m+1) 0=u1 at *;generalize us.getD m 0=u2 at *;generalize ds.getD (m+1) 0=v1 at *;generalize ds.getD m 0=v2 at *;have hDp:0<D:=by omega
 have hmax:=fun (h:v1≤u0)=>M2 hP (show(2:Int)≤aA by decide) rfl rfl eU eD hul0 hdl1 bv2.2 bu1.1 bu2.1 (by unfold aA;omega) h hqt hrt0 hrt1 hbig hDp;have HMAX:=Lib.hid hmax;have HLO:=Lib.hid (fun (q:Int) (hq:0≤q) (h:(u0*aA+u1)*aA+u2<q*(v1*aA+v2))=>M0 hP eU eD hul1 hdl0 hq hqt hrt0 hDp h);have HHI:=Lib.hid (fun (q:Int) (hq:q≤v1*aA+v2) (h:q*(v1*aA+v2)≤(u0*aA+u1)*aA+u2)=>M1 hP eU eD hul0 hdl1 hqt hrt1 hq hqt0 hDp h);clear hmax eU eD hqt hbig hcu hcd;have i0:(0:Int)≤(m:Int)+2-1:=by omega
 have i1:(m:Int)+2-1<(m:Int)+2:=by omega
 by_cases hge:v1≤u0
 ·have hmx:=HMAX.out hge;go_enter Tryz.func212,Tryz.ntmps212;go_wp2;go_quiet (fail);go_wp2;go_ret;exact⟨18446744073709551615,rfl,by decide,by decide,by have:=hmx.1;unfold aA at this;omega,by have:=hmx.2;unfold aA at this;omega,cH (Below.refl _ _) _⟩
 ·obtain⟨q0,r0,hq0,hr00,hr01⟩:∃q r,q*v1+r=u0*aA+u1∧0≤r∧r<v1:=
   ⟨(u0*aA+u1)/v1,(u0*aA+u1)%v1,by have:=Int.emod_add_mul_ediv (u0*aA+u1) v1;rw[Int.mul_comm];omega,Int.emod_nonneg _ (by omega),Int.emod_lt_of_pos _ (by omega)⟩
  have hqb:0≤q0∧q0<aA:=by
   constructor
   ·rcases Int.lt_or_le q0 0 with h|h
    ·have h1:q0*v1≤ -1*v1:=Int.mul_le_mul_of_nonneg_right (by omega) (by omega);have h2:=Int.mul_nonneg bu0.1 (Int.le_of_lt aM);omega
    ·exact h
   ·rcases Int.lt_or_le q0 aA with h|h
    ·exact h
    ·have h1:aA*v1≤q0*v1:=Int.mul_le_mul_of_nonneg_right h (by omega);have h2:(u0+1)*aA≤v1*aA:=Int.mul_le_mul_of_nonneg_right (by omega) (Int.le_of_lt aM);rw[Int.add_mul,Int.one_mul] at h2;rw[Int.mul_comm] at h1;omega
  have hup0:qt≤q0:=by
   have:=HLO.out (q0+1) (by omega) (by
    have h1:(u0*aA+u1+1)*aA≤(q0+1)*v1*aA:=Int.mul_le_mul_of_nonneg_right (by rw[Int.add_mul,Int.one_mul];omega) (Int.le_of_lt aM);have h2:(q0+1)*(v1*aA+v2)=(q0+1)*v1*aA+(q0+1)*v2:=by grind
    have h3:=Int.mul_nonneg (show 0≤q0+1 by omega) bv2.1;rw[Int.add_mul (u0*aA+u1),Int.one_mul] at h1;omega)
   omega
  have HQ0:=Lib.hid hq0;clear hq0;have hqV:∀q:Int,q<aA→q≤v1*aA+v2:=fun q h=>by
   have h1:1*aA≤v1*aA:=Int.mul_le_mul_of_nonneg_right (by omega) (Int.le_of_lt aM);omega
  have HQV:=Lib.hid hqV;clear hqV;have hgeb:decide (v1≤u0)=false:=by simp;omega
  go_enter Tryz.func212,Tryz.ntmps212;go_wp2;go_quiet (fail);go_wp2;go_quiet ((go_at_call 191;exact LY (M7 u0 u1 v1 q0 r0 bu0.1 (by omega) bu1.1 bu1.2 bv1.2 HQ0.out hr00 hr01 _)));go_wp2_with fail;simp only[show m+2-1=m+1 from rfl];generalize hgw:World.drewN (World.drewN w _) _=w2;have g2':w2.cell? ⟨b,o+m,none⟩=some (.int .u64 u2):=by rw[←hgw];exact g2
  have hb2:Below w.heap.size w w2:=by rw[←hgw];exact cH (cH (Below.refl _ _) _) _
  clear hgw;go_loop [8,9] (fun a c=>∃q r,a= .int .u64 q∧c= .int .u64 r∧Hid (q*v1+r=u0*aA+u1)∧0≤r∧r<aA∧0≤q∧q<aA∧qt≤q) (fun a _=>(intOf a).toNat)
  case atStart=>exact⟨q0,r0,rfl,rfl,HQ0,hr00,by omega,hqb.1,hqb.2,hup0⟩
  case round=>
   obtain⟨q,r,rfl,rfl,heq,g3,g3',g4,g5,g6⟩:=hrel;obtain⟨L,H,hs⟩:=fK (q*v2)
   have hHb:=hs.hi_bd (Int.mul_nonneg g4 bv2.1) (m:=aA) (by
    have:=(iV g4 (show q≤aA-1 by omega) bv2.1 (show v2≤aA-1 by omega)).2;have e4:(aA-1)*(aA-1)=aA*aA-2*aA+1:=by rfl
    omega)
   have hLb:=hs.2;have hse:=hs.1;have HS:=Lib.hid hs;have HSE:=Lib.hid hse;clear hs hse
   have hgood:r*aA+u2≥q*v2→q≤qt+1:=fun h=>HHI.out q (HQV.out q g5) (by
    have h2:q*(v1*aA+v2)=q*v1*aA+q*v2:=by grind
    have h3:=heq.out;have h4:(q*v1+r)*aA=q*v1*aA+r*aA:=by rw[Int.add_mul]
    rw[h3] at h4;omega)
   have HG:=Lib.hid hgood;clear hgood;rcases Int.lt_trichotomy H r with hlt|heq2|hgt2
   ·have hfin:q≤qt+1:=HG.out (by
     have h1:(H+1)*aA≤r*aA:=Int.mul_le_mul_of_nonneg_right (by omega) (Int.le_of_lt aM);have h2:=HSE.out;rw[Int.add_mul,Int.one_mul,Int.mul_comm] at h1;omega)
    go_wp2_with (go_at_call 195;refine(f9 q v2 L H ⟨g4,g5⟩ bv2 HS.out _).mono ?_;rintro e w' ⟨rfl,rfl⟩);go_ret;exact⟨q,rfl,g4,g5,g6,hfin,hb2⟩
   ·subst heq2;by_cases hle:L≤u2
    ·have hfin:q≤qt+1:=HG.out (by
      have h2:=HSE.out;rw[Int.mul_comm] at h2;omega)
     have hl1:decide (H<H)=false:=by simp
     go_wp2_with (go_at_call 195;refine(f9 q v2 L H ⟨g4,g5⟩ bv2 HS.out _).mono ?_;rintro e w' ⟨rfl,rfl⟩);go_ret;exact⟨q,rfl,g4,g5,g6,hfin,hb2⟩
    ·obtain⟨r,hrr⟩:∃r,r=H:=⟨_,rfl⟩;subst hrr;have hl1:decide (r<r)=false:=by simp
     have hl2:decide (L≤u2)=false:=by simp;omega
     have hgt:r*aA+u2<q*v2:=by have h2:=HSE.out;rw[Int.mul_comm] at h2;omega
     have hnx:qt+1≤q:=HLO.out q g4 (by
      have h2:q*(v1*aA+v2)=q*v1*aA+q*v2:=by grind
      have h3:=heq.out;have h4:(q*v1+r)*aA=q*v1*aA+r*aA:=by rw[Int.add_mul]
      rw[h3] at h4;omega)
     have HEQ:Hid ((q-1)*v1+(r+v1)=u0*aA+u1):=by have:=heq.out;unfold Hid;rw[Int.sub_mul];omega
     clear hgt;have hq1:1≤q:=by omega
     have hq64:q≤18446744073709551615:=by unfold aA at g5;omega
     by_cases hov:r+v1<aA
     ·have hov':r+v1≤18446744073709551615:=by unfold aA at hov;omega
      have hlb:decide (r+v1<v1)=false:=by simp;omega
      go_wp2_with (go_at_call 195;refine(f9 q v2 L r ⟨g4,g5⟩ bv2 HS.out _).mono ?_;rintro e w' ⟨rfl,rfl⟩);go_round
      case rel=>exact⟨q-1,r+v1,rfl,rfl,HEQ,by omega,hov,by omega,by omega,by omega⟩
      case measure=>simp[intOf];omega
     ·have hwr:IntKind.u64.wrap (r+v1)=r+v1-18446744073709551616:=by rw[jO];unfold cB;unfold aA at *;omega
      have hl9:r+v1-18446744073709551616<v1:=by unfold aA at g3';omega
      have hfin:q-1≤qt+1:=HHI.out (q-1) (HQV.out _ (by omega)) (by
       have h2:(q-1)*(v1*aA+v2)=(q-1)*v1*aA+(q-1)*v2:=by grind
       have h3:=HEQ.out;have h4:((q-1)*v1+(r+v1))*aA=(q-1)*v1*aA+(r+v1)*aA:=by rw[Int.add_mul]
       rw[h3] at h4;have h5:=(iV (show 0≤q-1 by omega) (show q-1≤aA by omega) bv2.1 (show v2≤aA by omega)).2;have h6:aA*aA≤(r+v1)*aA:=Int.mul_le_mul_of_nonneg_right (by omega) (Int.le_of_lt aM);omega)
      go_wp2_with (go_at_call 195;refine(f9 q v2 L r ⟨g4,g5⟩ bv2 HS.out _).mono ?_;rintro e w' ⟨rfl,rfl⟩);go_ret;exact⟨q-1,rfl,by omega,by omega,by omega,hfin,hb2⟩
   ·have hl1:decide (H<r)=false:=by simp;omega
    have hl2:(H==r)=false:=by simp;omega
    have hgt:r*aA+u2<q*v2:=by
     have h1:(r+1)*aA≤H*aA:=Int.mul_le_mul_of_nonneg_right (by omega) (Int.le_of_lt aM);have h2:=HSE.out;rw[Int.add_mul,Int.one_mul] at h1;rw[Int.mul_comm] at h2;omega
    have hnx:qt+1≤q:=HLO.out q g4 (by
     have h2:q*(v1*aA+v2)=q*v1*aA+q*v2:=by grind
     have h3:=heq.out;have h4:(q*v1+r)*aA=q*v1*aA+r*aA:=by rw[Int.add_mul]
     rw[h3] at h4;omega)
    have HEQ:Hid ((q-1)*v1+(r+v1)=u0*aA+u1):=by have:=heq.out;unfold Hid;rw[Int.sub_mul];omega
    clear hgt;have hq1:1≤q:=by omega
    have hq64:q≤18446744073709551615:=by unfold aA at g5;omega
    by_cases hov:r+v1<aA
    ·have hov':r+v1≤18446744073709551615:=by unfold aA at hov;omega
     have hlb:decide (r+v1<v1)=false:=by simp;omega
     go_wp2_with (go_at_call 195;refine(f9 q v2 L H ⟨g4,g5⟩ bv2 HS.out _).mono ?_;rintro e w' ⟨rfl,rfl⟩);go_round
     case rel=>exact⟨q-1,r+v1,rfl,rfl,HEQ,by omega,hov,by omega,by omega,by omega⟩
     case measure=>simp[intOf];omega
    ·have hwr:IntKind.u64.wrap (r+v1)=r+v1-18446744073709551616:=by rw[jO];unfold cB;unfold aA at *;omega
     have hl9:r+v1-18446744073709551616<v1:=by unfold aA at g3';omega
     have hfin:q-1≤qt+1:=HHI.out (q-1) (HQV.out _ (by omega)) (by
      have h2:(q-1)*(v1*aA+v2)=(q-1)*v1*aA+(q-1)*v2:=by grind
      have h3:=HEQ.out;have h4:((q-1)*v1+(r+v1))*aA=(q-1)*v1*aA+(r+v1)*aA:=by rw[Int.add_mul]
      rw[h3] at h4;have h5:=(iV (show 0≤q-1 by omega) (show q-1≤aA by omega) bv2.1 (show v2≤aA by omega)).2;have h6:aA*aA≤(r+v1)*aA:=Int.mul_le_mul_of_nonneg_right (by omega) (Int.le_of_lt aM);omega)
     go_wp2_with (go_at_call 195;refine(f9 q v2 L H ⟨g4,g5⟩ bv2 HS.out _).mono ?_;rintro e w' ⟨rfl,rfl⟩);go_ret;exact⟨q-1,rfl,by omega,by omega,by omega,hfin,hb2⟩
theorem LN (A A':Option Addr) (us ds:List Int) (cu cd n:Nat) (w:World) (hn:2≤n) (hlu:us.length=n+1) (hld:ds.length=n) (hu:Rd .u64 w A us) (hd:Rd .u64 w A' ds) (hU:InR aA us) (hD:InR aA ds)
  (htop:9223372036854775808≤ds.getD (n-1) 0) (hbig:aD aA us<aA*aD aA ds) (hm:n+1≤17592186044416) (qt rt:Int) (hqt:qt*aD aA ds+rt=aD aA us) (hrt0:0≤rt) (hrt1:rt<aD aA ds) (hqt0:0≤qt):
  Calls Tryz.prog 212 #[.slice A (n+1) cu,.slice A' n cd] w fun e w'=>∃q,e= .returned (.int .u64 q)∧0≤q∧q<aA∧qt≤q∧q≤qt+1∧Below w.heap.size w w':=by
 obtain⟨m,rfl⟩:∃m,n=m+2:=⟨n-2,by omega⟩;exact LZ A A' us ds cu cd m w (by omega) hld hu hd hU hD htop hbig (by omega) qt rt hqt hrt0 hrt1 hqt0
theorem LO {L:List Int} {k:Nat} (h:InR aA L) (hk:k≤L.length) (hv:aD aA L<aA^k):aD aA (L.take k)=aD aA L:=by
 rw[iF aA L k hk] at hv⊢;have h1:=dM aM (h.take k);have h2:=dM aM (h.drop k);have hp:=kM aM k;rcases Int.lt_or_le 0 (aD aA (L.drop k)) with h3|h3
 ·have:aA^k*1≤aA^k*aD aA (L.drop k):=Int.mul_le_mul_of_nonneg_left (by omega) (by omega);omega
 ·have:aD aA (L.drop k)=0:=by omega
  rw[this];simp
theorem LP {L:List Int} {j k:Nat} {D:Int} (h:InR aA L) (hj:j≤L.length) (hv:aD aA L<D*aA^(j+k)):aD aA (L.drop j)<D*aA^k:=by
 rw[iF aA L j hj] at hv;have h1:=dM aM (h.take j);have hp:=kM aM j;have e:D*aA^(j+k)=aA^j*(D*aA^k):=by rw[Int.pow_add];grind
 rw[e] at hv;exact Int.lt_of_mul_lt_mul_left (a:=aA^j) (by omega) (by omega)
theorem CL (zs:List Int) (j n:Nat) (hl:j+n<zs.length) (h:InR aA zs) (hs:aD aA (zs.drop j)<aA^(n+1)):
  aD aA (zs.drop j)=aD aA ((zs.drop j).take n)+aA^n*zs.getD (j+n) 0∧aD aA ((zs.drop j).take (n+1))=aD aA (zs.drop j):=by
 have h1:=LO (h.drop j) (by rw[List.length_drop];omega) hs;refine⟨?_,h1⟩;rw[←h1,gF _ _ _ (by rw[List.length_drop];omega)];congr 2;simp only[List.getD_eq_getElem?_getD,List.getElem?_drop]
theorem LQ {U D q qt rt Lw Lt t b P:Int} (hP:0<P) (hU:U=Lw+P*t) (hts:Lt-b*P=Lw-D*q) (hLt0:0≤Lt) (hLt1:Lt<P) (hqt:qt*D+rt=U) (hrt0:0≤rt) (hrt1:rt<D) (hDP:D≤P) (hq:q=qt∨q=qt+1):
  (q=qt∧b=t∧Lt=rt)∨(q=qt+1∧b=t+1∧Lt+D=rt+P):=by
 have key:Lt+P*(t-b)=U-D*q:=by
  have:P*(t-b)=P*t-b*P:=by grind
  omega
 rcases hq with rfl|rfl
 ·left;have h2:Lt+P*(t-b)=rt:=by rw[key,←hqt,Int.mul_comm];omega
  have h3:t-b=0:=by
   rcases Int.lt_trichotomy (t-b) 0 with h|h|h
   ·have:P*(t-b)≤P*(-1):=Int.mul_le_mul_of_nonneg_left (by omega) (by omega);omega
   ·exact h
   ·have:P*1≤P*(t-b):=Int.mul_le_mul_of_nonneg_left (by omega) (by omega);omega
  rw[h3] at h2;exact⟨rfl,by omega,by simpa using h2⟩
 ·right;have h2:Lt+P*(t-b)=rt-D:=by rw[key,←hqt,Int.mul_add,Int.mul_comm];omega
  have h3:t-b= -1:=by
   rcases Int.lt_trichotomy (t-b) (-1) with h|h|h
   ·have:P*(t-b)≤P*(-2):=Int.mul_le_mul_of_nonneg_left (by omega) (by omega);omega
   ·exact h
   ·have:P*0≤P*(t-b):=Int.mul_le_mul_of_nonneg_left (by omega) (by omega);omega
  rw[h3] at h2;exact⟨rfl,by omega,by omega⟩
theorem LR {zs ts:List Int} {j n:Nat} {D qt rt:Int} (hl:j+n<zs.length) (htl:ts.length=n) (h:InR aA zs) (hs:aD aA (zs.drop j)<aA^(n+1)) (hqt:qt*D+rt=aD aA (zs.drop j)) (hts:aD aA ts=rt):
  aD aA ((patch zs ts j).set (j+n) 0)=aD aA zs-aA^j*(qt*D):=by
 subst htl;have hw:=(CL zs j ts.length hl h hs).1;rw[kO _ _ _ _ (by rw[gQ (by omega)];exact hl),oO (by omega),vZ (by omega) (Nat.le_refl _),hts];have e:aA^(j+ts.length)=aA^j*aA^ts.length:=Int.pow_add _ _ _;rw[e];generalize aD aA ((zs.drop j).take ts.length)=Lw at *;generalize zs.getD (j+ts.length) 0=t at *;generalize aD aA (zs.drop j)=U at *;generalize aA^ts.length=P at *;generalize aA^j=J at *;grind
theorem LT {zv zv' D qt X J B Q:Int} (h1:zv+D*(J*B)*Q=X) (h2:zv'=zv-J*(qt*D)):zv'+D*J*(qt+B*Q)=X:=by
 rw[h2,←h1];grind
theorem CM {y s:Nat} (hy:y≠0) (hs:s≤64) (h:(y/BN^(nl y-1))*2^s<BN):nl (y*2^s)=nl y:=by
 have h0:=eQ hy;apply Nat.le_antisymm
 ·refine bI ?_;have e1:=Nat.mod_add_div y (BN^(nl y-1));have h1:=Nat.mod_lt y (show 0<BN^(nl y-1) from Nat.pow_pos (by decide));have e2:BN^nl y=BN^(nl y-1)*BN:=by rw[←Nat.pow_succ];congr 1;omega
  rw[e2];have h3:(y/BN^(nl y-1)+1)*2^s≤BN∨¬(y/BN^(nl y-1)+1)*2^s≤BN:=Classical.em _;generalize y/BN^(nl y-1)=a at *;generalize y%BN^(nl y-1)=r at *;generalize BN^(nl y-1)=p at *;have h4:y*2^s<p*((a+1)*2^s):=by
   have:y<p*(a+1):=by rw[Nat.mul_add,Nat.mul_one];omega
   have:=Nat.mul_lt_mul_of_pos_right this (show 0<2^s from Nat.pow_pos (by decide));rw[Nat.mul_assoc] at this;exact this
  rcases h3 with h3|h3
  ·exact Nat.lt_of_lt_of_le h4 (Nat.mul_le_mul_left _ h3)
  ·exfalso;have e3:BN=2^(64-s)*2^s:=by rw[←Nat.pow_add,show 64-s+s=64 by omega];rfl
   rw[e3] at h h3;have:=Nat.lt_of_mul_lt_mul_right h;exact h3 (Nat.mul_le_mul_right _ this)
 ·exact aX (Nat.le_mul_of_pos_right _ (Nat.pow_pos (by decide)))
theorem sW {y:Nat} (hy:y≠0):(dg y).getD (nl y-1) 0=((y/BN^(nl y-1):Nat):Int)∧y/BN^(nl y-1)≠0∧y/BN^(nl y-1)<BN:=by
 have h0:=eQ hy;have e:=iG aA (dg y) (nl y-1) (by rw[aJ];omega);rw[pU,List.drop_of_length_le (i:=nl y-1+1) (by rw[aJ];omega)] at e;have hd:=(aW y).getD aM (nl y-1);simp only[val_nil,Int.mul_zero,Int.add_zero] at e;refine⟨e.symm,?_,?_⟩
 ·have h1:=vK hy;have:=Nat.div_pos h1 (Nat.pow_pos (by decide));omega
 ·have:=gU;omega
theorem LU {y s:Nat} (hy0:y≠0) (hs3:2^63≤y/BN^(nl y-1)*2^s) (hn:nl (y*2^s)=nl y):9223372036854775808≤(dg (y*2^s)).getD (nl y-1) 0:=by
 have hD0:y*2^s≠0:=Nat.mul_ne_zero hy0 (by have:0<2^s:=Nat.pow_pos (by decide);omega);have h:=(sW hD0).1;rw[hn] at h;rw[h];have h2:y/BN^(nl y-1)*2^s≤y*2^s/BN^(nl y-1):=by
  rw[Nat.le_div_iff_mul_le (Nat.pow_pos (by decide)),Nat.mul_assoc,Nat.mul_comm (2^s),←Nat.mul_assoc];exact Nat.mul_le_mul_right _ (Nat.div_mul_le_self _ _)
 omega
theorem LV {x y s:Nat} (hy0:y≠0) (hnm:nl y≤nl x):((x*2^s:Nat):Int)<((y*2^s:Nat):Int)*aA^(nl x-nl y+1):=by
 rw[←fO,←Int.natCast_mul];have h1:=bX x;have h2:=vK hy0;have h0:=eQ hy0;have h3:BN^nl x=BN^(nl y-1)*BN^(nl x-nl y+1):=by rw[←Nat.pow_add];congr 1;omega
 have h4:x<y*BN^(nl x-nl y+1):=Nat.lt_of_lt_of_le (by rw[←h3];exact h1) (Nat.mul_le_mul_right _ h2);have h5:=Nat.mul_lt_mul_of_pos_right h4 (show 0<2^s from Nat.pow_pos (by decide));rw[Nat.mul_assoc,Nat.mul_comm (BN^_),←Nat.mul_assoc] at h5;omega
theorem LW {x y s:Nat} {zv qv:Int} (hy0:y≠0) (h:zv+((y*2^s:Nat):Int)*qv=((x*2^s:Nat):Int)) (h0:0≤zv) (h1:zv<((y*2^s:Nat):Int)):qv=((x/y:Nat):Int)∧zv=((x%y*2^s:Nat):Int):=by
 have hp:0<2^s:=Nat.pow_pos (by decide);have e:=sX (a:=qv) (y:=((y*2^s:Nat):Int)) (x:=((x*2^s:Nat):Int)) (by rw[←h,Int.mul_comm,Int.add_comm]) h0 h1;rw[←Int.natCast_ediv,←Int.natCast_emod,Nat.mul_div_mul_right _ _ hp,Nat.mul_mod_mul_right] at e;exact e
theorem CN {zs ts qs:List Int} {j n:Nat} {D qt rt X:Int} (hl:j+n<zs.length) (htl:ts.length=n) (hz:InR aA zs) (hs:aD aA (zs.drop j)<aA^(n+1)) (hqt:qt*D+rt=aD aA (zs.drop j)) (hrt1:rt<D)
  (hts:aD aA ts=rt) (hj:j<qs.length) (hinv:aD aA zs+D*aA^(j+1)*aD aA (qs.drop (j+1))=X):
  aD aA ((patch zs ts j).set (j+n) 0)+D*aA^j*aD aA ((qs.set j qt).drop j)=X∧aD aA ((patch zs ts j).set (j+n) 0)<D*aA^j:=by
 have e1:=LR hl htl hz hs hqt hts;have e2:aD aA ((qs.set j qt).drop j)=qt+aA*aD aA (qs.drop (j+1)):=by
  rw[iG _ _ _ (by rw[List.length_set];exact hj),List.drop_set_of_lt (by omega)];simp[List.getElem?_set_self hj]
 constructor
 ·rw[e2];rw[Int.pow_succ] at hinv;exact LT hinv e1
 ·rw[e1,iF aA zs j (by omega),←hqt];have h1:=fE aM (hz.take j);rw[List.length_take,Nat.min_eq_left (by omega)] at h1;have h2:aA^j*(rt+1)≤aA^j*D:=Int.mul_le_mul_of_nonneg_left (by omega) (Int.le_of_lt (kM aM j));rw[Int.mul_add,Int.mul_one] at h2;have e3:aA^j*(qt*D+rt)=aA^j*(qt*D)+aA^j*rt:=Int.mul_add _ _ _;rw[Int.mul_comm D];omega
theorem wU {zs ts:List Int} {j i:Nat} (h:j+ts.length≤zs.length):(patch zs ts j)[i]? =if i<j then zs[i]? else if i<j+ts.length then ts[i-j]? else zs[i]? :=by
 unfold patch;have hl:(zs.take j).length=j:=by rw[List.length_take];omega
 by_cases h1:i<j
 ·rw[if_pos h1,List.getElem?_append_left (by omega),List.getElem?_take,if_pos h1]
 ·rw[if_neg h1,List.getElem?_append_right (by omega),hl];by_cases h2:i<j+ts.length
  ·rw[if_pos h2,List.getElem?_append_left (by omega)]
  ·rw[if_neg h2,List.getElem?_append_right (by omega),List.getElem?_drop];congr 1;omega
theorem LX {zs ts us:List Int} {j n:Nat} {m v:Int} (htl:ts.length=n) (hul:us.length=n) (h:j+n<zs.length):
  (patch ((patch zs ts j).set (j+n) m) us j).set (j+n) v=(patch zs us j).set (j+n) v:=by
 apply List.ext_getElem?;intro i;have hl1:((patch zs ts j).set (j+n) m).length=zs.length:=by rw[List.length_set,gQ (by omega)]
 rw[List.getElem?_set,List.getElem?_set,gQ (by omega),gQ (by omega),hl1];by_cases h0:j+n=i
 ·rw[if_pos h0,if_pos h0]
 ·rw[if_neg h0,if_neg h0,wU (by omega),wU (by omega),List.getElem?_set,if_neg h0,wU (by omega)];by_cases h1:i<j
  ·simp[h1]
  ·rw[if_neg h1,if_neg h1,if_neg h1];by_cases h2:i<j+us.length
   ·rw[if_pos h2,if_pos h2]
   ·rw[if_neg h2,if_neg h2,if_neg (by omega)]
def mV (w:World) (vs:List Value) (x y:Nat) (e:Ending) (w':World):Prop:=
 ∃v u,e= .returned (.tuple #[v,u])∧NatAt w' v (x/y)∧NatAt w' u (x%y)∧From w vs v∧From w vs u∧Below w.heap.size w w'
theorem CZ (x y:Nat) (vx vy:Value) (w:World) (hx:NatAt w vx x) (hy:NatAt w vy y) (hy0:y≠0) (hlx:nl x+2≤aF) (hly:nl y+2≤aF):
  Calls Tryz.prog 187 #[vx,vy] w (mV w [vx,vy] x y):=by
 unfold aF at hlx hly;have hxn:=hx;have hyn:=hy;obtain⟨A,c,rfl,hc,hrx,hox⟩:=hx;obtain⟨B,d,rfl,hd,hry,hoy⟩:=hy;have h0:=eQ hy0;by_cases hxy:x<y
 ·have hcm:decide (bM (x:Int) y<0)=true:=by rw[iX (by omega)];rfl
  go_enter Tryz.func187,Tryz.ntmps187;go_wp2_with fail;refine(mA x y _ _ w hxn hyn (by omega) (by omega)).mono ?_;rintro e w1 ⟨rfl,hb1⟩;go_wp2;go_ret2;refine⟨_,_,rfl,?_,?_,From.none,From.mem (by simp),hb1⟩
  ·rw[Nat.div_eq_of_lt hxy];exact NatAt.nil _
  ·rw[Nat.mod_eq_of_lt hxy];exact hxn.below hb1
 ·have hcm:decide (bM (x:Int) y<0)=false:=by
   rcases iY (x:Int) y with ⟨h,_⟩|⟨_,e⟩|⟨_,e⟩
   ·omega
   ·rw[e];rfl
   ·rw[e];rfl
  have hnm:=aX (show y≤x by omega);by_cases h1:nl y=1
  ·have hq1:((nl y:Int)==1)=true:=by simp;omega
   obtain⟨by',oy,rfl,hby,hcy⟩:=hry.at_ (by rw[aJ];omega);have g0:=hcy 0 (by rw[aJ];omega);have hyB:y<BN:=by have:=bX y;rw[h1,Nat.pow_one] at this;exact this
   rw[Nat.add_zero,m5 hy0 hyB] at g0;have g0':w.cell? ⟨by',oy,none⟩=some (.int .u64 (y:Int)):=g0;clear hcy g0 h1;go_enter Tryz.func187,Tryz.ntmps187;go_wp2_with fail;refine(mA x y _ _ w hxn hyn (by omega) (by omega)).mono ?_;rintro e w1 ⟨rfl,hb1⟩;have g1:w1.cell? ⟨by',oy,none⟩=some (.int .u64 (y:Int)):=(hb1.cell (p:=⟨by',oy,none⟩) hby).trans g0';go_wp2_with fail;refine(M5 x y _ w1 (hxn.below hb1) (by omega) hyB (by unfold aF;omega)).mono ?_;rintro e w2 ⟨v2,rfl,hv2,hf2,hb2⟩;go_wp2_with fail;refine(pZ (x%y) (Nat.lt_trans (Nat.mod_lt _ (by omega)) hyB) w2).mono ?_;rintro e w3 ⟨v3,rfl,hv3,hf3,hb3⟩;have hb12:Below w.heap.size w w2:=aB hb1 hb2;go_wp2;go_ret2;exact⟨_,_,rfl,hv2.below hb3,hv3,hf2.trans hb1.size (by simp),hf3.trans hb12.size (by simp),aB hb12 hb3⟩
  ·have hq1:((nl y:Int)==1)=false:=by simp;omega
   obtain⟨by',oy,rfl,hby,hcy⟩:=hry.at_ (by rw[aJ];omega);obtain⟨htw,hy1,hyB⟩:=sW hy0;obtain⟨s,hs1,hs2,hs3,hs4⟩:=sZ (y/BN^(nl y-1)) hy1 hyB;have hnD:nl (y*2^s)=nl y:=CM hy0 (by omega) hs4;have htop:=LU hy0 hs3 hnD;have hstart:=LV (x:=x) (s:=s) hy0 hnm;have gtop:=hcy (nl y-1) (by rw[aJ];omega);rw[htw] at gtop;have hBc:=gU;generalize y/BN^(nl y-1)=a at *;have hxs:=cJ x (2^s);have h2s:nl (2^s)≤1:=bI (by rw[Nat.pow_one,nV];exact Nat.pow_lt_pow_right (by decide) hs1);have ha1:(a:Int)<aA:=by omega
   have ha0:0<(a:Int):=by omega
   have HND:=Lib.hid hnD;have HST:=Lib.hid hstart;clear hcy htw hs3 hs4 hy1 hyB hnD hstart hBc;obtain⟨N,hN1,hN2,HN⟩:∃N,nl x+1≤N∧N≤nl x+1∧Hid (nl x+1=N):=⟨_,Nat.le_refl _,Nat.le_refl _,rfl⟩;obtain⟨M,hM1,hM2,HM⟩:∃M,nl x+1≤M+nl y∧M+nl y≤nl x+1∧Hid (nl x-nl y+1=M):=⟨nl x-nl y+1,by omega,by omega,rfl⟩;go_enter Tryz.func187,Tryz.ntmps187;go_wp2_with fail;refine(mA x y _ _ w hxn hyn (by omega) (by omega)).mono ?_;rintro e w1 ⟨rfl,hb1⟩;have g1:w1.cell? ⟨by',oy+(nl y-1),none⟩=some (.int .u64 (a:Int)):=(hb1.cell (p:=⟨by',oy+(nl y-1),none⟩) hby).trans gtop;go_wp2_with fail;refine(oS a s ha0 ha1 (by rw[Int.toNat_natCast];exact hs2) w1).mono ?_;rintro e w1' ⟨rfl,rfl⟩;go_wp2_with fail;refine(t6 y s _ w1 (hyn.below hb1) (by omega) (by unfold aF;omega)).mono ?_;rintro e w2 ⟨v2,rfl,⟨A2,c2,hv2,hc2,hr2,ho2⟩,hf2,hb2⟩;rw[HND.out] at hv2 hc2;subst hv2;have hb02:Below w.heap.size w w2:=aB hb1 hb2;go_wp2_with (at_make;refine gN rfl rfl .u64 161 8 Tryz.underlying48 eY N rfl rfl (by omega) (by omega) (by omega) (by omega) ?_;intro w3 hz3 hs3 hc3 hb3);have hb03:Below w.heap.size w w3:=aB hb02 hb3;refine(t6 x s _ w3 (hxn.below hb03) (by omega) (by unfold aF;omega)).mono ?_;rintro e w4 ⟨v4,rfl,⟨A4,c4,rfl,hc4,hr4,ho4⟩,hf4,hb4⟩;have hs4:=hs3.below hb4 hz3;have hc4':=hc3.below hb4 hz3
   go_wp2_with (first
    |(with_reducible refine iT rfl rfl .u64 161 Tryz.underlying48 iI rfl rfl w2.heap.size 0 (List.replicate N 0) (dg (x*2^s)) (by simp) rfl (fun _=>rfl) hc4' hs4 hr4 ?_;intro w5 hc5 ho5)
    |(at_make;refine gN rfl rfl .u64 161 8 Tryz.underlying48 eY M rfl rfl (by omega) (by omega) (by omega) (by omega) ?_;intro w6 hz6 hs6 hc6 hb6))
   rw[List.length_replicate] at ho5;have hb04:Below w.heap.size w w4:=aB hb03 hb4;have hb05:Below w.heap.size w w5:=ho5.belowOf hb04 hb02.size;have hb06:Below w.heap.size w w6:=aB hb05 hb6;have hlt5:w2.heap.size<w5.heap.size:=Nat.lt_of_lt_of_le hz3 (Nat.le_trans hb4.size ho5.grown.size);have hr6:Rd .u64 w6 A2 (dg (y*2^s)):=(ho5.rd ((hr2.below hb3).below hb4) (fun b o e h=>hr2.lt_of e h)).below hb6;have hc6z:=hc5.below hb6 hlt5;have hs6z:=(ho5.soft hs4).below hb6 hlt5;have hval0:aD aA (bJ (List.replicate N 0) (dg (x*2^s)))=((x*2^s:Nat):Int):=by rw[iW _ _ (by rw[aJ];omega),bC]
   have hin0:InR aA (bJ (List.replicate N 0) (dg (x*2^s))):=pW (InR.replicate aM _) (aW _);have hlen0:(bJ (List.replicate N 0) (dg (x*2^s))).length=N:=by rw[iE,List.length_replicate]
   generalize bJ (List.replicate N 0) (dg (x*2^s))=zs0 at *;have hneA2:∀b o,A2=some ⟨b,o,none⟩→0<nl y→b≠w2.heap.size:=vO (ho2.ne (c:=c2) (Nat.le_refl _));have hGw:=hb02.size;have ho2':=ho2;unfold Old at ho2;generalize w2.heap.size=G at *;clear ho2';generalize w5.heap.size=K at *;have hdsl:(dg (y*2^s)).length=nl y:=by rw[aJ,HND.out]
   have hdsv:=bC (y*2^s);have hdsi:=aW (y*2^s);generalize dg (y*2^s)=ds at *;have HDL:=Lib.hid hdsl;have HDV:=Lib.hid hdsv;have HNE:=Lib.hid hneA2;have HV0:=Lib.hid hval0;have HL0:=Lib.hid hlen0;have hDlt:aD aA ds<aA^nl y:=by have:=fE aM hdsi;rwa [hdsl] at this
   have hDpos:0<aD aA ds:=by
    rw[hdsv];have:0<y*2^s:=Nat.mul_pos (by omega) (Nat.pow_pos (by decide));omega
   have HDLT:=Lib.hid hDlt;clear hdsl hdsv hneA2 hval0 hlen0 hDlt hb1 hb2 hb3 hb4 hb6 hb02 hb03 hb04 hb05 hr2 hr4 hc3 hc4' hc5 ho5 hs3 hs4 hf2 hf4 gtop g1 ho4 hc4
   go_loopw [13] (fun i wr=>∃(q:Int) (zs qs:List Int), -1≤q∧q<M∧i= .int .i64 q∧Hid (zs.length=N)∧Hid (qs.length=M)∧InR aA zs∧InR aA qs∧
     Hid (aD aA zs+aD aA ds*aA^(q+1).toNat*aD aA (qs.drop (q+1).toNat)=((x*2^s:Nat):Int))∧Hid (aD aA zs<aD aA ds*aA^(q+1).toNat)∧
     Cells .u64 wr G 0 zs∧Soft wr G∧Cells .u64 wr K 0 qs∧Soft wr K∧Rd .u64 wr A2 ds∧Below w.heap.size w wr∧K<wr.heap.size) (fun i _=>(intOf i+1).toNat)
   case atStart=>
    refine⟨(nl x:Int)-nl y,zs0,List.replicate M 0,by omega,by omega,rfl,HL0,by simp[Hid],hin0,InR.replicate aM _,?_,?_,hc6z,hs6z,hc6,hs6,hr6,hb06,hz6⟩
    ·rw[show((nl x:Int)-nl y+1).toNat=M by omega];unfold Hid;rw[List.drop_of_length_le (by simp),HV0.out];simp
    ·rw[show((nl x:Int)-nl y+1).toNat=M by omega];unfold Hid;rw[HV0.out,HDV.out,←HM.out];exact HST.out
   case round=>
    clear hc6z hs6z hc6 hs6 hr6 hb06 hz6 hin0;obtain⟨q,zs,qs,hq1,hq2,rfl,hzl,hql,hz,hqi,hinv,hlt,hcz,hsz,hcq,hsq,hrd,hbel,hKs⟩:=hrel;by_cases h0':0≤q
    ·obtain⟨j,rfl⟩:=Int.eq_ofNat_of_zero_le h0';rw[show((j:Int)+1).toNat=j+1 by omega] at hinv hlt;have hzl':=hzl.out;have hUlt:=LP (k:=1) hz (by omega) hlt.out;rw[Int.pow_one] at hUlt;have hUs:aD aA (zs.drop j)<aA^(nl y+1):=by
      have h1:=HDLT.out;have h2:aD aA ds*aA≤aA^nl y*aA:=Int.mul_le_mul_of_nonneg_right (by omega) (Int.le_of_lt aM);rw[Int.pow_succ];omega
     have hwin:=CL zs j (nl y) (by omega) hz hUs
     obtain⟨qt,rt,hqt,hrt0,hrt1⟩:∃q r,q*aD aA ds+r=aD aA (zs.drop j)∧0≤r∧r<aD aA ds:=
      ⟨aD aA (zs.drop j)/aD aA ds,aD aA (zs.drop j)%aD aA ds,by have:=Int.emod_add_mul_ediv (aD aA (zs.drop j)) (aD aA ds);rw[Int.mul_comm];omega,Int.emod_nonneg _ (by omega),Int.emod_lt_of_pos _ hDpos⟩
     have hqt0:0≤qt:=by
      rcases Int.lt_or_le qt 0 with h|h
      ·have h1:qt*aD aA ds≤ -1*aD aA ds:=Int.mul_le_mul_of_nonneg_right (by omega) (by omega);have h2:=dM aM (hz.drop j);omega
      ·exact h
     have hcw:Cells .u64 wr G j ((zs.drop j).take (nl y+1)):=by have:=(hcz.drop j).take (nl y+1);rwa [Nat.zero_add] at this
     have hlw:((zs.drop j).take (nl y+1)).length=nl y+1:=by rw[List.length_take,List.length_drop];omega
     have hG:G<wr.heap.size:=by omega
     have HQT:=Lib.hid hqt;have HW:=Lib.hid hwin;have HLW:=Lib.hid hlw;have HUS:=Lib.hid hUs;have HUL:=Lib.hid hUlt;clear hqt hwin hlw hUs hUlt hzl';have hjj:j+nl y+1-j=nl y+1:=by omega
     have i1:¬N=j:=by omega
     have i2:j≤N:=by omega
     have i3:j+nl y≤N:=by omega
     have i4:j+nl y+1≤N:=by omega
     go_wp2_with fail;refine(LN _ A2 ((zs.drop j).take (nl y+1)) ds (N-j) c2 (nl y) wr (by omega) HLW.out HDL.out (Rd.mk hG hcw) hrd ((hz.drop j).take _) hdsi htop (by rw[HW.out.2,Int.mul_comm];exact HUL.out) (by omega) qt rt (by rw[HW.out.2];exact HQT.out) hrt0 hrt1 hqt0).mono ?_;rintro e w7 ⟨dq,rfl,hd0,hd1,hdq1,hdq2,hb7⟩;go_wp2_with fail;have hd64:dq≤18446744073709551615:=by unfold aA at hd1;omega
     have hcw7:Cells .u64 w7 G j ((zs.drop j).take (nl y)):=by have:=((hcz.below hb7 hG).drop j).take (nl y);rwa [Nat.zero_add] at this
     have hlw7:((zs.drop j).take (nl y)).length=nl y:=by rw[List.length_take,List.length_drop,hzl.out];omega
     have hs7:=hsz.below hb7 hG;have hr7:=hrd.below hb7;go_wp2_with fail;refine(LA G j ((zs.drop j).take (nl y)) (N-j) A2 ds c2 (nl y) dq w7 hlw7 HDL.out hcw7 hs7 (by omega) hr7 HNE.out ((hz.drop j).take _) hdsi ⟨hd0,hd1⟩).mono ?_;rintro e w8 ⟨ts,bo,rfl,hbo0,hbo1,htl,ht,htv,hc8,ho8⟩;have hcases:=LQ (kM aM (nl y)) HW.out.1 htv (dM aM ht) (by have:=fE aM ht;rwa [htl] at this) HQT.out hrt0 hrt1 (Int.le_of_lt HDLT.out) (show dq=qt∨dq=qt+1 by omega);have hgt:w8.cell? ⟨G,j+nl y,none⟩=some (.int .u64 (zs.getD (j+nl y) 0)):=by
      rw[ho8.rest _ (.inr (Nat.le_refl _))];have:=(hcz.below hb7 hG) (j+nl y) (by have:=hzl.out;omega);rwa [Nat.zero_add] at this
     have hbt:=hz.getD aM (j+nl y);have hs8:=ho8.soft hs7;have hf8:=fun k=>hs8.free k;have hlt8:G<w8.heap.size:=Nat.lt_of_lt_of_le (Nat.lt_of_lt_of_le hG hb7.size) ho8.grown.size;have hK8:K<w8.heap.size:=Nat.lt_of_lt_of_le (Nat.lt_of_lt_of_le hKs hb7.size) ho8.grown.size;have hcq8:Cells .u64 w8 K 0 qs:=ho8.cells (hcq.below hb7 hKs) (Nat.lt_of_lt_of_le hKs hb7.size) (.inl (by omega));have hsq8:Soft w8 K:=(hsq.below hb7 hKs).keep (ho8.grown.block K (Nat.lt_of_lt_of_le hKs hb7.size) (by intro e;injection e;omega));have hkq:=hcq8 j (by have:=hql.out;omega);rw[Nat.zero_add] at hkq;have hfk8:=fun k=>hsq8.free k;have hGK:¬G=K:=by omega
     have hKG:¬K=G:=by omega
     have hr8:Rd .u64 w8 A2 ds:=ho8.rd hr7 (fun b o e h=>HNE.out b o e (by omega));have hb08:Below w.heap.size w w8:=ho8.belowOf (aB hbel hb7) hGw;generalize hte:zs.getD (j+nl y) 0=t at *;generalize qs.getD j 0=kq at *;have HTE:=Lib.hid hte;clear hte;have HTL:=Lib.hid htl;have HTV:=Lib.hid htv;clear htl htv hlw7 hcw7;rcases hcases with ⟨e1,e2,e3⟩|⟨e1,e2,e3⟩
     ·have HE1:=Lib.hid e1;have HE3:=Lib.hid e3;clear e1 e3;subst e2;have hdec:decide (bo<bo)=false:=by simp
      go_wp2;go_roundw
      case rel=>
       have hzl':=hzl.out;have htl':=HTL.out;have hpl:=gQ (zs:=zs) (ts:=ts) (k:=j) (by omega);have hri:=CN (by omega) htl' hz HUS.out HQT.out hrt1 HE3.out (by have:=hql.out;omega) hinv.out;have hcz8:=(ho8.patch (hcz.below hb7 hG) htl' hc8 (by omega)).set (i:=j+nl y) (by omega) 0;rw[Nat.zero_add] at hcz8;have hcqs:=(hcq8.far (a:=⟨G,j+nl y,none⟩) (.inl (by simp;omega)) (.int .u64 0)).set (i:=j) (by have:=hql.out;omega) dq;rw[Nat.zero_add] at hcqs;have hrd':Rd .u64 ((w8.setCell ⟨G,j+nl y,none⟩ (.int .u64 0)).setCell ⟨K,j,none⟩ (.int .u64 dq)) A2 ds:=by
        refine Only.rd (g:=K) (off:=0) (n:=M) ?_ (Only.rd (g:=G) (off:=j) (n:=nl y+1) ((Only.refl _ _ _ _).set (i:=nl y) (by omega) (.int .u64 0)) hr8 (fun b o e h=>HNE.out b o e (by omega))) (fun b o e h=> ?_)
        ·have:=(Only.refl K 0 M (w8.setCell ⟨G,j+nl y,none⟩ (.int .u64 0))).set (i:=j) (by omega) (.int .u64 dq);rwa [Nat.zero_add] at this
        ·have h1:=ho2 ⟨b,o,none⟩ e;have h2:b<G:=h1;omega
       refine⟨(j:Int)-1,_,_,by omega,by omega,rfl,?_,?_,(nO hz ht j).set (by decide) (by decide) _,hqi.set hd0 hd1 _,?_,?_,hcz8.far (.inl (by simp;omega)) _,(hs8.set _ _).set _ _,hcqs,(hsq8.set _ _).set _ _,hrd',(hb08.setCell (by show _≤G;omega) _).setCell (by show _≤K;omega) _,?_⟩
       ·unfold Hid;rw[List.length_set];omega
       ·unfold Hid;rw[List.length_set];exact hql.out
       ·rw[show((j:Int)-1+1).toNat=j by omega,HE1.out];exact hri.1
       ·rw[show((j:Int)-1+1).toNat=j by omega];exact hri.2
       ·rw[kJ,kJ];exact hK8
      case measure=>simp[intOf]
     ·have HE1:=Lib.hid e1;have HE3:=Lib.hid e3;clear e1 e3;subst e2;have hwr:IntKind.u64.wrap (t-(t+1))=18446744073709551615:=by rw[jO];unfold cB;omega
      have hdec:t<t+1:=by omega
      have hd1':1≤dq:=by have:=HE1.out;omega
      obtain⟨wo,rfl⟩:∃wo:World,wo=wr:=⟨_,rfl⟩;go_wp2;have hon9:Only G j (nl y+1) w8 (w8.setCell ⟨G,j+nl y,none⟩ (.int .u64 18446744073709551615)):=(Only.refl _ _ _ _).set (i:=nl y) (by omega) (.int .u64 18446744073709551615);have hc9:Cells .u64 (w8.setCell ⟨G,j+nl y,none⟩ (.int .u64 18446744073709551615)) G j ts:=hc8.far (.inr (.inr (by show _≤j+nl y;have:=HTL.out;omega))) _;have hm9:(w8.setCell ⟨G,j+nl y,none⟩ (.int .u64 18446744073709551615)).cell? ⟨G,j+nl y,none⟩=some (.int .u64 18446744073709551615):=World.cell?_setCell_same _ _ _ hgt;have hcz9:Cells .u64 (w8.setCell ⟨G,j+nl y,none⟩ (.int .u64 18446744073709551615)) G 0 ((patch zs ts j).set (j+nl y) 18446744073709551615):=by
       have hpl:=gQ (zs:=zs) (ts:=ts) (k:=j) (by have:=HTL.out;have:=hzl.out;omega);have:=(ho8.patch (hcz.below hb7 hG) HTL.out hc8 (by have:=hzl.out;omega)).set (i:=j+nl y) (by have:=hzl.out;omega) 18446744073709551615;rwa [Nat.zero_add] at this
      have hr9:=hon9.rd hr8 (fun b o e h=>HNE.out b o e (by omega));have hcq9:=hon9.cells hcq8 hK8 (.inl (by omega));have hsq9:Soft _ K:=hsq8.set ⟨G,j+nl y,none⟩ (.int .u64 18446744073709551615);have hs9:=hon9.soft hs8;have hlt9:=hon9.grown.size;generalize w8.setCell ⟨G,j+nl y,none⟩ (.int .u64 18446744073709551615)=w9 at *;clear hgt hf8 hfk8 hkq
      go_loopw [17,115] (fun t i wr=>∃(k:Nat) (us:List Int) (c:Int),k≤nl y∧i= .int .i64 k∧t= .int .u64 c∧0≤c∧c≤1∧Hid (us.length=nl y)∧InR aA us∧
        Hid (aD aA us+c*aA^k=aD aA ts+aD aA (ds.take k))∧Cells .u64 wr G j us∧Only G j (nl y) w9 wr) (fun _ i _=>nl y-(intOf i).toNat)
      case atStart=>exact⟨0,ts,0,Nat.zero_le _,rfl,rfl,by decide,by decide,HTL,ht,by simp[Hid],hc9,Only.refl _ _ _ _⟩
      case round=>
       obtain⟨k,us,cc,hk,rfl,rfl,hcc0,hcc1,hul,hui,huv,hcu,hou⟩:=hrel;by_cases hkn:k<nl y
       ·obtain⟨b,o,rfl,hbs,hyc⟩:=(hou.rd hr9 (fun b o e h=>HNE.out b o e (by omega))).at_ (by have:=HDL.out;omega);have k1:=hyc k (by have:=HDL.out;omega);have k2:=hcu k (by have:=hul.out;omega);have hf:=fun m=>(hou.soft hs9).free m;have b1:=hui.getD aM k;have b2:=hdsi.getD aM k;have hstep:=vW (y:=ds.getD k 0) (show k<us.length by have:=hul.out;omega) huv.out;have hts:=gF aA ds k (by have:=HDL.out;omega);generalize hxe:us.getD k 0=x1 at *;generalize hye:ds.getD k 0=y1 at *;have HS:=Lib.hid hstep;have HT:=Lib.hid hts;have HC:=Lib.hid hcu;obtain⟨b10,b11⟩:=b1;obtain⟨b20,b21⟩:=b2;have j1:j+k≤N:=by omega
        clear hyc hxe hye hstep hts hcu;go_wp2_with (simp only[sO x1 y1 cc b10 b20 hcc0 hcc1 b11 b21]);go_roundw
        case rel=>
         have hl:=iH (x1+y1+cc);have hh:=pT (x:=x1+y1+cc) (m:=2) (by omega) (by omega);refine⟨k+1,us.set k (cB (x1+y1+cc)),eX (x1+y1+cc),by omega,by go_num,rfl,hh.1,by omega,?_,hui.set hl.1 hl.2 k,?_,HC.out.set (by have:=hul.out;omega) _,hou.set (by omega) _⟩
         ·unfold Hid;rw[List.length_set];exact hul.out
         ·have:=HS.out;have:=HT.out;unfold Hid;omega
        case measure=>simp[intOf];omega
       ·obtain rfl:k=nl y:=by omega
        have hfin:cc=1∧aD aA us=rt:=by
         have h1:=huv.out;rw[List.take_of_length_le (by have:=HDL.out;omega),HE3.out] at h1;have h2:=dM aM hui;have h3:=fE aM hui;rw[hul.out] at h3;have h4:cc=0∨cc=1:=by omega
         rcases h4 with rfl|rfl
         ·simp at h1;omega
         ·simp at h1;exact⟨rfl,h1⟩
        obtain⟨rfl,huv'⟩:=hfin;have HUV:=Lib.hid huv';clear huv';have hm10:wr.cell? ⟨G,j+nl y,none⟩=some (.int .u64 18446744073709551615):=(hou.rest _ (.inr (Nat.le_refl _))).trans hm9;have hs10:=hou.soft hs9;have hf10:=fun m=>hs10.free m;have hlt10:=hou.grown.size;have hcq10:=hou.cells hcq9 (by omega) (.inl (by omega));have hsq10:Soft wr K:=hsq9.keep (hou.grown.block K (by omega) (by intro e;injection e;omega));have hkq10:=hcq10 j (by have:=hql.out;omega);rw[Nat.zero_add] at hkq10;have hfk10:=fun m=>hsq10.free m;have hr10:=hou.rd hr9 (fun b o e h=>HNE.out b o e (by omega));have hb010:Below w.heap.size w wr:=hou.belowOf (hon9.belowOf hb08 hGw) hGw;have hw1:IntKind.u64.wrap (18446744073709551615+1)=0:=by rw[jO];rfl
        generalize qs.getD j 0=kq2 at *;go_wp2;go_roundw
        case rel=>
         have hzl':=hzl.out;have hul':=hul.out;have hpl:=gQ (zs:=zs) (ts:=us) (k:=j) (by omega);have hri:=CN (by omega) hul' hz HUS.out HQT.out hrt1 HUV.out (by have:=hql.out;omega) hinv.out;have hpl9:=gQ (zs:=zs) (ts:=ts) (k:=j) (by have:=HTL.out;omega);have hcz10:=(hou.patch hcz9 hul' hcu (by rw[List.length_set];omega)).set (i:=j+nl y) (by rw[gQ (by rw[List.length_set];omega),List.length_set];omega) 0;rw[Nat.zero_add,LX HTL.out hul' (by omega)] at hcz10;have hcqs:=(hcq10.far (a:=⟨G,j+nl y,none⟩) (.inl (by simp;omega)) (.int .u64 0)).set (i:=j) (by have:=hql.out;omega) (dq-1);rw[Nat.zero_add] at hcqs;have hrd':Rd .u64 ((wr.setCell ⟨G,j+nl y,none⟩ (.int .u64 0)).setCell ⟨K,j,none⟩ (.int .u64 (dq-1))) A2 ds:=by
          refine Only.rd (g:=K) (off:=0) (n:=M) ?_ (Only.rd (g:=G) (off:=j) (n:=nl y+1) ((Only.refl _ _ _ _).set (i:=nl y) (by omega) (.int .u64 0)) hr10 (fun b o e h=>HNE.out b o e (by omega))) (fun b o e h=> ?_)
          ·have:=(Only.refl K 0 M (wr.setCell ⟨G,j+nl y,none⟩ (.int .u64 0))).set (i:=j) (by omega) (.int .u64 (dq-1));rwa [Nat.zero_add] at this
          ·have h1:=ho2 ⟨b,o,none⟩ e;have h2:b<G:=h1;omega
         refine⟨(j:Int)-1,_,_,by omega,by omega,rfl,?_,?_,(nO hz hui j).set (by decide) (by decide) _,hqi.set (by omega) (by omega) _,?_,?_,hcz10.far (.inl (by simp;omega)) _,(hs10.set _ _).set _ _,hcqs,(hsq10.set _ _).set _ _,hrd',(hb010.setCell (by show _≤G;omega) _).setCell (by show _≤K;omega) _,?_⟩
         ·unfold Hid;rw[List.length_set];omega
         ·unfold Hid;rw[List.length_set];exact hql.out
         ·rw[show((j:Int)-1+1).toNat=j by omega,show dq-1=qt by have:=HE1.out;omega];exact hri.1
         ·rw[show((j:Int)-1+1).toNat=j by omega];exact hri.2
         ·rw[kJ,kJ];omega
        case measure=>simp[intOf]
    ·obtain rfl:q= -1:=by omega
     have hfin:=LW (x:=x) (y:=y) (s:=s) (zv:=aD aA zs) (qv:=aD aA qs) hy0 (by have:=hinv.out;rw[HDV.out] at this;simpa using this) (dM aM hz) (by have:=hlt.out;rw[HDV.out] at this;simpa using this);have HF1:=Lib.hid hfin.1;have HF2:=Lib.hid hfin.2;clear hfin;have hG:G<wr.heap.size:=by omega
     go_wp2_with fail;refine(dI _ qs M M wr hql.out (Rd.mk hKs hcq) (Nat.le_refl _) (by omega)).mono ?_;rintro e w8 ⟨rfl,rfl⟩;go_wp2_with fail;refine(dI _ zs N N wr hzl.out (Rd.mk hG hcz) (Nat.le_refl _) (by omega)).mono ?_;rintro e w8 ⟨rfl,rfl⟩;have hnz:NatAt wr (.slice (some ⟨G,0,none⟩) (trimL zs).length N) (x%y*2^s):=NatAt.trim (Rd.mk hG hcz) hz HF2.out (by rw[hzl.out];exact Nat.le_refl _) (Old.mk hG);have hnq:NatAt wr (.slice (some ⟨K,0,none⟩) (trimL qs).length M) (x/y):=NatAt.trim (Rd.mk hKs hcq) hqi HF1.out (by rw[hql.out];exact Nat.le_refl _) (Old.mk hKs);go_wp2_with fail
     refine(CV (x%y*2^s) s _ wr hnz (by omega) (by
      unfold aF;have h1:=cJ (x%y) (2^s);have h2:=aX (Nat.mod_le x y);omega)).mono ?_
     rintro e w9 ⟨v9,rfl,hv9,hf9,hb9⟩;rw[Nat.mul_div_cancel _ (Nat.pow_pos (by decide))] at hv9;go_wp2;go_ret2
     exact⟨_,_,rfl,hnq.below hb9,hv9,From.new (by omega),hf9.trans hbel.size (fun u hu=>by
      have:u= .slice (some ⟨G,0,none⟩) (trimL zs).length N:=by simpa using hu
      subst this;exact From.new hGw),aB hbel hb9⟩
end Go.Proofs.YtbhplgdbfmifkaaGreatDoor
