/-
  Contracts of functions that the statement reaches, and plain laws: GcdA.
-/
import Derived.Test.YtbhplgdbfmifkaaGreatDoorI06
import Derived.Test.YtbhplgdbfmifkaaGreatDoorI08
set_option linter.unusedVariables false
set_option linter.unusedSimpArgs false
set_option maxHeartbeats 8000000
set_option maxRecDepth 100000
namespace Go.Proofs.YtbhplgdbfmifkaaGreatDoor
open Go.RowKit Sos
theorem Split.uniq {t s c s' c':Int} (h:Split t s c) (h':Split t s' c'):s=s'∧c=c':=⟨h.lo.symm.trans h'.lo,h.hi.symm.trans h'.hi⟩
theorem mC (x y c s k:Int) (hx:0≤x∧x<aA) (hy:0≤y∧y<aA) (hc:0≤c∧c<aA) (h:Split (x*y+c) s k) (w:World):
  Calls Tryz.prog 188 #[.int .u64 x,.int .u64 y,.int .u64 c] w fun e w'=>e= .returned (.tuple #[.int .u64 s,.int .u64 k])∧w=w':=by
 obtain⟨L,H,hs1⟩:=fK (x*y);obtain⟨S,C,hs2⟩:=fK (L+c);have d1:=hs1.2;have d2:=hs2.2
 have hs:Split (x*y+c) S (H+C):=⟨by have:=hs1.1;have:=hs2.1;rw[Int.mul_add];omega,d2⟩;obtain⟨rfl,rfl⟩:=h.uniq hs;have hb:=jN hx hy hc (z:=0) (by decide);have hm:=iV hx.1 (show x≤aA-1 by omega) hy.1 (show y≤aA-1 by omega)
 have q0:=hs1.hi_bd hm.1 (m:=aA) (by have e:(aA-1)*(aA-1)=aA*aA-2*aA+1:=by rfl
                                     have:(2:Int)≤aA:=by decide
                                     omega)
 have q1:=hs2.hi_bd (by omega) (m:=2) (by omega);have q2:=hs.hi_bd (by omega) (m:=aA) (by omega);have q3:H+C≤18446744073709551615:=by unfold aA at q2;omega
 have HS1:=Lib.hid hs1;have HS2:=Lib.hid hs2;clear hs1 hs2 hs h hb hm;obtain⟨q01,_⟩:=q0;obtain⟨q11,_⟩:=q1;obtain⟨q21,_⟩:=q2;go_enter Tryz.func188,Tryz.ntmps188
 go_wp2_with (first
  |(go_at_call 195;refine(f9 x y L H hx hy HS1.out _).mono ?_;rintro e w' ⟨rfl,rfl⟩)
  |simp only[oP L c s C d1 hc HS2.out])
 go_ret2;exact⟨rfl,rfl⟩
def dJ (odd:Bool):Int:=if odd then -1 else 1
theorem sU (odd:Bool) {x y p q cP cQ cP' cQ' u v bo bo' d P Z X Y:Int} (h1:p+aA*cP'=x*u+cP) (h2:q+aA*cQ'=y*v+cQ) (hd:d=(if odd then p else q)-((if odd then q else p)+bo)+aA*bo')
  (hz:Z=dJ odd*(v*Y-u*X)+P*(bo+dJ odd*(cP-cQ))):Z+P*d=dJ odd*(v*(Y+P*y)-u*(X+P*x))+P*aA*(bo'+dJ odd*(cP'-cQ')):=by
 have e1:p=x*u+cP-aA*cP':=by omega
 have e2:q=y*v+cQ-aA*cQ':=by omega
 rw[hz,hd,e1,e2];generalize aA=b;cases odd<;>simp[dJ]<;>grind
theorem sV {Z t m P:Int} (h:Z=t+P*m) (h0:0≤Z) (h1:Z<P) (h2:0≤t) (h3:t<P):Z=t:=by
 have hP:0<P:=by omega
 rcases Int.lt_trichotomy m 0 with hm|hm|hm
 ·have:P*m≤P*(-1):=Int.mul_le_mul_of_nonneg_left (by omega) (by omega);omega
 ·subst hm;omega
 ·have:P*1≤P*m:=Int.mul_le_mul_of_nonneg_left (by omega) (by omega);omega
theorem qB {zs:List Int} {k:Nat} {d:Int} (hk:k<zs.length):aD aA ((zs.set k d).take (k+1))=aD aA (zs.take k)+aA^k*d:=by
 rw[gF _ _ _ (by simpa using hk),List.take_set_of_le (Nat.le_refl _)];simp[List.getElem?_set_self hk]
theorem Cells.other {k:IntKind} {w:World} {g off:Nat} {zs:List Int} (h:Cells k w g off zs) {g' o:Nat} (hne:g'≠g) (v:Value):Cells k (w.setCell ⟨g',o,none⟩ v) g off zs:=h.far (.inl hne) v
def Blk (w:World) (g:Nat) (cs:List Value):Prop:=∃t,w.heap[g]? =some (.cells cs.toArray t (0,0))
theorem Blk.cell {w:World} {g:Nat} {cs:List Value} (h:Blk w g cs) {i:Nat} {v:Value} (hv:cs[i]? =some v):w.cell? ⟨g,i,none⟩=some v:=by
 obtain⟨t,h⟩:=h;rw[cell_of_row w g i _ _ _ h];simpa using hv
theorem Blk.keep {w w':World} {g:Nat} {cs:List Value} (h:Blk w g cs) (hb:w'.heap[g]? =w.heap[g]?):Blk w' g cs:=by
 obtain⟨t,h⟩:=h;exact⟨t,hb.trans h⟩
theorem Blk.other {w:World} {g:Nat} {cs:List Value} (h:Blk w g cs) {g' o:Nat} {s:Option Nat} (hne:g'≠g) (v:Value):Blk (w.setCell ⟨g',o,s⟩ v) g cs:=
 h.keep (Below.heap_setCell w ⟨g',o,s⟩ v g (fun e=>hne e.symm))
theorem Blk.new (w:World) (cs:List Value) (t:TypeId):Blk (w.alloc (.cells cs.toArray t)) w.heap.size cs:=⟨t,heap_alloc_new w _⟩
theorem CK (B ga gb:Nat) (xs ys:List Int) (ca cb n:Nat) (u0 u1 v0 v1:Nat) (odd:Bool) (na nb:Nat) (w:World) (hxn:xs.length=n) (hyn:ys.length=n)
  (hx:Cells .u64 w ga 0 xs) (hy:Cells .u64 w gb 0 ys) (sa:Soft w ga) (sb:Soft w gb) (hne:ga≠gb) (hb:n*8≤281474976710656) (hX:InR aA xs) (hY:InR aA ys)
  (hu0:u0<BN) (hu1:u1<BN) (hv0:v0<BN) (hv1:v1<BN) (hna:(na:Int)=dJ odd*((v0:Int)*aD aA ys-u0*aD aA xs)) (hnb:(nb:Int)=dJ odd*((u1:Int)*aD aA xs-v1*aD aA ys))
  (hna1:(na:Int)<aA^n) (hnb1:(nb:Int)<aA^n) (hB:B≤w.heap.size) (hBa:B≤ga) (hBb:B≤gb):
  Calls Tryz.prog 155 #[.agg #[.int .u64 u0,.int .u64 u1,.int .u64 v0,.int .u64 v1,.bool odd],.slice (some ⟨ga,0,none⟩) n ca,.slice (some ⟨gb,0,none⟩) n cb] w fun e w'=>e= .returned (.tuple #[])∧
   ∃zs ws,zs.length=n∧ws.length=n∧InR aA zs∧InR aA ws∧aD aA zs=na∧aD aA ws=nb∧Cells .u64 w' ga 0 zs∧Cells .u64 w' gb 0 ws∧Soft w' ga∧Soft w' gb∧Below B w w'∧(∀g t m,Shape w g t m→Shape w' g t m):=by
 have HXN:=Lib.hid hxn;have HYN:=Lib.hid hyn;have HNA:=Lib.hid hna;have HNB:=Lib.hid hnb;have HNA1:=Lib.hid hna1;have HNB1:=Lib.hid hnb1;have hga:=sa.lt;have hgb:=sb.lt;have hBc:=gU;have i0:0≤(u0:Int)∧(u0:Int)<aA:=⟨by omega,by omega⟩;have i1:0≤(u1:Int)∧(u1:Int)<aA:=⟨by omega,by omega⟩;have i2:0≤(v0:Int)∧(v0:Int)<aA:=⟨by omega,by omega⟩;have i3:0≤(v1:Int)∧(v1:Int)<aA:=⟨by omega,by omega⟩;clear hxn hyn hna hnb hna1 hnb1 hBc hu0 hu1 hv0 hv1;cases odd
 ·go_enter Tryz.func155,Tryz.ntmps155;go_wp2
  go_loopw [6,7,8,9,10,11,21] (fun p q r t d l i wr=>∃(k:Nat) (zs ws:List Int) (cP cQ cR cT bo lo:Int),k≤n∧i= .int .i64 k∧p= .int .u64 cP∧q= .int .u64 cQ∧r= .int .u64 cR∧t= .int .u64 cT∧d= .int .u64 bo∧l= .int .u64 lo∧
   (0≤cP∧cP<aA)∧(0≤cQ∧cQ<aA)∧(0≤cR∧cR<aA)∧(0≤cT∧cT<aA)∧(0≤bo∧bo≤1)∧(0≤lo∧lo≤1)∧Hid (zs.length=n)∧Hid (ws.length=n)∧InR aA zs∧InR aA ws∧
   Hid (∀j,k≤j→zs.getD j 0=xs.getD j 0)∧Hid (∀j,k≤j→ws.getD j 0=ys.getD j 0)∧
   Hid (aD aA (zs.take k)=dJ false*(v0*aD aA (ys.take k)-u0*aD aA (xs.take k))+aA^k*(bo+dJ false*(cP-cQ)))∧
   Hid (aD aA (ws.take k)=dJ false*(u1*aD aA (xs.take k)-v1*aD aA (ys.take k))+aA^k*(lo+dJ false*(cR-cT)))∧
   Cells .u64 wr ga 0 zs∧Cells .u64 wr gb 0 ws∧Soft wr ga∧Soft wr gb∧Blk wr w.heap.size [.int .u64 u0,.int .u64 u1,.int .u64 v0,.int .u64 v1,.bool false]∧Below B w wr∧Hid (∀g t m,Shape w g t m→Shape wr g t m)) (fun _ _ _ _ _ _ i _=>n-(intOf i).toNat)
  case atStart=>
   refine⟨0,xs,ys,0,0,0,0,0,0,Nat.zero_le _,rfl,rfl,rfl,rfl,rfl,rfl,rfl,⟨by decide,by decide⟩,⟨by decide,by decide⟩,⟨by decide,by decide⟩,⟨by decide,by decide⟩,⟨by decide,by decide⟩,⟨by decide,by decide⟩,HXN,HYN,hX,hY,fun _ _=>rfl,fun _ _=>rfl,by simp[Hid],by simp[Hid],hx.alloc hga _,hy.alloc hgb _,sa.alloc _,sb.alloc _,Blk.new _ _ _,(Below.refl _ _).alloc hB _,fun _ _ _ h=>h.alloc _⟩
  case round=>
   obtain⟨k,zs,ws,cP,cQ,cR,cT,bo,lo,hk,rfl,rfl,rfl,rfl,rfl,rfl,rfl,bP,bQ,bR,bT,bbo,blo,hzl,hwl,hz,hw,hzr,hwr,hvz,hvw,hcz,hcw,hsz,hsw,hblk,hbel,hshp⟩:=hrel;clear hx hy sa sb;by_cases hlt:k<n
   ·have g1:=hcz k (by have:=hzl.out;omega);have g2:=hcw k (by have:=hwl.out;omega);rw[Nat.zero_add] at g1 g2;rw[hzr.out k (Nat.le_refl _)] at g1;rw[hwr.out k (Nat.le_refl _)] at g2;have f1:=hsz.free k;have f2:=hsw.free k;have c0:=hblk.cell (i:=0) rfl;have c1:=hblk.cell (i:=1) rfl;have c2:=hblk.cell (i:=2) rfl;have c3:=hblk.cell (i:=3) rfl;have c4:=hblk.cell (i:=4) rfl;have bx:=hX.getD aM k;have by_:=hY.getD aM k;have htx:=gF aA xs k (by have:=HXN.out;omega);have hty:=gF aA ys k (by have:=HYN.out;omega);generalize hxe:xs.getD k 0=x at *;generalize hye:ys.getD k 0=y at *;obtain⟨p,cP',hs1⟩:=fK (x*u0+cP);obtain⟨q,cQ',hs2⟩:=fK (y*v0+cQ);obtain⟨r,cR',hs3⟩:=fK (y*v1+cR);obtain⟨t,cT',hs4⟩:=fK (x*u1+cT);have m1:=jN bx i0 bP (z:=0) (by decide);have m2:=jN by_ i2 bQ (z:=0) (by decide);have m3:=jN by_ i3 bR (z:=0) (by decide);have m4:=jN bx i1 bT (z:=0) (by decide);have bP':=hs1.hi_bd (by omega) (m:=aA) (by omega);have bQ':=hs2.hi_bd (by omega) (m:=aA) (by omega);have bR':=hs3.hi_bd (by omega) (m:=aA) (by omega);have bT':=hs4.hi_bd (by omega) (m:=aA) (by omega);have d1:=hs1.2;have d2:=hs2.2;have d3:=hs3.2;have d4:=hs4.2
    obtain⟨d,bo',hd1⟩:=pV (t:=q) (u:=p+bo) (by omega) (by omega) (by omega) (by omega);obtain⟨e,lo',hd2⟩:=pV (t:=t) (u:=r+lo) (by omega) (by omega) (by omega) (by omega);have hstA:=sU false (p:=p) (q:=q) hs1.1 hs2.1 hd1.1 hvz.out;have hstB:=sU false (p:=r) (q:=t) hs3.1 hs4.1 hd2.1 hvw.out;have bo1:0≤bo'∧bo'≤1:=by have:=hd1.2.2.2;omega
    have lo1:0≤lo'∧lo'≤1:=by have:=hd2.2.2.2;omega
    have hdr:=hd1.2;have her:=hd2.2
    have HS1:=Lib.hid hs1;have HS2:=Lib.hid hs2;have HS3:=Lib.hid hs3;have HS4:=Lib.hid hs4
    have HD1:=Lib.hid hd1;have HD2:=Lib.hid hd2;have HA:=Lib.hid hstA;have HB2:=Lib.hid hstB
    have HTX:=Lib.hid htx;have HTY:=Lib.hid hty;have HXE:=Lib.hid hxe;have HYE:=Lib.hid hye
    have HC1:=Lib.hid hcz;have HC2:=Lib.hid hcw
    clear hs1 hs2 hs3 hs4 hd1 hd2 hstA hstB htx hty hxe hye hcz hcw m1 m2 m3 m4 hdr her;go_wp2_with fail;refine(mC x u0 cP p cP' bx i0 bP HS1.out _).mono ?_;rintro e1 w' ⟨rfl,rfl⟩;go_wp2_with fail;refine(mC y v0 cQ q cQ' by_ i2 bQ HS2.out _).mono ?_;rintro e1 w' ⟨rfl,rfl⟩;go_wp2_with fail;refine(mC y v1 cR r cR' by_ i3 bR HS3.out _).mono ?_;rintro e1 w' ⟨rfl,rfl⟩;go_wp2_with fail;refine(mC x u1 cT t cT' bx i1 bT HS4.out _).mono ?_;rintro e1 w' ⟨rfl,rfl⟩
    go_wp2_with (first
     |simp only[sR q p bo d bo' d2 d1 bbo HD1.out]
     |simp only[sR t r lo e lo' d4 d3 blo HD2.out])
    go_roundw
    case rel=>
     have hd:=HD1.out.2;have he:=HD2.out.2;refine⟨k+1,zs.set k d,ws.set k e,cP',cQ',cR',cT',bo',lo',by omega,by go_num,rfl,rfl,rfl,rfl,rfl,rfl,bP',bQ',bR',bT',bo1,lo1,?_,?_,hz.set hd.1 hd.2.1 k,hw.set he.1 he.2.1 k,?_,?_,?_,?_,?_,?_,(hsz.set _ _).set _ _,(hsw.set _ _).set _ _,(hblk.other (by omega) _).other (by omega) _,?_,fun g t m h=>((hshp.out g t m h).set _ _).set _ _⟩
     ·have:=hzl.out;simpa [Hid] using this
     ·have:=hwl.out;simpa [Hid] using this
     ·intro j hj;rw[jM _ _ _ _ (by omega)];exact hzr.out j (by omega)
     ·intro j hj;rw[jM _ _ _ _ (by omega)];exact hwr.out j (by omega)
     ·unfold Hid;rw[qB (by have:=hzl.out;omega),HTX.out,HTY.out,Int.pow_succ];exact HA.out
     ·unfold Hid;rw[qB (by have:=hwl.out;omega),HTX.out,HTY.out,Int.pow_succ];exact HB2.out
     ·have:=HC1.out.set (i:=k) (by have:=hzl.out;omega) d;rw[Nat.zero_add] at this;exact this.other (by omega) _
     ·have:=(HC2.out.other (g':=ga) (o:=k) (by omega) (.int .u64 d)).set (i:=k) (by have:=hwl.out;omega) e;rw[Nat.zero_add] at this;exact this
     ·exact(hbel.setCell (by simpa using hBa) _).setCell (by simpa using hBb) _
    case measure=>simp[intOf];omega
   ·obtain rfl:k=n:=by omega
    go_wp2;go_end0;have e1:=hvz.out;have e2:=hvw.out;have z1:=hzl.out;have z2:=hwl.out;have z3:=HXN.out;have z4:=HYN.out
    rw[List.take_of_length_le (by omega),List.take_of_length_le (by omega),List.take_of_length_le (by omega)] at e1;rw[List.take_of_length_le (by omega),List.take_of_length_le (by omega),List.take_of_length_le (by omega)] at e2;rw[←HNA.out] at e1;rw[←HNB.out] at e2;have l1:=fE aM hz;have l2:=fE aM hw;rw[z1] at l1;rw[z2] at l2;exact⟨rfl,zs,ws,z1,z2,hz,hw,sV e1 (dM aM hz) l1 (by omega) HNA1.out,sV e2 (dM aM hw) l2 (by omega) HNB1.out,hcz,hcw,hsz,hsw,hbel,hshp.out⟩
 ·go_enter Tryz.func155,Tryz.ntmps155;go_wp2
  go_loopw [6,7,8,9,10,11,21] (fun p q r t d l i wr=>∃(k:Nat) (zs ws:List Int) (cP cQ cR cT bo lo:Int),k≤n∧i= .int .i64 k∧p= .int .u64 cP∧q= .int .u64 cQ∧r= .int .u64 cR∧t= .int .u64 cT∧d= .int .u64 bo∧l= .int .u64 lo∧
   (0≤cP∧cP<aA)∧(0≤cQ∧cQ<aA)∧(0≤cR∧cR<aA)∧(0≤cT∧cT<aA)∧(0≤bo∧bo≤1)∧(0≤lo∧lo≤1)∧Hid (zs.length=n)∧Hid (ws.length=n)∧InR aA zs∧InR aA ws∧
   Hid (∀j,k≤j→zs.getD j 0=xs.getD j 0)∧Hid (∀j,k≤j→ws.getD j 0=ys.getD j 0)∧
   Hid (aD aA (zs.take k)=dJ true*(v0*aD aA (ys.take k)-u0*aD aA (xs.take k))+aA^k*(bo+dJ true*(cP-cQ)))∧
   Hid (aD aA (ws.take k)=dJ true*(u1*aD aA (xs.take k)-v1*aD aA (ys.take k))+aA^k*(lo+dJ true*(cR-cT)))∧
   Cells .u64 wr ga 0 zs∧Cells .u64 wr gb 0 ws∧Soft wr ga∧Soft wr gb∧Blk wr w.heap.size [.int .u64 u0,.int .u64 u1,.int .u64 v0,.int .u64 v1,.bool true]∧Below B w wr∧Hid (∀g t m,Shape w g t m→Shape wr g t m)) (fun _ _ _ _ _ _ i _=>n-(intOf i).toNat)
  case atStart=>
   refine⟨0,xs,ys,0,0,0,0,0,0,Nat.zero_le _,rfl,rfl,rfl,rfl,rfl,rfl,rfl,⟨by decide,by decide⟩,⟨by decide,by decide⟩,⟨by decide,by decide⟩,⟨by decide,by decide⟩,⟨by decide,by decide⟩,⟨by decide,by decide⟩,HXN,HYN,hX,hY,fun _ _=>rfl,fun _ _=>rfl,by simp[Hid],by simp[Hid],hx.alloc hga _,hy.alloc hgb _,sa.alloc _,sb.alloc _,Blk.new _ _ _,(Below.refl _ _).alloc hB _,fun _ _ _ h=>h.alloc _⟩
  case round=>
   obtain⟨k,zs,ws,cP,cQ,cR,cT,bo,lo,hk,rfl,rfl,rfl,rfl,rfl,rfl,rfl,bP,bQ,bR,bT,bbo,blo,hzl,hwl,hz,hw,hzr,hwr,hvz,hvw,hcz,hcw,hsz,hsw,hblk,hbel,hshp⟩:=hrel;clear hx hy sa sb;by_cases hlt:k<n
   ·have g1:=hcz k (by have:=hzl.out;omega);have g2:=hcw k (by have:=hwl.out;omega);rw[Nat.zero_add] at g1 g2;rw[hzr.out k (Nat.le_refl _)] at g1;rw[hwr.out k (Nat.le_refl _)] at g2;have f1:=hsz.free k;have f2:=hsw.free k;have c0:=hblk.cell (i:=0) rfl;have c1:=hblk.cell (i:=1) rfl;have c2:=hblk.cell (i:=2) rfl;have c3:=hblk.cell (i:=3) rfl;have c4:=hblk.cell (i:=4) rfl;have bx:=hX.getD aM k;have by_:=hY.getD aM k;have htx:=gF aA xs k (by have:=HXN.out;omega);have hty:=gF aA ys k (by have:=HYN.out;omega);generalize hxe:xs.getD k 0=x at *;generalize hye:ys.getD k 0=y at *;obtain⟨p,cP',hs1⟩:=fK (x*u0+cP);obtain⟨q,cQ',hs2⟩:=fK (y*v0+cQ);obtain⟨r,cR',hs3⟩:=fK (y*v1+cR);obtain⟨t,cT',hs4⟩:=fK (x*u1+cT);have m1:=jN bx i0 bP (z:=0) (by decide);have m2:=jN by_ i2 bQ (z:=0) (by decide);have m3:=jN by_ i3 bR (z:=0) (by decide);have m4:=jN bx i1 bT (z:=0) (by decide);have bP':=hs1.hi_bd (by omega) (m:=aA) (by omega);have bQ':=hs2.hi_bd (by omega) (m:=aA) (by omega);have bR':=hs3.hi_bd (by omega) (m:=aA) (by omega);have bT':=hs4.hi_bd (by omega) (m:=aA) (by omega);have d1:=hs1.2;have d2:=hs2.2;have d3:=hs3.2;have d4:=hs4.2
    obtain⟨d,bo',hd1⟩:=pV (t:=p) (u:=q+bo) (by omega) (by omega) (by omega) (by omega);obtain⟨e,lo',hd2⟩:=pV (t:=r) (u:=t+lo) (by omega) (by omega) (by omega) (by omega);have hstA:=sU true (p:=p) (q:=q) hs1.1 hs2.1 hd1.1 hvz.out;have hstB:=sU true (p:=r) (q:=t) hs3.1 hs4.1 hd2.1 hvw.out;have bo1:0≤bo'∧bo'≤1:=by have:=hd1.2.2.2;omega
    have lo1:0≤lo'∧lo'≤1:=by have:=hd2.2.2.2;omega
    have hdr:=hd1.2;have her:=hd2.2
    have HS1:=Lib.hid hs1;have HS2:=Lib.hid hs2;have HS3:=Lib.hid hs3;have HS4:=Lib.hid hs4
    have HD1:=Lib.hid hd1;have HD2:=Lib.hid hd2;have HA:=Lib.hid hstA;have HB2:=Lib.hid hstB
    have HTX:=Lib.hid htx;have HTY:=Lib.hid hty;have HXE:=Lib.hid hxe;have HYE:=Lib.hid hye
    have HC1:=Lib.hid hcz;have HC2:=Lib.hid hcw
    clear hs1 hs2 hs3 hs4 hd1 hd2 hstA hstB htx hty hxe hye hcz hcw m1 m2 m3 m4 hdr her;go_wp2_with fail;refine(mC x u0 cP p cP' bx i0 bP HS1.out _).mono ?_;rintro e1 w' ⟨rfl,rfl⟩;go_wp2_with fail;refine(mC y v0 cQ q cQ' by_ i2 bQ HS2.out _).mono ?_;rintro e1 w' ⟨rfl,rfl⟩;go_wp2_with fail;refine(mC y v1 cR r cR' by_ i3 bR HS3.out _).mono ?_;rintro e1 w' ⟨rfl,rfl⟩;go_wp2_with fail;refine(mC x u1 cT t cT' bx i1 bT HS4.out _).mono ?_;rintro e1 w' ⟨rfl,rfl⟩
    go_wp2_with (first
     |simp only[sR p q bo d bo' d1 d2 bbo HD1.out]
     |simp only[sR r t lo e lo' d3 d4 blo HD2.out])
    go_roundw
    case rel=>
     have hd:=HD1.out.2;have he:=HD2.out.2;refine⟨k+1,zs.set k d,ws.set k e,cP',cQ',cR',cT',bo',lo',by omega,by go_num,rfl,rfl,rfl,rfl,rfl,rfl,bP',bQ',bR',bT',bo1,lo1,?_,?_,hz.set hd.1 hd.2.1 k,hw.set he.1 he.2.1 k,?_,?_,?_,?_,?_,?_,(hsz.set _ _).set _ _,(hsw.set _ _).set _ _,(hblk.other (by omega) _).other (by omega) _,?_,fun g t m h=>((hshp.out g t m h).set _ _).set _ _⟩
     ·have:=hzl.out;simpa [Hid] using this
     ·have:=hwl.out;simpa [Hid] using this
     ·intro j hj;rw[jM _ _ _ _ (by omega)];exact hzr.out j (by omega)
     ·intro j hj;rw[jM _ _ _ _ (by omega)];exact hwr.out j (by omega)
     ·unfold Hid;rw[qB (by have:=hzl.out;omega),HTX.out,HTY.out,Int.pow_succ];exact HA.out
     ·unfold Hid;rw[qB (by have:=hwl.out;omega),HTX.out,HTY.out,Int.pow_succ];exact HB2.out
     ·have:=HC1.out.set (i:=k) (by have:=hzl.out;omega) d;rw[Nat.zero_add] at this;exact this.other (by omega) _
     ·have:=(HC2.out.other (g':=ga) (o:=k) (by omega) (.int .u64 d)).set (i:=k) (by have:=hwl.out;omega) e;rw[Nat.zero_add] at this;exact this
     ·exact(hbel.setCell (by simpa using hBa) _).setCell (by simpa using hBb) _
    case measure=>simp[intOf];omega
   ·obtain rfl:k=n:=by omega
    go_wp2;go_end0;have e1:=hvz.out;have e2:=hvw.out;have z1:=hzl.out;have z2:=hwl.out;have z3:=HXN.out;have z4:=HYN.out
    rw[List.take_of_length_le (by omega),List.take_of_length_le (by omega),List.take_of_length_le (by omega)] at e1;rw[List.take_of_length_le (by omega),List.take_of_length_le (by omega),List.take_of_length_le (by omega)] at e2;rw[←HNA.out] at e1;rw[←HNB.out] at e2;have l1:=fE aM hz;have l2:=fE aM hw;rw[z1] at l1;rw[z2] at l2;exact⟨rfl,zs,ws,z1,z2,hz,hw,sV e1 (dM aM hz) l1 (by omega) HNA1.out,sV e2 (dM aM hw) l2 (by omega) HNB1.out,hcz,hcw,hsz,hsw,hbel,hshp.out⟩
end Go.Proofs.YtbhplgdbfmifkaaGreatDoor
