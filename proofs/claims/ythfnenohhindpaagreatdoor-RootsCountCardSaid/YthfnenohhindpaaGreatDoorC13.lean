/-
  Contracts, laws: GcdA.
-/
import Derived.Test.YthfnenohhindpaaGreatDoorC08
import Derived.Test.YthfnenohhindpaaGreatDoorC10
set_option linter.all false
set_option maxHeartbeats 8000000
set_option maxRecDepth 100000
namespace Go.Proofs.YthfnenohhindpaaGreatDoor
open Go.RowKit Sos
theorem Split.uniq {t s c b c':Int} (h:Split t s c) (a:Split t b c'):s=b∧c=c':=⟨h.lo.symm.trans a.lo,h.hi.symm.trans a.hi⟩
theorem lW (x y c s k:Int) (f:0<=x∧x<aA) (g:0<=y∧y<aA) (i:0<=c∧c<aA) (h:Split (x*y+c) s k) (w:World):
  Calls Tryz.prog 227 #[.int .u64 x,.int .u64 y,.int .u64 c] w fun e w'=>e= .returned (.tuple #[.int .u64 s,.int .u64 k])∧w=w':=by
 obtain⟨L,H,a⟩:=gE (x*y);obtain⟨S,C,b⟩:=gE (L+c);have p:=a.2;have q:=b.2
 have d:Split (x*y+c) S (H+C):=⟨by have:=a.1;have:=b.1;rw[Int.mul_add];omega,q⟩;obtain⟨rfl,rfl⟩:=h.uniq d;have r:=kJ f g i (z:=0) (by decide);have j:=jO f.1 (show x<=aA-1 by omega) g.1 (show y<=aA-1 by omega)
 have t:=a.hi_bd j.1 (m:=aA) (by have e:(aA-1)*(aA-1)=aA*aA-2*aA+1:=by rfl
                                 have:(2:Int)<=aA:=by decide
                                 omega)
 have u:=b.hi_bd (by omega) (m:=2) (by omega);have l:=d.hi_bd (by omega) (m:=aA) (by omega);have D:H+C<=18446744073709551615:=by unfold aA at l;omega
 have n:=aB a;have o:=aB b;clear a b d h r j;obtain⟨v,_⟩:=t;obtain⟨A,_⟩:=u;obtain⟨B,_⟩:=l;go_enter Tryz.func227,Tryz.ntmps227
 go_wp2_with (first
  |(go_at_call 216;refine(lV x y L H f g n.out _).mono ?_;rintro e w' ⟨rfl,rfl⟩)
  |simp only[oT L c s C p i o.out])
 go_ret2;exact⟨rfl,rfl⟩
def eN (a:Bool):Int:=if a then -1 else 1
theorem sR (a:Bool) {x y p q c f e g u v h i d P Z X Y:Int} (n:p+aA*e=x*u+c) (o:q+aA*g=y*v+f) (l:d=(if a then p else q)-((if a then q else p)+h)+aA*i)
  (m:Z=eN a*(v*Y-u*X)+P*(h+eN a*(c-f))):Z+P*d=eN a*(v*(Y+P*y)-u*(X+P*x))+P*aA*(i+eN a*(e-g)):=by
 have j:p=x*u+c-aA*e:=by omega
 have k:q=y*v+f-aA*g:=by omega
 rw[m,l,j,k];generalize aA=b;cases a<;>simp[eN]<;>grind
theorem sS {Z t m P:Int} (h:Z=t+P*m) (b:0<=Z) (c:Z<P) (d:0<=t) (e:t<P):Z=t:=by
 have f:0<P:=by omega
 rcases Int.lt_trichotomy m 0 with a|a|a
 ·have:P*m<=P*(-1):=eZ (by omega) (by omega);omega
 ·subst a;omega
 ·have:P*1<=P*m:=eZ (by omega) (by omega);omega
theorem qI {zs:List Int} {k:Nat} {d:Int} (a:k<zs.length):aF aA ((zs.set k d).take (k+1))=aF aA (zs.take k)+aA^k*d:=by
 rw[gY _ _ _ (by simpa using a),List.take_set_of_le aE];simp[List.getElem?_set_self a]
theorem Cells.other {k:IntKind} {w:World} {g off:Nat} {zs:List Int} (h:Cells k w g off zs) {g' o:Nat} (a:g'≠g) (v:Value):Cells k (w.setCell ⟨g',o,none⟩ v) g off zs:=h.far (.inl a) v
def Blk (w:World) (g:Nat) (cs:List Value):Prop:=∃t,w.heap[g]? =some (.cells cs.toArray t (0,0))
theorem Blk.cell {w:World} {g:Nat} {cs:List Value} (h:Blk w g cs) {i:Nat} {v:Value} (hv:cs[i]? =some v):w.cell? ⟨g,i,none⟩=some v:=by
 obtain⟨t,h⟩:=h;rw[cell_of_row w g i _ _ _ h];simpa using hv
theorem Blk.keep {w w':World} {g:Nat} {cs:List Value} (h:Blk w g cs) (a:w'.heap[g]? =w.heap[g]?):Blk w' g cs:=by
 obtain⟨t,h⟩:=h;exact⟨t,a.trans h⟩
theorem Blk.other {w:World} {g:Nat} {cs:List Value} (h:Blk w g cs) {g' o:Nat} {s:Option Nat} (a:g'≠g) (v:Value):Blk (w.setCell ⟨g',o,s⟩ v) g cs:=
 h.keep (Below.heap_setCell w ⟨g',o,s⟩ v g (fun e=>a e.symm))
theorem Blk.new (w:World) (cs:List Value) (t:TypeId):Blk (w.alloc (.cells cs.toArray t)) w.heap.size cs:=⟨t,heap_alloc_new w _⟩
theorem CN (B D H:Nat) (xs ys:List Int) (ca cb n:Nat) (u0 u1 F G:Nat) (a0:Bool) (na nb:Nat) (w:World) (b0:xs.length=n) (b1:ys.length=n)
  (hx:Cells .u64 w D 0 xs) (hy:Cells .u64 w H 0 ys) (sa:Soft w D) (sb:Soft w H) (cc:D≠H) (hb:n*8<=281474976710656) (hX:InR aA xs) (hY:InR aA ys)
  (b6:u0<BN) (b7:u1<BN) (b8:F<BN) (b9:G<BN) (bu:(na:Int)=eN a0*((F:Int)*aF aA ys-u0*aF aA xs)) (bw:(nb:Int)=eN a0*((u1:Int)*aF aA xs-G*aF aA ys))
  (bv:(na:Int)<aA^n) (bz:(nb:Int)<aA^n) (hB:B<=w.heap.size) (bq:B<=D) (br:B<=H):
  Calls Tryz.prog 208 #[.agg #[.int .u64 u0,.int .u64 u1,.int .u64 F,.int .u64 G,.bool a0],.slice (some ⟨D,0,none⟩) n ca,.slice (some ⟨H,0,none⟩) n cb] w fun e w'=>e= .returned (.tuple #[])∧
   ∃zs a,zs.length=n∧a.length=n∧InR aA zs∧InR aA a∧aF aA zs=na∧aF aA a=nb∧Cells .u64 w' D 0 zs∧Cells .u64 w' H 0 a∧Soft w' D∧Soft w' H∧Below B w w'∧(∀g t m,Shape w g t m->Shape w' g t m):=by
 have ac:=aB b0;have ad:=aB b1;have bk:=aB bu;have bn:=aB bw;have bm:=aB bv;have bp:=aB bz;have bs:=sa.lt;have bt:=sb.lt;have b4:=iO;have i0:0<=(u0:Int)∧(u0:Int)<aA:=⟨by omega,by omega⟩;have i1:0<=(u1:Int)∧(u1:Int)<aA:=⟨by omega,by omega⟩;have i2:0<=(F:Int)∧(F:Int)<aA:=⟨by omega,by omega⟩;have i3:0<=(G:Int)∧(G:Int)<aA:=⟨by omega,by omega⟩;clear b0 b1 bu bw bv bz b4 b6 b7 b8 b9;cases a0
 ·go_enter Tryz.func208,Tryz.ntmps208;go_wp2
  go_loopw [6,7,8,9,10,11,21] (fun p q r t d l i wr=>∃(k:Nat) (zs a:List Int) (c f s v b C:Int),k<=n∧i= .int .i64 k∧p= .int .u64 c∧q= .int .u64 f∧r= .int .u64 s∧t= .int .u64 v∧d= .int .u64 b∧l= .int .u64 C∧
   (0<=c∧c<aA)∧(0<=f∧f<aA)∧(0<=s∧s<aA)∧(0<=v∧v<aA)∧(0<=b∧b<=1)∧(0<=C∧C<=1)∧Hid (zs.length=n)∧Hid (a.length=n)∧InR aA zs∧InR aA a∧
   Hid (∀j,k<=j->zs.getD j 0=xs.getD j 0)∧Hid (∀j,k<=j->a.getD j 0=ys.getD j 0)∧
   Hid (aF aA (zs.take k)=eN false*(F*aF aA (ys.take k)-u0*aF aA (xs.take k))+aA^k*(b+eN false*(c-f)))∧
   Hid (aF aA (a.take k)=eN false*(u1*aF aA (xs.take k)-G*aF aA (ys.take k))+aA^k*(C+eN false*(s-v)))∧
   Cells .u64 wr D 0 zs∧Cells .u64 wr H 0 a∧Soft wr D∧Soft wr H∧Blk wr w.heap.size [.int .u64 u0,.int .u64 u1,.int .u64 F,.int .u64 G,.bool false]∧Below B w wr∧Hid (∀g t m,Shape w g t m->Shape wr g t m)) (fun _ _ _ _ _ _ i _=>n-(intOf i).toNat)
  case atStart=>
   refine⟨0,xs,ys,0,0,0,0,0,0,Nat.zero_le _,rfl,rfl,rfl,rfl,rfl,rfl,rfl,⟨by decide,by decide⟩,⟨by decide,by decide⟩,⟨by decide,by decide⟩,⟨by decide,by decide⟩,⟨by decide,by decide⟩,⟨by decide,by decide⟩,ac,ad,hX,hY,fun _ _=>rfl,fun _ _=>rfl,by simp[Hid],by simp[Hid],hx.alloc bs _,hy.alloc bt _,sa.alloc _,sb.alloc _,Blk.new _ _ _,(aH _ _).alloc hB _,fun _ _ _ h=>h.alloc _⟩
  case round=>
   obtain⟨k,zs,a,c,f,s,v,b,C,hk,rfl,rfl,rfl,rfl,rfl,rfl,rfl,bP,bQ,bR,bT,bc,bf,P,O,W,V,az,aw,av,au,U,T,ab,Z,E,am,an⟩:=hrel;clear hx hy sa sb;by_cases b5:k<n
   ·have g1:=U k (by have:=P.out;omega);have g2:=T k (by have:=O.out;omega);rw[aS] at g1 g2;rw[az.out k aE] at g1;rw[aw.out k aE] at g2;have f1:=ab.free k;have f2:=Z.free k;have c0:=E.cell (i:=0) rfl;have c1:=E.cell (i:=1) rfl;have c2:=E.cell (i:=2) rfl;have c3:=E.cell (i:=3) rfl;have c4:=E.cell (i:=4) rfl;have R:=hX.getD aP k;have S:=hY.getD aP k;have aq:=gY aA xs k (by have:=ac.out;omega);have ar:=gY aA ys k (by have:=ad.out;omega);generalize ax:xs.getD k 0=x at *;generalize ay:ys.getD k 0=y at *;obtain⟨p,ai,K⟩:=gE (x*u0+c);obtain⟨q,aj,L⟩:=gE (y*F+f);obtain⟨r,ak,M⟩:=gE (y*G+s);obtain⟨t,al,N⟩:=gE (x*u1+v);have m1:=kJ R i0 bP (z:=0) (by decide);have m2:=kJ S i2 bQ (z:=0) (by decide);have m3:=kJ S i3 bR (z:=0) (by decide);have m4:=kJ R i1 bT (z:=0) (by decide);have a8:=K.hi_bd (by omega) (m:=aA) (by omega);have a9:=L.hi_bd (by omega) (m:=aA) (by omega);have ba:=M.hi_bd (by omega) (m:=aA) (by omega);have bb:=N.hi_bd (by omega) (m:=aA) (by omega);have d1:=K.2;have d2:=L.2;have d3:=M.2;have d4:=N.2
    obtain⟨d,Q,I⟩:=qD (t:=q) (u:=p+b) (by omega) (by omega) (by omega) (by omega);obtain⟨e,X,J⟩:=qD (t:=t) (u:=r+C) (by omega) (by omega) (by omega) (by omega);have ao:=sR false (p:=p) (q:=q) K.1 L.1 I.1 av.out;have ap:=sR false (p:=r) (q:=t) M.1 N.1 J.1 au.out;have bg:0<=Q∧Q<=1:=by have:=I.2.2.2;omega
    have bj:0<=X∧X<=1:=by have:=J.2.2.2;omega
    have bh:=I.2;have bi:=J.2
    have a4:=aB K;have a5:=aB L;have a6:=aB M;have a7:=aB N
    have ae:=aB I;have af:=aB J;have HA:=aB ao;have a1:=aB ap
    have ag:=aB aq;have ah:=aB ar;have b2:=aB ax;have b3:=aB ay
    have a2:=aB U;have a3:=aB T
    clear K L M N I J ao ap aq ar ax ay U T m1 m2 m3 m4 bh bi;go_wp2_with fail;refine(lW x u0 c p ai R i0 bP a4.out _).mono ?_;rintro A w' ⟨rfl,rfl⟩;go_wp2_with fail;refine(lW y F f q aj S i2 bQ a5.out _).mono ?_;rintro A w' ⟨rfl,rfl⟩;go_wp2_with fail;refine(lW y G s r ak S i3 bR a6.out _).mono ?_;rintro A w' ⟨rfl,rfl⟩;go_wp2_with fail;refine(lW x u1 v t al R i1 bT a7.out _).mono ?_;rintro A w' ⟨rfl,rfl⟩
    go_wp2_with (first
     |simp only[sP q p b d Q d2 d1 bc ae.out]
     |simp only[sP t r C e X d4 d3 bf af.out])
    go_roundw
    case rel=>
     have hd:=ae.out.2;have he:=af.out.2;refine⟨k+1,zs.set k d,a.set k e,ai,aj,ak,al,Q,X,by omega,by go_num,rfl,rfl,rfl,rfl,rfl,rfl,a8,a9,ba,bb,bg,bj,?_,?_,W.set hd.1 hd.2.1 k,V.set he.1 he.2.1 k,?_,?_,?_,?_,?_,?_,(ab.set _ _).set _ _,(Z.set _ _).set _ _,(E.other (by omega) _).other (by omega) _,?_,fun g t m h=>((an.out g t m h).set _ _).set _ _⟩
     ·have:=P.out;simpa [Hid] using this
     ·have:=O.out;simpa [Hid] using this
     ·intro j hj;rw[kI _ _ _ _ (by omega)];exact az.out j (by omega)
     ·intro j hj;rw[kI _ _ _ _ (by omega)];exact aw.out j (by omega)
     ·unfold Hid;rw[qI (by have:=P.out;omega),ag.out,ah.out,Int.pow_succ];exact HA.out
     ·unfold Hid;rw[qI (by have:=O.out;omega),ag.out,ah.out,Int.pow_succ];exact a1.out
     ·have:=a2.out.set (i:=k) (by have:=P.out;omega) d;rw[aS] at this;exact this.other (by omega) _
     ·have:=(a3.out.other (g':=D) (o:=k) (by omega) (.int .u64 d)).set (i:=k) (by have:=O.out;omega) e;rw[aS] at this;exact this
     ·exact(am.setCell (by simpa using bq) _).setCell (by simpa using br) _
    case measure=>simp[intOf];omega
   ·obtain rfl:k=n:=by omega
    go_wp2;go_end0;have A:=av.out;have Y:=au.out;have z1:=P.out;have z2:=O.out;have z3:=ac.out;have z4:=ad.out
    rw[cA (by omega),cA (by omega),cA (by omega)] at A;rw[cA (by omega),cA (by omega),cA (by omega)] at Y;rw[<-bk.out] at A;rw[<-bn.out] at Y;have l1:=fZ aP W;have l2:=fZ aP V;rw[z1] at l1;rw[z2] at l2;exact⟨rfl,zs,a,z1,z2,W,V,sS A (eQ aP W) l1 (by omega) bm.out,sS Y (eQ aP V) l2 (by omega) bp.out,U,T,ab,Z,am,an.out⟩
 ·go_enter Tryz.func208,Tryz.ntmps208;go_wp2
  go_loopw [6,7,8,9,10,11,21] (fun p q r t d l i wr=>∃(k:Nat) (zs a:List Int) (c f s v b C:Int),k<=n∧i= .int .i64 k∧p= .int .u64 c∧q= .int .u64 f∧r= .int .u64 s∧t= .int .u64 v∧d= .int .u64 b∧l= .int .u64 C∧
   (0<=c∧c<aA)∧(0<=f∧f<aA)∧(0<=s∧s<aA)∧(0<=v∧v<aA)∧(0<=b∧b<=1)∧(0<=C∧C<=1)∧Hid (zs.length=n)∧Hid (a.length=n)∧InR aA zs∧InR aA a∧
   Hid (∀j,k<=j->zs.getD j 0=xs.getD j 0)∧Hid (∀j,k<=j->a.getD j 0=ys.getD j 0)∧
   Hid (aF aA (zs.take k)=eN true*(F*aF aA (ys.take k)-u0*aF aA (xs.take k))+aA^k*(b+eN true*(c-f)))∧
   Hid (aF aA (a.take k)=eN true*(u1*aF aA (xs.take k)-G*aF aA (ys.take k))+aA^k*(C+eN true*(s-v)))∧
   Cells .u64 wr D 0 zs∧Cells .u64 wr H 0 a∧Soft wr D∧Soft wr H∧Blk wr w.heap.size [.int .u64 u0,.int .u64 u1,.int .u64 F,.int .u64 G,.bool true]∧Below B w wr∧Hid (∀g t m,Shape w g t m->Shape wr g t m)) (fun _ _ _ _ _ _ i _=>n-(intOf i).toNat)
  case atStart=>
   refine⟨0,xs,ys,0,0,0,0,0,0,Nat.zero_le _,rfl,rfl,rfl,rfl,rfl,rfl,rfl,⟨by decide,by decide⟩,⟨by decide,by decide⟩,⟨by decide,by decide⟩,⟨by decide,by decide⟩,⟨by decide,by decide⟩,⟨by decide,by decide⟩,ac,ad,hX,hY,fun _ _=>rfl,fun _ _=>rfl,by simp[Hid],by simp[Hid],hx.alloc bs _,hy.alloc bt _,sa.alloc _,sb.alloc _,Blk.new _ _ _,(aH _ _).alloc hB _,fun _ _ _ h=>h.alloc _⟩
  case round=>
   obtain⟨k,zs,a,c,f,s,v,b,C,hk,rfl,rfl,rfl,rfl,rfl,rfl,rfl,bP,bQ,bR,bT,bc,bf,P,O,W,V,az,aw,av,au,U,T,ab,Z,E,am,an⟩:=hrel;clear hx hy sa sb;by_cases b5:k<n
   ·have g1:=U k (by have:=P.out;omega);have g2:=T k (by have:=O.out;omega);rw[aS] at g1 g2;rw[az.out k aE] at g1;rw[aw.out k aE] at g2;have f1:=ab.free k;have f2:=Z.free k;have c0:=E.cell (i:=0) rfl;have c1:=E.cell (i:=1) rfl;have c2:=E.cell (i:=2) rfl;have c3:=E.cell (i:=3) rfl;have c4:=E.cell (i:=4) rfl;have R:=hX.getD aP k;have S:=hY.getD aP k;have aq:=gY aA xs k (by have:=ac.out;omega);have ar:=gY aA ys k (by have:=ad.out;omega);generalize ax:xs.getD k 0=x at *;generalize ay:ys.getD k 0=y at *;obtain⟨p,ai,K⟩:=gE (x*u0+c);obtain⟨q,aj,L⟩:=gE (y*F+f);obtain⟨r,ak,M⟩:=gE (y*G+s);obtain⟨t,al,N⟩:=gE (x*u1+v);have m1:=kJ R i0 bP (z:=0) (by decide);have m2:=kJ S i2 bQ (z:=0) (by decide);have m3:=kJ S i3 bR (z:=0) (by decide);have m4:=kJ R i1 bT (z:=0) (by decide);have a8:=K.hi_bd (by omega) (m:=aA) (by omega);have a9:=L.hi_bd (by omega) (m:=aA) (by omega);have ba:=M.hi_bd (by omega) (m:=aA) (by omega);have bb:=N.hi_bd (by omega) (m:=aA) (by omega);have d1:=K.2;have d2:=L.2;have d3:=M.2;have d4:=N.2
    obtain⟨d,Q,I⟩:=qD (t:=p) (u:=q+b) (by omega) (by omega) (by omega) (by omega);obtain⟨e,X,J⟩:=qD (t:=r) (u:=t+C) (by omega) (by omega) (by omega) (by omega);have ao:=sR true (p:=p) (q:=q) K.1 L.1 I.1 av.out;have ap:=sR true (p:=r) (q:=t) M.1 N.1 J.1 au.out;have bg:0<=Q∧Q<=1:=by have:=I.2.2.2;omega
    have bj:0<=X∧X<=1:=by have:=J.2.2.2;omega
    have bh:=I.2;have bi:=J.2
    have a4:=aB K;have a5:=aB L;have a6:=aB M;have a7:=aB N
    have ae:=aB I;have af:=aB J;have HA:=aB ao;have a1:=aB ap
    have ag:=aB aq;have ah:=aB ar;have b2:=aB ax;have b3:=aB ay
    have a2:=aB U;have a3:=aB T
    clear K L M N I J ao ap aq ar ax ay U T m1 m2 m3 m4 bh bi;go_wp2_with fail;refine(lW x u0 c p ai R i0 bP a4.out _).mono ?_;rintro A w' ⟨rfl,rfl⟩;go_wp2_with fail;refine(lW y F f q aj S i2 bQ a5.out _).mono ?_;rintro A w' ⟨rfl,rfl⟩;go_wp2_with fail;refine(lW y G s r ak S i3 bR a6.out _).mono ?_;rintro A w' ⟨rfl,rfl⟩;go_wp2_with fail;refine(lW x u1 v t al R i1 bT a7.out _).mono ?_;rintro A w' ⟨rfl,rfl⟩
    go_wp2_with (first
     |simp only[sP p q b d Q d1 d2 bc ae.out]
     |simp only[sP r t C e X d3 d4 bf af.out])
    go_roundw
    case rel=>
     have hd:=ae.out.2;have he:=af.out.2;refine⟨k+1,zs.set k d,a.set k e,ai,aj,ak,al,Q,X,by omega,by go_num,rfl,rfl,rfl,rfl,rfl,rfl,a8,a9,ba,bb,bg,bj,?_,?_,W.set hd.1 hd.2.1 k,V.set he.1 he.2.1 k,?_,?_,?_,?_,?_,?_,(ab.set _ _).set _ _,(Z.set _ _).set _ _,(E.other (by omega) _).other (by omega) _,?_,fun g t m h=>((an.out g t m h).set _ _).set _ _⟩
     ·have:=P.out;simpa [Hid] using this
     ·have:=O.out;simpa [Hid] using this
     ·intro j hj;rw[kI _ _ _ _ (by omega)];exact az.out j (by omega)
     ·intro j hj;rw[kI _ _ _ _ (by omega)];exact aw.out j (by omega)
     ·unfold Hid;rw[qI (by have:=P.out;omega),ag.out,ah.out,Int.pow_succ];exact HA.out
     ·unfold Hid;rw[qI (by have:=O.out;omega),ag.out,ah.out,Int.pow_succ];exact a1.out
     ·have:=a2.out.set (i:=k) (by have:=P.out;omega) d;rw[aS] at this;exact this.other (by omega) _
     ·have:=(a3.out.other (g':=D) (o:=k) (by omega) (.int .u64 d)).set (i:=k) (by have:=O.out;omega) e;rw[aS] at this;exact this
     ·exact(am.setCell (by simpa using bq) _).setCell (by simpa using br) _
    case measure=>simp[intOf];omega
   ·obtain rfl:k=n:=by omega
    go_wp2;go_end0;have A:=av.out;have Y:=au.out;have z1:=P.out;have z2:=O.out;have z3:=ac.out;have z4:=ad.out
    rw[cA (by omega),cA (by omega),cA (by omega)] at A;rw[cA (by omega),cA (by omega),cA (by omega)] at Y;rw[<-bk.out] at A;rw[<-bn.out] at Y;have l1:=fZ aP W;have l2:=fZ aP V;rw[z1] at l1;rw[z2] at l2;exact⟨rfl,zs,a,z1,z2,W,V,sS A (eQ aP W) l1 (by omega) bm.out,sS Y (eQ aP V) l2 (by omega) bp.out,U,T,ab,Z,am,an.out⟩
