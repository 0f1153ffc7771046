/- Laws. -/
import Derived.Test.YtmiaanioldpfgaaGreatDoorX03
import Derived.Deep.CutBlock
set_option linter.all false
set_option maxHeartbeats 8000000
set_option maxRecDepth 99999
namespace Go.Proofs.YtmiaanioldpfgaaGreatDoor
open Go.RowKit Sos Tryz
variable{B D R X Y Z a b c d e m q r r' t zv:Int}{g g' i j k n o s sh x y:Nat}{v:Value}{L ts xs zs:List Int}{W w w':World}{cs:List Value}
def Split.uniq{s c':Int}(h:Split t s c)(a:Split t b c'):s=b∧c=c':=⟨h.lo.symm.trans a.lo,h.hi.symm.trans a.hi⟩
def oH(x y c s k:Int)(f:0<=x∧x<aA)(g:0<=y∧y<aA)(i:0<=c∧c<aA)(h:Split (x*y+c) s k)(w:World):
  Calls prog 193 #[.int .u64 x,.int .u64 y,.int .u64 c] w fun e w'=>e= .returned (.tuple #[.int .u64 s,.int .u64 k])∧w=w':=by
 obtain⟨L,H,a⟩:=iT (x*y);obtain⟨S,C,b⟩:=iT (L+c);have p:=a.2;have q:=b.2
 have d:Split (x*y+c) S (H+C):=⟨by have:=a.1;have:=b.1;rw[bx6];omega,q⟩;obtain⟨rfl,rfl⟩:=h.uniq d;have r:=I7 f g i (z:=0) (by decide);have j:=mM f.1 (show x<=aA-1 by omega) g.1 (show y<=aA-1 by omega)
 have t:=a.hi_bd j.1 (m:=aA) (by have e:(aA-1)*(aA-1)=aA*aA-2*aA+1:=by rfl
                                 have:(2:Int)<=aA:=by decide
                                 omega)
 have u:=b.hi_bd (by omega) (m:=2) (by omega);have l:=d.hi_bd (by omega) (m:=aA) (by omega);have D:H+C<=18446744073709551615:=by unfold aA at l;omega
 have n:=aB a;have o:=aB b;clear a b d h r j;obtain⟨v,_⟩:=t;obtain⟨A,_⟩:=u;obtain⟨B,_⟩:=l;go_enter func193,ntmps193
 go_wp2_with (first
  |(go_at_call 90;refine(oG x y L H f g n.out _).mono ?_;rintro e w' ⟨rfl,rfl⟩)
  |simp only[rO L c s C p i o.out])
 go_ret2;exact⟨rfl,rfl⟩
def gD(a:Bool):Int:=if a then -1 else 1
def wF(a:Bool){x y p f g u v h i P:Int}(n:p+aA*e=x*u+c)(o:q+aA*g=y*v+f)(l:d=(if a then p else q)-((if a then q else p)+h)+aA*i)
  (m:Z=gD a*(v*Y-u*X)+P*(h+gD a*(c-f))):Z+P*d=gD a*(v*(Y+P*y)-u*(X+P*x))+P*aA*(i+gD a*(e-g)):=by
 have j:p=x*u+c-aA*e:=by omega
 have k:q=y*v+f-aA*g:=by omega
 rw[m,l,j,k];generalize aA=b;cases a<;>simp[gD]<;>grind
def wG{P:Int}(h:Z=t+P*m)(b:0<=Z)(c:Z<P)(d:0<=t)(e:t<P):Z=t:=by
 have f:0<P:=by omega
 rcases aqL m 0 with a|a|a
 ·have:P*m<=P*(-1):=gK (by omega) (by omega);omega
 ·subst a;omega
 ·have:P*1<=P*m:=gK (by omega) (by omega);omega
def t8(a:k<zs.length):aF aA ((zs.set k d).take (k+1))=aF aA (zs.take k)+aA^k*d:=by
 rw[jV _ _ _ (by simpa using a),List.take_set_of_le aE];simp[gP a]
def Cells.other{k:IntKind}{off:Nat}(h:Cells k w g off zs)(a:g'≠g)(v:Value):Cells k (w.setCell ⟨g',o,none⟩ v) g off zs:=h.far (.inl a) v
def Blk(w:World)(g:Nat)(cs:List Value):Prop:=∃t,w.heap[g]? =some (.cells cs.toArray t (0,0))
def Blk.cell(h:Blk w g cs)(hv:cs[i]? =some v):w.cell? ⟨g,i,none⟩=some v:=by
 obtain⟨t,h⟩:=h;rw[cell_of_row w g i _ _ _ h];simpa using hv
def Blk.ke(h:Blk w g cs)(a:w'.heap[g]? =w.heap[g]?):Blk w' g cs:=by
 obtain⟨t,h⟩:=h;exact⟨t,a.trans h⟩
def Blk.other(h:Blk w g cs){s:Option Nat}(a:g'≠g)(v:Value):Blk (w.setCell ⟨g',o,s⟩ v) g cs:=
 h.ke (Below.heap_setCell w ⟨g',o,s⟩ v g (fun e=>a e.symm))
def Blk.new(w:World)(cs:List Value)(t:TypeId):Blk (w.alloc (.cells cs.toArray t)) w.1.size cs:=⟨t,heap_alloc_new w _⟩
def GG(B D H:Nat)(xs ys:List Int)(ca cb n:Nat)(u0 u1 F G:Nat)(a0:Bool)(na nb:Nat)(w:World)(b0:xs.length=n)(b1:ys.length=n)
  (hx:Cells .u64 w D 0 xs)(hy:Cells .u64 w H 0 ys)(sa:Soft w D)(sb:Soft w H)(cc:D≠H)(hb:n*8<=281474976710656)(hX:InR aA xs)(hY:InR aA ys)
  (b6:u0<BN)(b7:u1<BN)(b8:F<BN)(b9:G<BN)(bu:(na:Int)=gD a0*((F:Int)*aF aA ys-u0*aF aA xs))(bw:(nb:Int)=gD a0*((u1:Int)*aF aA xs-G*aF aA ys))
  (bv:(na:Int)<aA^n)(bz:(nb:Int)<aA^n)(hB:B<=w.1.size)(bq:B<=D)(br:B<=H):
  Calls prog 165 #[.agg #[.int .u64 u0,.int .u64 u1,.int .u64 F,.int .u64 G,.bool a0],.slice (some ⟨D,0,none⟩) n ca,.slice (some ⟨H,0,none⟩) n cb] w fun e w'=>e= .returned (.tuple #[])∧
   ∃zs a,zs.length=n∧a.length=n∧InR aA zs∧InR aA a∧aF aA zs=na∧aF aA a=nb∧Cells .u64 w' D 0 zs∧Cells .u64 w' H 0 a∧Soft w' D∧Soft w' H∧Below B w w'∧(∀g t m,Shape w g t m->Shape w' g t m):=by
 have ac:=aB b0;have ad:=aB b1;have bk:=aB bu;have bn:=aB bw;have bm:=aB bv;have bp:=aB bz;have bs:=sa.lt;have bt:=sb.lt;have b4:=kU;have i0:0<=(u0:Int)∧(u0:Int)<aA:=⟨by omega,by omega⟩;have i1:0<=(u1:Int)∧(u1:Int)<aA:=⟨by omega,by omega⟩;have i2:0<=(F:Int)∧(F:Int)<aA:=⟨by omega,by omega⟩;have i3:0<=(G:Int)∧(G:Int)<aA:=⟨by omega,by omega⟩;clear b0 b1 bu bw bv bz b4 b6 b7 b8 b9;cases a0
 ·go_enter func165,ntmps165;go_wp2
  go_loopw [6,7,8,9,10,11,21] (fun p q r t d l i wr=>∃(k:Nat) (zs a:List Int) (c f s v b C:Int),k<=n∧i= .int .i64 k∧p= .int .u64 c∧q= .int .u64 f∧r= .int .u64 s∧t= .int .u64 v∧d= .int .u64 b∧l= .int .u64 C∧
   (0<=c∧c<aA)∧(0<=f∧f<aA)∧(0<=s∧s<aA)∧(0<=v∧v<aA)∧(0<=b∧b<=1)∧(0<=C∧C<=1)∧Hid (zs.length=n)∧Hid (a.length=n)∧InR aA zs∧InR aA a∧
   Hid (∀j,k<=j->zs.getD j 0=xs.getD j 0)∧Hid (∀j,k<=j->a.getD j 0=ys.getD j 0)∧
   Hid (aF aA (zs.take k)=gD false*(F*aF aA (ys.take k)-u0*aF aA (xs.take k))+aA^k*(b+gD false*(c-f)))∧
   Hid (aF aA (a.take k)=gD false*(u1*aF aA (xs.take k)-G*aF aA (ys.take k))+aA^k*(C+gD false*(s-v)))∧
   Cells .u64 wr D 0 zs∧Cells .u64 wr H 0 a∧Soft wr D∧Soft wr H∧Blk wr w.1.size [.int .u64 u0,.int .u64 u1,.int .u64 F,.int .u64 G,.bool false]∧Below B w wr∧Hid (∀g t m,Shape w g t m->Shape wr g t m)) (fun _ _ _ _ _ _ i _=>n-(intOf i).toNat)
  case atStart=>
   refine⟨0,xs,ys,0,0,0,0,0,0,dC _,rfl,rfl,rfl,rfl,rfl,rfl,rfl,⟨by decide,by decide⟩,⟨by decide,by decide⟩,⟨by decide,by decide⟩,⟨by decide,by decide⟩,⟨by decide,by decide⟩,⟨by decide,by decide⟩,ac,ad,hX,hY,fun _ _=>rfl,fun _ _=>rfl,by simp[Hid],by simp[Hid],hx.alloc bs _,hy.alloc bt _,sa.alloc _,sb.alloc _,Blk.new _ _ _,(aG _ _).alloc hB _,fun _ _ _ h=>h.alloc _⟩
  case round=>
   obtain⟨k,zs,a,c,f,s,v,b,C,hk,rfl,rfl,rfl,rfl,rfl,rfl,rfl,bP,bQ,bR,bT,bc,bf,P,O,W,V,az,aw,av,au,U,T,ab,Z,E,am,an⟩:=hrel;clear hx hy sa sb;by_cases b5:k<n
   ·have g1:=U k (by have:=P.out;omega);have g2:=T k (by have:=O.out;omega);rw[bA] at g1 g2;rw[az.out k aE] at g1;rw[aw.out k aE] at g2;have f1:=ab.free k;have f2:=Z.free k;have c0:=E.cell (i:=0) rfl;have c1:=E.cell (i:=1) rfl;have c2:=E.cell (i:=2) rfl;have c3:=E.cell (i:=3) rfl;have c4:=E.cell (i:=4) rfl;have R:=hX.getD aQ k;have S:=hY.getD aQ k;have aq:=jV aA xs k (by have:=ac.out;omega);have ar:=jV aA ys k (by have:=ad.out;omega);generalize ax:xs.getD k 0=x at *;generalize ay:ys.getD k 0=y at *;obtain⟨p,ai,K⟩:=iT (x*u0+c);obtain⟨q,aj,L⟩:=iT (y*F+f);obtain⟨r,ak,M⟩:=iT (y*G+s);obtain⟨t,al,N⟩:=iT (x*u1+v);have m1:=I7 R i0 bP (z:=0) (by decide);have m2:=I7 S i2 bQ (z:=0) (by decide);have m3:=I7 S i3 bR (z:=0) (by decide);have m4:=I7 R i1 bT (z:=0) (by decide);have a8:=K.hi_bd (by omega) (m:=aA) (by omega);have a9:=L.hi_bd (by omega) (m:=aA) (by omega);have ba:=M.hi_bd (by omega) (m:=aA) (by omega);have bb:=N.hi_bd (by omega) (m:=aA) (by omega);have d1:=K.2;have d2:=L.2;have d3:=M.2;have d4:=N.2
    obtain⟨d,Q,I⟩:=sV (t:=q) (u:=p+b) (by omega) (by omega) (by omega) (by omega);obtain⟨e,X,J⟩:=sV (t:=t) (u:=r+C) (by omega) (by omega) (by omega) (by omega);have ao:=wF false (p:=p) (q:=q) K.1 L.1 I.1 av.out;have ap:=wF false (p:=r) (q:=t) M.1 N.1 J.1 au.out;have bg:0<=Q∧Q<=1:=by have:=I.2.2.2;omega
    have bj:0<=X∧X<=1:=by have:=J.2.2.2;omega
    have bh:=I.2;have bi:=J.2
    have a4:=aB K;have a5:=aB L;have a6:=aB M;have a7:=aB N
    have ae:=aB I;have af:=aB J;have HA:=aB ao;have a1:=aB ap
    have ag:=aB aq;have ah:=aB ar;have b2:=aB ax;have b3:=aB ay
    have a2:=aB U;have a3:=aB T
    clear K L M N I J ao ap aq ar ax ay U T m1 m2 m3 m4 bh bi;go_wp2_with fail;refine(oH x u0 c p ai R i0 bP a4.out _).mono ?_;rintro A w' ⟨rfl,rfl⟩;go_wp2_with fail;refine(oH y F f q aj S i2 bQ a5.out _).mono ?_;rintro A w' ⟨rfl,rfl⟩;go_wp2_with fail;refine(oH y G s r ak S i3 bR a6.out _).mono ?_;rintro A w' ⟨rfl,rfl⟩;go_wp2_with fail;refine(oH x u1 v t al R i1 bT a7.out _).mono ?_;rintro A w' ⟨rfl,rfl⟩
    go_wp2_with (first
     |simp only[eqC q p b d Q d2 d1 bc ae.out]
     |simp only[eqC t r C e X d4 d3 bf af.out])
    go_roundw
    case rel=>
     have hd:=ae.out.2;have he:=af.out.2;refine⟨k+1,zs.set k d,a.set k e,ai,aj,ak,al,Q,X,by omega,by go_num,rfl,rfl,rfl,rfl,rfl,rfl,a8,a9,ba,bb,bg,bj,?_,?_,W.set hd.1 hd.2.1 k,V.set he.1 he.2.1 k,?_,?_,?_,?_,?_,?_,(ab.set _ _).set _ _,(Z.set _ _).set _ _,(E.other (by omega) _).other (by omega) _,?_,fun g t m h=>((an.out g t m h).set _ _).set _ _⟩
     ·have:=P.out;simpa [Hid] using this
     ·have:=O.out;simpa [Hid] using this
     ·intro j hj;rw[n8 _ _ _ _ (by omega)];exact az.out j (by omega)
     ·intro j hj;rw[n8 _ _ _ _ (by omega)];exact aw.out j (by omega)
     ·unfold Hid;rw[t8 (by have:=P.out;omega),ag.out,ah.out,gR];exact HA.out
     ·unfold Hid;rw[t8 (by have:=O.out;omega),ag.out,ah.out,gR];exact a1.out
     ·have:=a2.out.set (i:=k) (by have:=P.out;omega) d;rw[bA] at this;exact this.other (by omega) _
     ·have:=(a3.out.other (g':=D) (o:=k) (by omega) (.int .u64 d)).set (i:=k) (by have:=O.out;omega) e;rw[bA] at this;exact this
     ·exact(am.setCell (by simpa using bq) _).setCell (by simpa using br) _
    case measure=>simp[intOf];omega
   ·obtain rfl:k=n:=by omega
    go_wp2;go_end0;have A:=av.out;have Y:=au.out;have z1:=P.out;have z2:=O.out;have z3:=ac.out;have z4:=ad.out
    rw[cZ (by omega),cZ (by omega),cZ (by omega)] at A;rw[cZ (by omega),cZ (by omega),cZ (by omega)] at Y;rw[<-bk.out] at A;rw[<-bn.out] at Y;have l1:=iO aQ W;have l2:=iO aQ V;rw[z1] at l1;rw[z2] at l2;exact⟨rfl,zs,a,z1,z2,W,V,wG A (y9 aQ W) l1 (by omega) bm.out,wG Y (y9 aQ V) l2 (by omega) bp.out,U,T,ab,Z,am,an.out⟩
 ·go_enter func165,ntmps165;go_wp2
  go_loopw [6,7,8,9,10,11,21] (fun p q r t d l i wr=>∃(k:Nat) (zs a:List Int) (c f s v b C:Int),k<=n∧i= .int .i64 k∧p= .int .u64 c∧q= .int .u64 f∧r= .int .u64 s∧t= .int .u64 v∧d= .int .u64 b∧l= .int .u64 C∧
   (0<=c∧c<aA)∧(0<=f∧f<aA)∧(0<=s∧s<aA)∧(0<=v∧v<aA)∧(0<=b∧b<=1)∧(0<=C∧C<=1)∧Hid (zs.length=n)∧Hid (a.length=n)∧InR aA zs∧InR aA a∧
   Hid (∀j,k<=j->zs.getD j 0=xs.getD j 0)∧Hid (∀j,k<=j->a.getD j 0=ys.getD j 0)∧
   Hid (aF aA (zs.take k)=gD true*(F*aF aA (ys.take k)-u0*aF aA (xs.take k))+aA^k*(b+gD true*(c-f)))∧
   Hid (aF aA (a.take k)=gD true*(u1*aF aA (xs.take k)-G*aF aA (ys.take k))+aA^k*(C+gD true*(s-v)))∧
   Cells .u64 wr D 0 zs∧Cells .u64 wr H 0 a∧Soft wr D∧Soft wr H∧Blk wr w.1.size [.int .u64 u0,.int .u64 u1,.int .u64 F,.int .u64 G,.bool true]∧Below B w wr∧Hid (∀g t m,Shape w g t m->Shape wr g t m)) (fun _ _ _ _ _ _ i _=>n-(intOf i).toNat)
  case atStart=>
   refine⟨0,xs,ys,0,0,0,0,0,0,dC _,rfl,rfl,rfl,rfl,rfl,rfl,rfl,⟨by decide,by decide⟩,⟨by decide,by decide⟩,⟨by decide,by decide⟩,⟨by decide,by decide⟩,⟨by decide,by decide⟩,⟨by decide,by decide⟩,ac,ad,hX,hY,fun _ _=>rfl,fun _ _=>rfl,by simp[Hid],by simp[Hid],hx.alloc bs _,hy.alloc bt _,sa.alloc _,sb.alloc _,Blk.new _ _ _,(aG _ _).alloc hB _,fun _ _ _ h=>h.alloc _⟩
  case round=>
   obtain⟨k,zs,a,c,f,s,v,b,C,hk,rfl,rfl,rfl,rfl,rfl,rfl,rfl,bP,bQ,bR,bT,bc,bf,P,O,W,V,az,aw,av,au,U,T,ab,Z,E,am,an⟩:=hrel;clear hx hy sa sb;by_cases b5:k<n
   ·have g1:=U k (by have:=P.out;omega);have g2:=T k (by have:=O.out;omega);rw[bA] at g1 g2;rw[az.out k aE] at g1;rw[aw.out k aE] at g2;have f1:=ab.free k;have f2:=Z.free k;have c0:=E.cell (i:=0) rfl;have c1:=E.cell (i:=1) rfl;have c2:=E.cell (i:=2) rfl;have c3:=E.cell (i:=3) rfl;have c4:=E.cell (i:=4) rfl;have R:=hX.getD aQ k;have S:=hY.getD aQ k;have aq:=jV aA xs k (by have:=ac.out;omega);have ar:=jV aA ys k (by have:=ad.out;omega);generalize ax:xs.getD k 0=x at *;generalize ay:ys.getD k 0=y at *;obtain⟨p,ai,K⟩:=iT (x*u0+c);obtain⟨q,aj,L⟩:=iT (y*F+f);obtain⟨r,ak,M⟩:=iT (y*G+s);obtain⟨t,al,N⟩:=iT (x*u1+v);have m1:=I7 R i0 bP (z:=0) (by decide);have m2:=I7 S i2 bQ (z:=0) (by decide);have m3:=I7 S i3 bR (z:=0) (by decide);have m4:=I7 R i1 bT (z:=0) (by decide);have a8:=K.hi_bd (by omega) (m:=aA) (by omega);have a9:=L.hi_bd (by omega) (m:=aA) (by omega);have ba:=M.hi_bd (by omega) (m:=aA) (by omega);have bb:=N.hi_bd (by omega) (m:=aA) (by omega);have d1:=K.2;have d2:=L.2;have d3:=M.2;have d4:=N.2
    obtain⟨d,Q,I⟩:=sV (t:=p) (u:=q+b) (by omega) (by omega) (by omega) (by omega);obtain⟨e,X,J⟩:=sV (t:=r) (u:=t+C) (by omega) (by omega) (by omega) (by omega);have ao:=wF true (p:=p) (q:=q) K.1 L.1 I.1 av.out;have ap:=wF true (p:=r) (q:=t) M.1 N.1 J.1 au.out;have bg:0<=Q∧Q<=1:=by have:=I.2.2.2;omega
    have bj:0<=X∧X<=1:=by have:=J.2.2.2;omega
    have bh:=I.2;have bi:=J.2
    have a4:=aB K;have a5:=aB L;have a6:=aB M;have a7:=aB N
    have ae:=aB I;have af:=aB J;have HA:=aB ao;have a1:=aB ap
    have ag:=aB aq;have ah:=aB ar;have b2:=aB ax;have b3:=aB ay
    have a2:=aB U;have a3:=aB T
    clear K L M N I J ao ap aq ar ax ay U T m1 m2 m3 m4 bh bi;go_wp2_with fail;refine(oH x u0 c p ai R i0 bP a4.out _).mono ?_;rintro A w' ⟨rfl,rfl⟩;go_wp2_with fail;refine(oH y F f q aj S i2 bQ a5.out _).mono ?_;rintro A w' ⟨rfl,rfl⟩;go_wp2_with fail;refine(oH y G s r ak S i3 bR a6.out _).mono ?_;rintro A w' ⟨rfl,rfl⟩;go_wp2_with fail;refine(oH x u1 v t al R i1 bT a7.out _).mono ?_;rintro A w' ⟨rfl,rfl⟩
    go_wp2_with (first
     |simp only[eqC p q b d Q d1 d2 bc ae.out]
     |simp only[eqC r t C e X d3 d4 bf af.out])
    go_roundw
    case rel=>
     have hd:=ae.out.2;have he:=af.out.2;refine⟨k+1,zs.set k d,a.set k e,ai,aj,ak,al,Q,X,by omega,by go_num,rfl,rfl,rfl,rfl,rfl,rfl,a8,a9,ba,bb,bg,bj,?_,?_,W.set hd.1 hd.2.1 k,V.set he.1 he.2.1 k,?_,?_,?_,?_,?_,?_,(ab.set _ _).set _ _,(Z.set _ _).set _ _,(E.other (by omega) _).other (by omega) _,?_,fun g t m h=>((an.out g t m h).set _ _).set _ _⟩
     ·have:=P.out;simpa [Hid] using this
     ·have:=O.out;simpa [Hid] using this
     ·intro j hj;rw[n8 _ _ _ _ (by omega)];exact az.out j (by omega)
     ·intro j hj;rw[n8 _ _ _ _ (by omega)];exact aw.out j (by omega)
     ·unfold Hid;rw[t8 (by have:=P.out;omega),ag.out,ah.out,gR];exact HA.out
     ·unfold Hid;rw[t8 (by have:=O.out;omega),ag.out,ah.out,gR];exact a1.out
     ·have:=a2.out.set (i:=k) (by have:=P.out;omega) d;rw[bA] at this;exact this.other (by omega) _
     ·have:=(a3.out.other (g':=D) (o:=k) (by omega) (.int .u64 d)).set (i:=k) (by have:=O.out;omega) e;rw[bA] at this;exact this
     ·exact(am.setCell (by simpa using bq) _).setCell (by simpa using br) _
    case measure=>simp[intOf];omega
   ·obtain rfl:k=n:=by omega
    go_wp2;go_end0;have A:=av.out;have Y:=au.out;have z1:=P.out;have z2:=O.out;have z3:=ac.out;have z4:=ad.out
    rw[cZ (by omega),cZ (by omega),cZ (by omega)] at A;rw[cZ (by omega),cZ (by omega),cZ (by omega)] at Y;rw[<-bk.out] at A;rw[<-bn.out] at Y;have l1:=iO aQ W;have l2:=iO aQ V;rw[z1] at l1;rw[z2] at l2;exact⟨rfl,zs,a,z1,z2,W,V,wG A (y9 aQ W) l1 (by omega) bm.out,wG Y (y9 aQ V) l2 (by omega) bp.out,U,T,ab,Z,am,an.out⟩
def RH{sk:Nat}{L H:Int}(d:k<xs.length)(c:xs.getD k 0=a)(g:k+sk+1<zs.length)(f:Split (a*2^sh) L H)(b:zs.getD (k+sk+1) 0=0)
  (hv:aF aA zs=aA^sk*2^sh*aF aA (xs.take k)):
  aF aA ((zs.set (k+sk) (zs.getD (k+sk) 0+L)).set (k+sk+1) H)=aA^sk*2^sh*aF aA (xs.take (k+1)):=by
 rw[nY _ _ _ _ (by rw[eM];exact g),n8 _ _ _ _ (by omega),b,nY _ _ _ _ (by omega),hv,jV _ _ _ d,c];have e:=f.1;rw[gR,aqS];have h:aA^k*aA^sk*(L+aA*H)=aA^k*aA^sk*(a*2^sh):=by rw[e]
 grind
def tC(x:Nat)(n:Nat)(z:Value)(w:World)(hx:NatAt w z x)(hn:n<18446744073709551616)(F:nl x+n/64+1<=aJ):
  Calls prog 206 #[z,.int .u64 n] w (jK w [z] (x*2^n)):=by
 unfold aJ at F;obtain⟨A,c,rfl,D,v,I⟩:=hx;by_cases B:nl x=0
 ·have S:((nl x:Int)==0)=true:=by simp;omega
  have U:=aB (p9 B);clear B;go_enter func206,ntmps206;go_wp2;go_ret;refine⟨_,rfl,?_,From.mem (by simp),aG _ _⟩;rw[show x*2^n=x by rw[U.out,azW]];exact⟨A,c,rfl,D,v,I⟩
 ·by_cases r:n=0
  ·have S:((nl x:Int)==0)=false:=by simp;omega
   subst r;go_enter func206,ntmps206;go_wp2;go_ret;refine⟨_,rfl,?_,From.mem (by simp),aG _ _⟩;rw[bx0,az9];exact⟨A,c,rfl,D,v,I⟩
  ·have S:((nl x:Int)==0)=false:=by simp;omega
   have q1:((n:Int)==0)=false:=by simp;omega
   obtain⟨b,az,rfl,hb,ae⟩:=v.at_ (by rw[aK];omega);obtain⟨sk,av,aw,Y⟩:∃sk:Nat,nl x+sk+1<=17592186044416∧(n:Int)/64=(sk:Int)∧Hid (n/64=sk):=⟨n/64,F,by omega,rfl⟩;obtain⟨sh,ar,au,X⟩:∃sh:Nat,sh<64∧(n:Int)%64=(sh:Int)∧Hid (n%64=sh):=⟨n%64,by omega,by omega,rfl⟩;obtain⟨m,ao,ap,HM⟩:∃m,nl x+sk+1<=m∧m<=nl x+sk+1∧Hid (nl x+sk+1=m):=⟨_,aE,aE,rfl⟩;go_enter func206,ntmps206;go_wp2_with (at_make;refine kG rfl rfl .u64 143 8 underlying75 gZ m rfl rfl (by omega) (by omega) (by omega) (by omega) ?_;intro w1 ai af ad ac)
   go_loopw [31] (fun i wr=>∃(k:Nat) (d:List Int),k<=nl x∧i= .int .i64 k∧Hid (d.length=m)∧InR aA d∧Hid (d.getD (k+sk) 0<2^sh)∧Hid (∀j,k+sk+1<=j->d.getD j 0=0)∧
    Hid (aF aA d=aA^sk*2^sh*aF aA ((dg x).take k))∧Cells .u64 wr w.1.size 0 d∧Soft wr w.1.size∧Below w.1.size w wr∧w.1.size<wr.1.size) (fun i _=>nl x-(intOf i).toNat)
   case atStart=>
    have J:∀j,(List.replicate m (0:Int)).getD j 0=0:=fun j=>by simp[j6];split<;>rfl
    exact⟨0,_,dC _,rfl,by simp[Hid],InR.replicate aQ _,by unfold Hid;rw[J];exact fN sh,fun j _=>J j,by simp[Hid,mL],ad,af,ac,ai⟩
   case round=>
    obtain⟨k,d,hk,rfl,l,y,G,R,O,h,M,t,p⟩:=hrel;by_cases an:k<nl x
    ·have g1:=(ae.be t hb) k (by rw[aK];omega);have g2:=h (k+sk) (by have:=l.out;omega);have g3:=h (k+sk+1) (by have:=l.out;omega);rw[bA] at g2 g3;have hf:=fun j=>M.free j;have o:=(cI x).getD aQ k;have ah:=(y.getD aQ (k+sk)).1;generalize s:(dg x).getD k 0=a at *;obtain⟨L,H,f⟩:=iT (a*2^sh);have ay:a/2^(64-sh)=H:=by rw[G4 a (by omega),f.hi]
     have ax:IntKind.u64.wrap (a*2^sh)=L:=by rw[nB,f.lo]
     have aq:bits .or .u64 (d.getD (k+sk) 0) L=d.getD (k+sk) 0+L:=by
      rw[<-f.lo];exact AV (by omega) ah G.out (G5 _).1 (G5 _).2 (GC a (by omega))
     have g:=AU o.1 o.2 sh;rw[f.hi] at g;have ag:d.getD (k+sk) 0+L<aA:=by
      obtain⟨q,u⟩:=GC a (show sh<=64 by omega);rw[f.lo] at u;have e:=I8 (show sh<=64 by omega);have C:=f.2.2;have hl:=G.out;rw[u,<-e] at C;have h9:q<2^(64-sh):=bzL C (fP (fN sh));have ab:(2:Int)^sh*(q+1)<=2^sh*2^(64-sh):=gK (by omega) (fP (fN sh));rw[bx6,bx7] at ab;rw[u];omega
     have N:=RH (k:=k) (sk:=sk) (sh:=sh) (by rw[aK];omega) s (by have:=l.out;omega) f (R.out _ aE) O.out;generalize P:d.getD (k+sk) 0=T at *;generalize Q:d.getD (k+sk+1) 0=z1 at *;have Z:=aB N;have ak:=aB s;have al:=aB P;have am:=aB Q;have W:=aB f;have V:=aB h;clear N s P Q f h g;go_wp2;go_roundw
     case rel=>
      have K:=W.out;have g:=AU o.1 o.2 sh;rw[K.hi] at g;have aj:=l.out;have hp:(2:Int)^sh<=aA:=by
       have e:=I8 (show sh<=64 by omega);have h2:=fN (64-sh);have r:=fN sh;have:(2:Int)^sh*1<=2^sh*2^(64-sh):=gK (by omega) (by omega);omega
      have E:=(V.out.set (i:=k+sk) (by omega) (T+L)).set (i:=k+sk+1) (by rw[eM];omega) H;rw[bA,bA] at E;refine⟨k+1,(d.set (k+sk) (T+L)).set (k+sk+1) H,by omega,by go_num,?_,(y.set (by have:=K.2.1;omega) ag _).set g.1 (by omega) _,?_,?_,Z,E,(M.set _ _).set _ _,(t.setCell aE _).setCell aE _,?_⟩
      ·unfold Hid;rw[eM,eM];exact aj
      ·unfold Hid;rw[show k+1+sk=k+sk+1 by omega,eF,gP (by rw[eM];omega)];exact g.2
      ·intro j hj;rw[n8 _ _ _ _ (by omega),n8 _ _ _ _ (by omega)];exact R.out j (by omega)
      ·rw[nU,nU];exact p
     case measure=>simp[intOf];omega
    ·obtain rfl:k=nl x:=by omega
     go_wp2_with fail;refine(gC _ d m m wr l.out (Rd.mk p h) aE (by omega)).mono ?_;rintro e w4 ⟨rfl,rfl⟩;go_wp2;go_ret;refine⟨_,rfl,NatAt.trim (Rd.mk p h) y ?_ (by rw[l.out];exact aE) (Old.mk p),From.new aE,t⟩;have e:n=64*sk+sh:=by have r:=Y.out;have h2:=X.out;omega
     rw[O.out,cZ (by rw[aK];exact aE),cU,e,sZ];simp only[az8,bx9];rw[show((BN:Nat):Int)=aA from rfl,fD];rfl
def GP(x:Nat)(n:Nat)(L:Value)(w:World)(hx:NatAt w L x)(hn:n<18446744073709551616)(ak:nl x<=aJ):
  Calls prog 211 #[L,.int .u64 n] w (jK w [L] (x/2^n)):=by
 unfold aJ at ak;obtain⟨A,c,rfl,hc,ao,a3⟩:=hx;obtain⟨a,a6,a7,ad⟩:∃a:Nat,a<18446744073709551616∧(n:Int)/64=(a:Int)∧Hid (n/64=a):=⟨n/64,by omega,by omega,rfl⟩;obtain⟨sh,a4,a5,ac⟩:∃sh:Nat,sh<64∧(n:Int)%64=(sh:Int)∧Hid (n%64=sh):=⟨n%64,by omega,by omega,rfl⟩;have M:Hid (n=64*a+sh):=by have t:=ad.out;have o:=ac.out;unfold Hid;omega
 by_cases h0:nl x<=a
 ·have HZ:Hid (x/2^n=0):=by
   unfold Hid;rw[M.out,sZ];refine azT ?_;have t:=cyD x;have o:BN^nl x<=BN^a:=fT (by decide) h0;have O:BN^a*1<=BN^a*2^sh:=eV _ (eQ (by decide));omega
  go_enter func211,ntmps211;go_wp2;go_ret;refine⟨_,rfl,?_,From.none,aG _ _⟩;rw[HZ.out];exact NatAt.nil _
 ·obtain⟨b,au,rfl,P,Q⟩:=ao.at_ (by rw[aK];omega);obtain⟨m,az,a0,Z⟩:∃m,nl x<=m+a∧m+a<=nl x∧Hid (nl x-a=m):=⟨nl x-a,by omega,by omega,rfl⟩;go_enter func211,ntmps211;go_wp2_with (at_make;refine kG rfl rfl .u64 143 8 underlying75 gZ m rfl rfl (by omega) (by omega) (by omega) (by omega) ?_;intro w1 ar ap aj ai)
  go_loopw [27] (fun i wr=>∃(k:Nat) (zs:List Int),k<=m∧i= .int .i64 k∧Hid (zs.length=m)∧InR aA zs∧Hid (∀j,k<=j->zs.getD j 0=0)∧
   Hid (2^sh*aF aA zs+((dg x).drop a).getD 0 0%2^sh=aF aA (((dg x).drop a).take k)+((dg x).drop a).getD k 0%2^sh*aA^k)∧
   Cells .u64 wr w.1.size 0 zs∧Soft wr w.1.size∧Below w.1.size w wr∧w.1.size<wr.1.size) (fun i _=>m-(intOf i).toNat)
  case atStart=>
   have an:∀j,(List.replicate m (0:Int)).getD j 0=0:=fun j=>by simp[j6];split<;>rfl
   exact⟨0,_,dC _,rfl,by simp[Hid],InR.replicate aQ _,fun j _=>an j,by simp[Hid,mL],aj,ap,ai,ar⟩
  case round=>
   obtain⟨k,zs,hk,rfl,f,H,K,V,g,u,p,r⟩:=hrel;by_cases av:k<m
   ·have h:∀j,((dg x).drop a).getD j 0=(dg x).getD (j+a) 0:=fun j=>by simp only[eF,aqM,aq1]
    have N:=(Q.be p P) (k+a) (by rw[aK];omega);have D:=g k (by have:=f.out;omega);rw[bA] at D;have hf:=fun j=>u.free j;have F:=(cI x).getD aQ (k+a);have ah:=(cI x).getD aQ (k+a+1);have I:=K.out k aE;rw[<-h k] at F N;rw[show k+a+1=k+1+a by omega,<-h (k+1)] at ah
    have v:=fun (z:Int) (he:z=((dg x).drop a).getD k 0/2^sh+((dg x).drop a).getD (k+1) 0%2^sh*2^(64-sh))=>
     QB (zs:=zs) (z:=z) (by omega) (by rw[gG,aK];omega) (by have:=f.out;omega) I he V.out
    have U:0<=((dg x).drop a).getD k 0/2^sh:=byI F.1 (fP (fN sh));have am:((dg x).drop a).getD k 0/2^sh<2^(64-sh):=by
     refine byH (fN sh) ?_;rw[fD,I8 (by omega)];exact F.2
    have hp:(2:Int)^(64-sh)<=aA:=by
     have e:=I8 (show sh<=64 by omega);have t:=fN sh;have o:=fN (64-sh);have:1*(2:Int)^(64-sh)<=2^sh*2^(64-sh):=eH (by omega) (by omega);omega
    by_cases aw:k+a+1<nl x
    ·have E:=(Q.be p P) (k+a+1) (by rw[aK];omega);rw[show k+a+1=k+1+a by omega,<-h (k+1),show k+1+a=k+a+1 by omega] at E;have ay:IntKind.u64.wrap (((dg x).drop a).getD (k+1) 0*2^(64-sh))=((dg x).drop a).getD (k+1) 0%2^sh*2^(64-sh):=by rw[nB,AW _ (by omega)]
     have a2:bits .or .u64 (((dg x).drop a).getD k 0/2^sh) (((dg x).drop a).getD (k+1) 0%2^sh*2^(64-sh))=((dg x).drop a).getD k 0/2^sh+((dg x).drop a).getD (k+1) 0%2^sh*2^(64-sh):=by
      rw[<-AW _ (by omega)];exact AV (by omega) U am (G5 _).1 (G5 _).2 ⟨((dg x).drop a).getD (k+1) 0%2^sh,by rw[AW _ (by omega),fD]⟩
     have X:0<=((dg x).drop a).getD k 0/2^sh+((dg x).drop a).getD (k+1) 0%2^sh*2^(64-sh)∧((dg x).drop a).getD k 0/2^sh+((dg x).drop a).getD (k+1) 0%2^sh*2^(64-sh)<aA:=by
      have t:=aqG (((dg x).drop a).getD (k+1) 0) (show(2:Int)^sh≠0 by have:=fN sh;omega);have o:=aqF (((dg x).drop a).getD (k+1) 0) (fN sh);have O:(((dg x).drop a).getD (k+1) 0%2^sh+1)*2^(64-sh)<=2^sh*2^(64-sh):=eH (by omega) (fP (fN _));rw[I8 (by omega),azG,az5] at O;have h4:=gB t (fP (fN (64-sh)));omega
     have l:=v _ rfl;generalize ((dg x).drop a).getD (k+1) 0%2^sh*2^(64-sh)=S at *;generalize al:((dg x).drop a).getD k 0/2^sh=d at *;generalize s:((dg x).drop a).getD k 0=u0 at *;generalize W:((dg x).drop a).getD (k+1) 0=u1 at *;generalize J:zs.getD k 0=z0 at *;have C:=aB l;have af:=aB s;have ag:=aB W;have B:=aB g;clear l v s W J g h I;have a1:b≠w.1.size:=by omega
     go_wp2;have k1:(wr.setCell ⟨w.1.size,k,none⟩ (.int .u64 d)).cell? ⟨w.1.size,k,none⟩=some (.int .u64 d):=World.cell?_setCell_same _ _ _ D;have k2:(wr.setCell ⟨w.1.size,k,none⟩ (.int .u64 d)).cell? ⟨b,au+(k+a+1),none⟩=some (.int .u64 u1):=(World.cell?_setCell_other _ _ _ _ (by intro e;injection e;omega)).trans E;have k3:∀j,(wr.setCell ⟨w.1.size,k,none⟩ (.int .u64 d)).frozen? ⟨w.1.size,j,none⟩=false:=fun j=>(u.set _ _).free j;have T:Only w.1.size 0 m wr (wr.setCell ⟨w.1.size,k,none⟩ (.int .u64 d)):=by have:=(Only.refl w.1.size 0 m wr).set (i:=k) (by omega) (.int .u64 d);rwa [bA] at this
     have R:Cells .u64 (wr.setCell ⟨w.1.size,k,none⟩ (.int .u64 d)) w.1.size 0 (zs.set k d):=by have:=B.out.set (i:=k) (by have:=f.out;omega) d;rwa [bA] at this
     generalize wr.setCell ⟨w.1.size,k,none⟩ (.int .u64 d)=w2 at *;have Y:=aB R;have ab:=aB T;clear R T N D E hf;go_region;go_wp2;go_roundw
     case rel=>
      have q:=Y.out.set (i:=k) (by rw[eM];have:=f.out;omega) (d+S);rw[bA,bxM] at q;have G:=ab.out;have aq:=G.grown.size;refine⟨k+1,zs.set k (d+S),by omega,by go_num,?_,H.set X.1 X.2 _,?_,?_,q,((G.soft u).set _ _),?_,?_⟩
      ·unfold Hid;rw[eM];exact f.out
      ·intro j hj;rw[n8 _ _ _ _ (by omega)];exact K.out j (by omega)
      ·unfold Hid;rw[ag.out];exact C.out
      ·exact((G.belowOf p aE).drew).setCell aE _
      ·show _<((w2.drew).setCell _ _).1.size
       rw[nU];exact aZ r aq
     case measure=>simp[intOf];omega
    ·have y:((dg x).drop a).getD (k+1) 0=0:=by
      rw[h,eF,fU (by rw[aK];omega)];rfl
     have l:=v (((dg x).drop a).getD k 0/2^sh) (by rw[y];simp);rw[y] at l;generalize al:((dg x).drop a).getD k 0/2^sh=d at *;generalize s:((dg x).drop a).getD k 0=u0 at *;generalize J:zs.getD k 0=z0 at *;have C:=aB l;have af:=aB s;have ae:=aB y;have B:=aB g;clear l v s J g h I y;go_wp2;go_roundw
     case rel=>
      have q:=B.out.set (i:=k) (by have:=f.out;omega) d;rw[bA] at q;refine⟨k+1,zs.set k d,by omega,by go_num,?_,H.set U (by omega) _,?_,?_,q,u.set _ _,p.setCell aE _,?_⟩
      ·unfold Hid;rw[eM];exact f.out
      ·intro j hj;rw[n8 _ _ _ _ (by omega)];exact K.out j (by omega)
      ·unfold Hid;rw[ae.out];exact C.out
      ·rw[nU];exact r
     case measure=>simp[intOf];omega
   ·obtain rfl:k=m:=by omega
    go_wp2_with fail;refine(gC _ zs k k wr f.out (Rd.mk r g) aE (by omega)).mono ?_;rintro e w4 ⟨rfl,rfl⟩;go_wp2;go_ret;refine⟨_,rfl,NatAt.trim (Rd.mk r g) H ?_ (by rw[f.out];exact aE) (Old.mk r),From.new aE,p⟩;have hv:=V.out;have ax:((dg x).drop a).length=k:=by rw[gG,aK];exact Z.out
    rw[cZ (by omega),eF (i:=k),fU (by omega),sU] at hv;have o:=QC (sh:=sh) hv (aqG _ (by have:=fN sh;omega)) (aqF _ (fN sh));rw[o,M.out,sZ,<-aqB];simp
def RE(f:Nat):Lib.bitLenAux f 0=0:=by cases f<;>simp[Lib.bitLenAux]
def RF(f x:Nat)(h:x<2^f):x<2^Lib.bitLenAux f x∧(x≠0->2^(Lib.bitLenAux f x-1)<=x∧0<Lib.bitLenAux f x):=by
 induction f generalizing x with
 |zero=>simp at h;subst h;simp[Lib.bitLenAux]
 |succ f d=>
  by_cases a:x=0
  ·subst a;simp[Lib.bitLenAux]
  ·have c:=d (x/2) (by rw[dH] at h;omega);simp only[Lib.bitLenAux,a,if_false];by_cases b:x/2=0
   ·rw[b,RE];refine⟨by omega,fun _=>⟨by simp;omega,by omega⟩⟩
   ·have g:=c.2 b;generalize Lib.bitLenAux f (x/2)=m at *;refine⟨?_,fun _=>⟨?_,by omega⟩⟩
    ·rw[aq1,dH];omega
    ·have e:1+m-1=m-1+1:=by omega
     rw[e,dH];omega
def wK(y:Nat)(a:y≠0)(h:y<BN):∃s:Nat,s<64∧Lib.bitLen y+s=64∧2^63<=y*2^s∧y*2^s<BN:=by
 have e:=RF 64 y (by rw[sY] at h;exact h);have g:Lib.bitLenAux 64 y<=64:=Lib.bitLenAux_le 64 y 64 (by rw[sY] at h;exact h);obtain⟨b,c⟩:=e;obtain⟨d,f⟩:=c a;unfold Lib.bitLen;generalize Lib.bitLenAux 64 y=m at *;refine⟨64-m,by omega,by omega,?_,?_⟩
 ·have:2^(m-1)*2^(64-m)=2^63:=by rw[<-KF];congr 1;omega
  rw[<-this];exact dK _ d
 ·have:2^m*2^(64-m)=BN:=by rw[<-KF,show m+(64-m)=64 by omega];rfl
  rw[<-this];exact bxF b (eQ (by decide))
def RG{U f:Int}(m:0<b)(g:q*c+r=U)(t:0<=a)(o:0<=d)(s:e*(c*b+a)+f=U*b+d)(p:0<=f)(l:0<c*b+a)(n:b*r+d<q*a):e+1<=q:=by
 rcases azO q (e+1) with h|h
 ·have i:q*(c*b+a)<=e*(c*b+a):=eH (by omega) (by omega);have j:q*(c*b+a)=(U-r)*b+q*a:=by rw[<-g];grind
  have k:(U-r)*b=U*b-b*r:=by grind
  omega
 ·exact h
def GN{U f:Int}(i:q*c+r=U)(o:e*(c*b+a)+f=U*b+d)(n:f<c*b+a)(l:0<c*b+a)(m:q*a<=b*r+d):q<=e:=by
 rcases azO e q with h|h
 ·have g:(e+1)*(c*b+a)<=q*(c*b+a):=eH (by omega) (by omega);have j:q*(c*b+a)=(U-r)*b+q*a:=by rw[<-i];grind
  have k:(U-r)*b=U*b-b*r:=by grind
  rw[azG,az5] at g;omega
 ·exact h
structure Dig(U d y1 y0 t q r:Int):Prop where
 eq:q*y1+r=U
 r0:0<=r
 r1:r<4294967296
 up:t<=q
 q0:0<=q
 q1:q<=4294967297
def Dig.down{U:Int}(h:q*b+r=U)(g:t*(b*4294967296+a)+R=U*4294967296+d)(c:R<b*4294967296+a)(e:0<b*4294967296+a)(f:q*a<=4294967296*r+d):q<=t:=
 GN h g c e f
def Dig.next{U:Int}(h:Dig U d a b t q r)(l:0<a)(j:0<=b)(g:0<=d)(i:t*(a*4294967296+b)+R=U*4294967296+d)(e:0<=R)(f:0<a*4294967296+b)(k:t<4294967296)
  (c:4294967296<=q∨4294967296*r+d<q*b):t<=q-1∧(q-1)*a+(r+a)=U:=by
 refine⟨?_,?_⟩
 ·rcases c with c|c
  ·omega
  ·have:=RG (by decide) h.eq j g i e f c;omega
 ·have:=h.eq;rw[Int.sub_mul];omega
def Dig.stop{U:Int}(h:(q-1)*b+(r+b)=U)(f:0<=q-1)(k:q<=4294967297)(i:0<=a)(m:a<4294967296)(j:0<=d)(g:t*(b*4294967296+a)+R=U*4294967296+d)
  (c:R<b*4294967296+a)(e:0<b*4294967296+a)(l:4294967296<=r+b):q-1<=t:=by
 refine GN h g c e ?_;have:=(mM f (show q-1<=4294967296 by omega) i (show a<=4294967295 by omega)).2;omega
def GO{U:Int}(e:0<=U)(c:U<Y)(f:0<=d)(g:d<4294967296)(i:t*Y+R=U*4294967296+d)(a:0<=R)(b:R<Y):0<=t∧t<4294967296:=by
 constructor
 ·rcases azO t 0 with h|h
  ·have:t*Y<= -1*Y:=eH (by omega) (by omega);omega
  ·exact h
 ·rcases azO t 4294967296 with h|h
  ·exact h
  ·have:4294967296*Y<=t*Y:=eH h (by omega);omega
def rR(y:Int)(s:Nat)(c:0<y)(a:y<aA)(b:Lib.bitLen y.toNat+s=64)(w:World):
  Calls prog 190 #[.int .u64 y] w fun e w'=>e= .returned (.int .i64 s)∧w=w':=by
 refine(Tryz.bits_LeadingZeros64 y w (by omega) (by unfold aA at a;omega)).mono fun e w' h=>⟨?_,h.2.symm⟩;rw[h.1];congr 2;omega
def GM{z y:Int}(h:sh<=64)(c:0<=z)(g:z<2^sh)(b:0<=y)(a:y<aA)(f:∃q,y=2^sh*q):bits .or .u64 y z=y+z:=by
 rw[bxI,<-AV h c g b a f];have d:(2:Int)^sh<=aA:=by
  have e:=I8 h;have j:=fN (64-sh);have i:=fN sh;have:(2:Int)^sh*1<=2^sh*2^(64-sh):=gK (by omega) (by omega);omega
 rw[u64_or y z b (by unfold aA at a;omega) c (by unfold aA at d;omega),u64_or z y c (by unfold aA at d;omega) b (by unfold aA at a;omega),Nat.or_comm]
def eqW(Y:Int)(a:0<=Y)(b:Y<aA):bits .and .u64 Y 4294967295=Y%4294967296:=by
 rw[u64_and Y 4294967295 a (by unfold aA at b;omega) (by decide) (by decide)];obtain⟨n,rfl⟩:=j7 a;rw[j9,show(4294967295:Int).toNat=2^32-1 from rfl,Nat.and_two_pow_sub_one_eq_mod];rfl
def wJ(hi lo y:Int)(h0:0<=hi)(O:hi<y)(am:0<=lo)(a0:lo<aA)(hy:y<aA)(w:World):
  Calls prog 195 #[.int .u64 hi,.int .u64 lo,.int .u64 y] w fun e w'=>∃q r,e= .returned (.tuple #[.int .u64 q,.int .u64 r])∧0<=q∧q<aA∧0<=r∧r<y∧q*y+r=hi*aA+lo∧∃m,w'=w.drewN m:=by
 have k0:(y==0)=false:=by simp;omega
 have k1:¬y<=hi:=by omega
 have k2:1<=y:=by omega
 by_cases hz:hi=0
 ·subst hz;unfold aA at a0 hy;go_enter func195,ntmps195;go_wp2;go_quiet (fail);go_wp2;go_ret2;refine⟨lo/y,lo%y,rfl,byI am (by omega),?_,aqG _ (by omega),aqF _ (by omega),?_,_,rfl⟩
  ·have:=Int.ediv_le_self y am;unfold aA;omega
  ·have:=aqR lo y;rw[fD];omega
 ·have k3:(hi==0)=false:=by simp;omega
  obtain⟨D,rfl⟩:=j7 (show 0<=y by omega);obtain⟨s,cd,b3,ce,cg⟩:=wK D (by omega) (by have:=kU;omega);obtain⟨Y,S⟩:∃Y,Y=(D:Int)*2^s:=⟨_,rfl⟩;have cb:9223372036854775808<=Y:=by
   rw[S];have:((2^63:Nat):Int)<=((D*2^s:Nat):Int):=by omega
   simpa using this
  have E:Y<aA:=by
   rw[S];have:((D*2^s:Nat):Int)<((BN:Nat):Int):=by omega
   simpa [kU] using this
  have e1:IntKind.u64.wrap ((D:Int)*2^s)=Y:=by
   rw[nB,<-S];unfold g8;unfold aA at E;omega
  have az:hi*2^s<aA:=by
   have:hi*2^s<(D:Int)*2^s:=bzM O (fN s);omega
  have bt:0<=hi*2^s:=gB h0 (fP (fN s));have e2:IntKind.u64.wrap (hi*2^s)=hi*2^s:=by
   rw[nB];unfold g8;unfold aA at az;omega
  obtain⟨V,H,M⟩:=iT (lo*2^s);have ai:=AU am a0 s;rw[M.hi] at ai;have e3:lo/2^(64-s)=H:=by rw[G4 lo (by omega),M.hi]
  have e4:IntKind.u64.wrap (lo*2^s)=V:=by rw[nB,M.lo]
  have e5:bits .or .u64 (hi*2^s) H=hi*2^s+H:=GM (by omega) ai.1 ai.2 bt az ⟨hi,fD _ _⟩;obtain⟨U,ae⟩:∃U,U=hi*2^s+H:=⟨_,rfl⟩;have aq:0<=U:=by omega
  have bq:U<Y:=by
   have P:(hi+1)*2^s<=(D:Int)*2^s:=eH (by omega) (fP (fN s));rw[azG,az5] at P;omega
  have ar:U*aA+V=(hi*aA+lo)*2^s:=by
   rw[ae];have:=M.1;grind
  have hV:=M.2;rw[<-ae] at e5;have ba:=aB ar;have bc:=aB S;have b5:=aB ae;clear ar S ae M;obtain⟨b,ch⟩:∃b,Y/4294967296=b:=⟨_,rfl⟩;obtain⟨f,an⟩:∃f,f=Y%4294967296:=⟨_,rfl⟩;obtain⟨o,cc⟩:∃o,V/4294967296=o:=⟨_,rfl⟩;obtain⟨i,al⟩:∃i,i=V%4294967296:=⟨_,rfl⟩;have e6:bits .and .u64 Y 4294967295=f:=by rw[an];exact eqW Y (by omega) E
  have e7:bits .and .u64 V 4294967295=i:=by rw[al];exact eqW V hV.1 hV.2
  have b7:2147483648<=b∧b<4294967296:=by unfold aA at E;omega
  have n:0<=f∧f<4294967296:=by omega
  have L:0<=o∧o<4294967296:=by have:=hV;unfold aA at this;omega
  have K:0<=i∧i<4294967296:=by omega
  have av:Y=b*4294967296+f:=by omega
  have au:V=o*4294967296+i:=by omega
  have b6:=aB an;have b4:=aB al;have B:=aB av;have bb:=aB au;clear an al av au;obtain⟨p,T⟩:∃p,U/b=p:=⟨_,rfl⟩;obtain⟨X,b1⟩:∃X,U-p*b=X:=⟨_,rfl⟩;have ca:U<=18446744073709551615:=by unfold aA at E;omega
  have af:0<=p∧p<=4294967297:=by
   refine⟨by rw[<-T];exact byI aq (by omega),?_⟩;have:p<4294967298:=by
    rw[<-T];refine byH (by omega) ?_;have:=B.out;omega
   omega
  have a4:0<=X∧X<b:=by
   have O:=aqR U b;have h2:=aqG U (show b≠0 by omega);have h3:=aqF U (show 0<b by omega);rw[T,fD] at O;omega
  have bw:0<=p*b:=gB af.1 (by omega);have bx:p*b<=18446744073709551615:=by omega
  obtain⟨k,g,a6,Q,ao⟩:∃t R,t*Y+R=U*4294967296+o∧0<=R∧R<Y:=
   ⟨(U*4294967296+o)/Y,(U*4294967296+o)%Y,by have:=aqR (U*4294967296+o) Y;rw[fD];omega,aqG _ (by omega),aqF _ (by omega)⟩
  have ab:=aB a6;clear a6;go_enter func195,ntmps195;go_upto_block 0 with (go_at_call 190;refine(rR _ s (by omega) hy (by rw[j9];exact b3) _).mono ?_;rintro e w' ⟨rfl,rfl⟩);have ax:=GO aq bq L.1 L.2 ab.out Q ao;have I:Hid (k*(b*4294967296+f)+g=U*4294967296+o):=by have:=ab.out;rw[B.out] at this;exact this
  have a8:k<=p:=by
   rcases azO p k with h|h
   ·have P:(p+1)*(b*4294967296+f)<=k*(b*4294967296+f):=eH (by omega) (by omega);have bf:=I.out;have bg:(p+1)*(b*4294967296+f)=p*b*4294967296+b*4294967296+(p+1)*f:=by grind
    have bh:=(mM (show 0<=p+1 by omega) (aq5 _) n.1 (aq5 _)).1;omega
   ·exact h
  simp only[T];go_cut [15] (fun q wx=>q= .int .u64 k∧w=wx)
  case first=>
   go_wp2;go_loop [15,16] (fun a c=>∃q r,a= .int .u64 q∧c= .int .u64 r∧Dig U o b f k q r) (fun a _=>(intOf a).toNat)
   case atStart=>exact⟨p,X,rfl,rfl,⟨by omega,a4.1,by omega,a8,af.1,af.2⟩⟩
   case round=>
    obtain⟨q,r,rfl,rfl,j⟩:=hrel;have g1:=j.r0;have g2:=j.r1;have g3:=j.up;have g4:=j.q0;have N:=j.q1
    by_cases aj:4294967296<=q
    ·have x:=j.next (R:=g) (by omega) n.1 L.1 I.out Q (by omega) ax.2 (.inl aj);have v:=aB x.2;have G:=x.1;clear x;by_cases F:4294967296<=r+b
     ·have z:q-1=k:=by
       have:=Dig.stop (d:=o) (t:=k) (R:=g) v.out (by omega) N n.1 n.2 L.1 I.out (by have:=B.out;omega) (by omega) F;omega
      clear v;go_wp2;go_meet
      case rel=>exact⟨by first|rfl|rw[z],rfl⟩
     ·go_wp2;go_round
      case rel=>exact⟨q-1,r+b,rfl,rfl,⟨v.out,by omega,by omega,G,by omega,by omega⟩⟩
      case measure=>simp[intOf];omega
    ·have C:=mM g4 (show q<=4294967295 by omega) n.1 (show f<=4294967295 by omega);have bu:=C.1;have bv:q*f<=18446744073709551615:=by omega
     by_cases ak:4294967296*r+o<q*f
     ·have x:=j.next (R:=g) (by omega) n.1 L.1 I.out Q (by omega) ax.2 (.inr ak);have v:=aB x.2;have G:=x.1;clear x C;by_cases F:4294967296<=r+b
      ·have z:q-1=k:=by
        have:=Dig.stop (d:=o) (t:=k) (R:=g) v.out (by omega) N n.1 n.2 L.1 I.out (by have:=B.out;omega) (by omega) F;omega
       clear v;go_wp2;go_meet
       case rel=>exact⟨by first|rfl|rw[z],rfl⟩
      ·go_wp2;go_round
       case rel=>exact⟨q-1,r+b,rfl,rfl,⟨v.out,by omega,by omega,G,by omega,by omega⟩⟩
       case measure=>simp[intOf];omega
     ·have z:q=k:=by
       have:=Dig.down (d:=o) (t:=k) (R:=g) j.eq I.out (by have:=B.out;omega) (by omega) (by omega);omega
      have ah:=aB z;clear z C;go_wp2;go_meet
      case rel=>exact⟨by first|rfl|rw[ah.out],rfl⟩
  case rest=>
   obtain⟨rfl,rfl⟩:=hcut;clear T b1 bw bx a8 a4 af;obtain⟨A1,bi⟩:∃A1,IntKind.u64.wrap (U*4294967296)=A1:=⟨_,rfl⟩;obtain⟨A2,bj⟩:∃A2,IntKind.u64.wrap (A1+o)=A2:=⟨_,rfl⟩;obtain⟨A3,bk⟩:∃A3,IntKind.u64.wrap (k*Y)=A3:=⟨_,rfl⟩;have bm:IntKind.u64.wrap (A2-A3)=g:=by
    have P:=ab.out;rw[nB] at bi bj bk⊢;unfold g8 at *;unfold aA at E;omega
   have b9:g<=18446744073709551615:=by unfold aA at E;omega
   obtain⟨u,W⟩:∃u,g/b=u:=⟨_,rfl⟩;obtain⟨Z,b2⟩:∃Z,g-u*b=Z:=⟨_,rfl⟩;have ag:0<=u∧u<=4294967297:=by
    refine⟨by rw[<-W];exact byI Q (by omega),?_⟩;have:u<4294967298:=by
     rw[<-W];refine byH (by omega) ?_;have:=B.out;omega
    omega
   have a5:0<=Z∧Z<b:=by
    have O:=aqR g b;have h2:=aqG g (show b≠0 by omega);have h3:=aqF g (show 0<b by omega);rw[W,fD] at O;omega
   have bz:0<=u*b:=gB ag.1 (by omega);have b0:u*b<=18446744073709551615:=by omega
   obtain⟨l,A,a7,ad,ap⟩:∃t R,t*Y+R=g*4294967296+i∧0<=R∧R<Y:=
    ⟨(g*4294967296+i)/Y,(g*4294967296+i)%Y,by have:=aqR (g*4294967296+i) Y;rw[fD];omega,aqG _ (by omega),aqF _ (by omega)⟩
   have ac:=aB a7;clear a7;have ay:=GO Q ao K.1 K.2 ac.out ad ap;have J:Hid (l*(b*4294967296+f)+A=g*4294967296+i):=by have:=ac.out;rw[B.out] at this;exact this
   have a9:l<=u:=by
    rcases azO u l with h|h
    ·have P:(u+1)*(b*4294967296+f)<=l*(b*4294967296+f):=eH (by omega) (by omega);have bf:=J.out;have bg:(u+1)*(b*4294967296+f)=u*b*4294967296+b*4294967296+(u+1)*f:=by grind
     have bh:=(mM (show 0<=u+1 by omega) (aq5 _) n.1 (aq5 _)).1;omega
    ·exact h
   go_upto_block 2 with (fail);simp only[W];go_cut [18] (fun q wx=>q= .int .u64 l∧w=wx)
   case first=>
    go_wp2;go_loop [18,16] (fun a c=>∃q r,a= .int .u64 q∧c= .int .u64 r∧Dig g i b f l q r) (fun a _=>(intOf a).toNat)
    case atStart=>exact⟨u,Z,rfl,rfl,⟨by omega,a5.1,by omega,a9,ag.1,ag.2⟩⟩
    case round=>
     obtain⟨q,r,rfl,rfl,j⟩:=hrel;have g1:=j.r0;have g2:=j.r1;have g3:=j.up;have g4:=j.q0;have N:=j.q1
     by_cases aj:4294967296<=q
     ·have x:=j.next (R:=A) (by omega) n.1 K.1 J.out ad (by omega) ay.2 (.inl aj);have v:=aB x.2;have G:=x.1;clear x;by_cases F:4294967296<=r+b
      ·have z:q-1=l:=by
        have:=Dig.stop (d:=i) (t:=l) (R:=A) v.out (by omega) N n.1 n.2 K.1 J.out (by have:=B.out;omega) (by omega) F;omega
       clear v;go_wp2;go_meet
       case rel=>exact⟨by first|rfl|rw[z],rfl⟩
      ·go_wp2;go_round
       case rel=>exact⟨q-1,r+b,rfl,rfl,⟨v.out,by omega,by omega,G,by omega,by omega⟩⟩
       case measure=>simp[intOf];omega
     ·have C:=mM g4 (show q<=4294967295 by omega) n.1 (show f<=4294967295 by omega);have bu:=C.1;have bv:q*f<=18446744073709551615:=by omega
      by_cases ak:4294967296*r+i<q*f
      ·have x:=j.next (R:=A) (by omega) n.1 K.1 J.out ad (by omega) ay.2 (.inr ak);have v:=aB x.2;have G:=x.1;clear x C;by_cases F:4294967296<=r+b
       ·have z:q-1=l:=by
         have:=Dig.stop (d:=i) (t:=l) (R:=A) v.out (by omega) N n.1 n.2 K.1 J.out (by have:=B.out;omega) (by omega) F;omega
        clear v;go_wp2;go_meet
        case rel=>exact⟨by first|rfl|rw[z],rfl⟩
       ·go_wp2;go_round
        case rel=>exact⟨q-1,r+b,rfl,rfl,⟨v.out,by omega,by omega,G,by omega,by omega⟩⟩
        case measure=>simp[intOf];omega
      ·have z:q=l:=by
        have:=Dig.down (d:=i) (t:=l) (R:=A) j.eq J.out (by have:=B.out;omega) (by omega) (by omega);omega
       have ah:=aB z;clear z C;go_wp2;go_meet
       case rel=>exact⟨by first|rfl|rw[ah.out],rfl⟩
   case rest=>
    obtain⟨rfl,rfl⟩:=hcut;clear W b2 bz b0 a9 a5 ag bm;obtain⟨C1,bn⟩:∃C1,IntKind.u64.wrap (g*4294967296)=C1:=⟨_,rfl⟩;obtain⟨C2,bo⟩:∃C2,IntKind.u64.wrap (C1+i)=C2:=⟨_,rfl⟩;obtain⟨C3,bp⟩:∃C3,IntKind.u64.wrap (l*Y)=C3:=⟨_,rfl⟩;have b8:IntKind.u64.wrap (C2-C3)=A:=by
     have P:=ac.out;rw[nB] at bn bo bp⊢;unfold g8 at *;unfold aA at E;omega
    go_wp2;go_ret2;have bs:(k*4294967296+l)*Y+A=(hi*aA+lo)*2^s:=by
     rw[<-ba.out,bb.out];have a1:=ab.out;have a2:=ac.out;have a3:aA=4294967296*4294967296:=rfl;rw[a3];grind
    have aw:=bc.out;have C:=fN s;have br:A=2^s*(hi*aA+lo-(k*4294967296+l)*D):=by rw[aw] at bs;grind
    have hr:A/2^s=hi*aA+lo-(k*4294967296+l)*D:=by rw[br,Int.mul_ediv_cancel_left _ (by omega)]
    refine⟨k*4294967296+l,A/2^s,rfl,by omega,by unfold aA;omega,byI ad (by omega),?_,by rw[hr];omega,0,rfl⟩;exact byH C (by rw[<-aw];exact ap)
def RC{y:Int}(h:q*y+r=t)(e:a*y+r'=t)(f:0<=r)(i:r<y)(g:0<=r')(j:r'<y):q=a∧r=r':=by
 have b:q=t/y:=by rw[<-h,bxI,Int.add_mul_ediv_right _ _ (by omega),byG f i,bxA]
 have c:a=t/y:=by rw[<-e,bxI,Int.add_mul_ediv_right _ _ (by omega),byG g j,bxA]
 have d:q=a:=by rw[b,c]
 subst d;exact⟨rfl,by omega⟩
def RD(hi lo y q r:Int)(a:0<=hi)(b:hi<y)(g:0<=lo)(i:lo<aA)(n:y<aA)(h:q*y+r=hi*aA+lo)(k:0<=r)(l:r<y)(w:World):
  Calls prog 195 #[.int .u64 hi,.int .u64 lo,.int .u64 y] w fun e w'=>e= .returned (.tuple #[.int .u64 q,.int .u64 r])∧∃m,w'=w.drewN m:=by
 refine(wJ hi lo y a b g i n w).mono ?_;rintro e w' ⟨o,p,rfl,_,_,c,d,f,j⟩;obtain⟨rfl,rfl⟩:=RC h f k l c d;exact⟨rfl,j⟩
def GK{y:Int}(d:j<xs.length)(a:j<zs.length)(e:q*y+r'=r*aA+xs.getD j 0)(hv:aF aA (zs.drop (j+1))*y+r=aF aA (xs.drop (j+1))):
  aF aA ((zs.set j q).drop j)*y+r'=aF aA (xs.drop j):=by
 rw[nD _ _ _ (by rw[eM];exact a),nD _ _ _ d,<-hv];have b:(zs.set j q).getD j 0=q:=by simp[gP a]
 have c:(zs.set j q).drop (j+1)=zs.drop (j+1):=List.drop_set_of_lt (by omega);rw[b,c];grind
def wI{y x:Int}(h:a*y+r=x)(b:0<=r)(c:r<y):a=x/y∧r=x%y:=by
 have d:y≠0:=by omega
 constructor
 ·rw[<-h,bxI,Int.add_mul_ediv_right _ _ d,byG b c,bxA]
 ·rw[<-h,bxI,Int.add_mul_emod_self_right,bz1 b c]
def bqX(x y:Nat)(M:Value)(w:World)(hx:NatAt w M x)(al:0<y)(am:y<BN)(Z:nl x<=aJ):
  Calls prog 212 #[M,.int .u64 y] w fun e w'=>∃v,e= .returned (.tuple #[v,.int .u64 ((x%y:Nat):Int)])∧NatAt w' v (x/y)∧From w [] v∧Below w.1.size w w':=by
 unfold aJ at Z;obtain⟨A,c,rfl,hc,ae,ai⟩:=hx;go_enter func212,ntmps212;go_wp2_with (at_make;refine kG rfl rfl .u64 143 8 underlying75 gZ (nl x) rfl rfl rfl rfl (by omega) (by omega) ?_;intro w1 ag af V U)
 go_loopw [7,8] (fun t i wr=>∃(q r:Int) (a:List Int), -1<=q∧q<nl x∧i= .int .i64 q∧t= .int .u64 r∧0<=r∧r<y∧Hid (a.length=nl x)∧InR aA a∧Hid (aF aA (a.drop (q+1).toNat)*y+r=aF aA ((dg x).drop (q+1).toNat))∧
   Cells .u64 wr w.1.size 0 a∧Soft wr w.1.size∧Below w.1.size w wr∧w.1.size<wr.1.size) (fun _ i _=>(intOf i+1).toNat)
 case atStart=>exact⟨(nl x:Int)-1,0,_,by omega,by omega,rfl,rfl,by decide,by omega,by simp[Hid],InR.replicate aQ _,by
  rw[show((nl x:Int)-1+1).toNat=nl x by omega];unfold Hid;rw[gO (by simp),gO (by rw[aK];exact aE)];simp,V,af,U,ag⟩
 case round=>
  obtain⟨q,r,a,aj,ak,rfl,rfl,C,D,f,K,n,k,F,l,d⟩:=hrel;by_cases T:0<=q
  ·obtain⟨j,rfl⟩:=j7 T;obtain⟨b,an,rfl,hb,u⟩:=(ae.be l).at_ (by rw[aK];omega);have S:=u j (by rw[aK];omega);have m:=k j (by have:=f.out;omega);rw[bA] at m;have Y:=fun j=>F.free j;have J:=(cI x).getD aQ j;have B:((j:Int)+1).toNat=j+1:=by omega
   rw[B] at n;have G:=fun q r' h=>GK (q:=q) (r':=r') (y:=y) (by rw[aK];omega) (by have:=f.out;omega) h n.out;generalize (dg x).getD j 0=xd at *;have P:=aB G;have N:=aB k;clear G u B k;go_wp2_with fail;refine(wJ r xd y C D J.1 J.2 (by have:=kU;omega) _).mono ?_;rintro e o ⟨q,r',rfl,W,X,ac,ad,z,L,rfl⟩;have g:Below wr.1.size wr (wr.drewN L):=kI (aG _ _) _;generalize wr.drewN L=o at *;have O:=aB z;clear z;have g3:o.cell? ⟨w.1.size,j,none⟩=_:=(g.cell (p:=⟨w.1.size,j,none⟩) d).trans m;have E:=F.be g d;have ah:=fun j=>E.free j;clear S m Y;have ab:w.1.size<o.1.size:=aZ d g.size;go_wp2;go_roundw
   case rel=>
    have s:=(N.out.be g d).set (i:=j) (by have:=f.out;omega) q;rw[bA] at s;refine⟨(j:Int)-1,r',a.set j q,by omega,by omega,rfl,rfl,ac,ad,?_,K.set W X _,?_,s,E.set _ _,?_,?_⟩
    ·unfold Hid;rw[eM];exact f.out
    ·rw[show((j:Int)-1+1).toNat=j by omega];exact P.out q r' O.out
    ·exact(aC l g).setCell aE _
    ·rw[nU];exact ab
   case measure=>simp[intOf]
  ·obtain rfl:q= -1:=by omega
   have hv:aF aA a*y+r=x:=by have:=n.out;simp at this;rw[cU] at this;exact this
   obtain⟨H,I⟩:=wI hv C D;have Q:=aB H;have R:=aB I;clear hv H I;go_wp2_with fail;refine(gC _ a (nl x) (nl x) wr f.out (Rd.mk d k) aE (by omega)).mono ?_;rintro e w4 ⟨rfl,rfl⟩;go_wp2;go_ret2;refine⟨_,by rw[show((x%y:Nat):Int)=r by rw[R.out];rfl];rfl,NatAt.trim (Rd.mk d k) K (by rw[Q.out];rfl) (by rw[f.out];exact aE) (Old.mk d),From.new aE,l⟩
def GL(x y:Nat)(v:Value)(w:World)(L:NatAt w v x)(X:0<y)(Y:y<BN)(G:nl x<=aJ):
  Calls prog 167 #[v,.int .u64 y] w fun e w'=>e= .returned (.int .u64 ((x%y:Nat):Int))∧Below w.1.size w w':=by
 unfold aJ at G;obtain⟨A,c,rfl,R,J,U⟩:=L;go_enter func167,ntmps167;go_wp2;go_loopw [5,6] (fun t i wr=>∃(q r:Int), -1<=q∧q<nl x∧i= .int .i64 q∧t= .int .u64 r∧0<=r∧r<y∧Hid (∃a,a*y+r=aF aA ((dg x).drop (q+1).toNat))∧Below w.1.size w wr) (fun _ i _=>(intOf i+1).toNat)
 case atStart=>exact⟨(nl x:Int)-1,0,by omega,by omega,rfl,rfl,by decide,by omega,by
  rw[show((nl x:Int)-1+1).toNat=nl x by omega];exact⟨0,by rw[gO (by rw[aK];exact aE)];simp⟩,aG _ _⟩
 case round=>
  obtain⟨q,r,V,W,rfl,rfl,m,n,f,d⟩:=hrel;by_cases D:0<=q
  ·obtain⟨j,rfl⟩:=j7 D;obtain⟨b,Z,rfl,Q,g⟩:=(J.be d).at_ (by rw[aK];omega);have P:=g j (by rw[aK];omega);have s:=(cI x).getD aQ j;have l:((j:Int)+1).toNat=j+1:=by omega
   rw[l] at f;have h:=nD aA (dg x) j (by rw[aK];omega);generalize (dg x).getD j 0=O at *;have z:=aB h;clear h g l;go_wp2_with fail;refine(wJ r O y m n s.1 s.2 (by have:=kU;omega) _).mono ?_;rintro e N ⟨q,M,rfl,S,T,H,I,k,u,rfl⟩;have F:Below wr.1.size wr (wr.drewN u):=kI (aG _ _) _;generalize wr.drewN u=N at *;have B:=aB k;clear k;go_wp2;go_roundw
   case rel=>
    refine⟨(j:Int)-1,M,by omega,by omega,rfl,rfl,H,I,?_,aC d F⟩;rw[show((j:Int)-1+1).toNat=j by omega];obtain⟨a,E⟩:=f.out;refine⟨a*aA+q,?_⟩;rw[z.out,<-E];have:=B.out;grind
   case measure=>simp[intOf]
  ·obtain rfl:q= -1:=by omega
   obtain⟨a,hv⟩:=f.out;have o:a*y+r=x:=by simp at hv;rw[cU] at hv;exact hv
   obtain⟨K,p⟩:=wI o m n;have C:=aB p;clear hv o K p;go_wp2;go_ret;exact⟨by rw[<-C.out];rfl,d⟩
section
variable {P V W U D ul dl qt rt q:Int}
def QV(k:0<P)(l:U=W*P+ul)(b:D=V*P+dl)(p:ul<P)(c:0<=dl)(e:0<=q)(o:qt*D+rt=U)(n:0<=rt)(j:0<D)(h:W<q*V):qt+1<=q:=by
 rcases azO qt q with m|d
 ·omega
 ·have f:q*D<=qt*D:=eH d (by omega);have g:q*D=q*V*P+q*dl:=by rw[b];grind
  have a:(W+1)*P<=q*V*P:=eH (by omega) (by omega);have i:=gB e c;rw[azG,az5] at a;omega
def QW(j:0<P)(k:U=W*P+ul)(g:D=V*P+dl)(s:0<=ul)(l:dl<P)(r:qt*D+rt=U)(p:rt<D)(n:q<=V)(o:0<=qt)(i:0<D)(h:q*V<=W):q<=qt+1:=by
 rcases azO (qt+1) q with m|b
 ·have a:(qt+1)*D<=(q-1)*D:=eH (by omega) (by omega);have c:(q-1)*D<=(q-1)*(V*P+P-1):=gK (by omega) (by omega);have d:(q-1)*(V*P+P-1)=(q*V+q-V-1)*P-(q-1):=by grind
  have e:(q*V+q-V-1)*P<=(W-1)*P:=eH (by omega) (by omega);have f:(W-1)*P=W*P-P:=by rw[Int.sub_mul,az5]
  rw[azG,az5] at a;omega
 ·exact b
def QY{u0 u1 u2:Int}(x:0<P)(u:2<=B)(z:V=a*B+b)(l:W=(u0*B+u1)*B+u2)(y:U=W*P+ul)(v:D=V*P+dl)(I:0<=ul)(C:dl<P)(K:b<B)(n:0<=u1)(H:0<=u2)
  (J:B<=2*a)(m:a<=u0)(G:qt*D+rt=U)(F:0<=rt)(E:rt<D)(A:U<B*D)(w:0<D):qt<=B-1∧B-1<=qt+1:=by
 constructor
 ·rcases azO (B-1) qt with h|h
  ·have:B*D<=qt*D:=eH (by omega) (by omega);omega
  ·exact h
 ·rcases azO (qt+1) (B-1) with h|h
  ·have c:(qt+1)*D<=(B-2)*D:=eH (by omega) (by omega);have d:D<=(a+1)*B*P-1:=by
    have e:V*P<=(a*B+(B-1))*P:=eH (by omega) (by omega);have f:(a*B+(B-1))*P=(a+1)*B*P-P:=by grind
    omega
   have e:(B-2)*D<=(B-2)*((a+1)*B*P-1):=gK d (by omega);have f:(B-2)*((a+1)*B*P-1)=((B-2)*(a+1))*(B*P)-(B-2):=by grind
   have g:(B-2)*(a+1)<=a*B:=by
    have:(B-2)*(a+1)=a*B+(B-2*a-2):=by grind
    omega
   have k:0<=B*P:=gB (by omega) (by omega);have s:((B-2)*(a+1))*(B*P)<=(a*B)*(B*P):=eH g k;have i:a*B*B<=W:=by
    rw[l];have j:a*(B*B)<=u0*(B*B):=eH m (gB (by omega) (by omega));have t:=gB n (show 0<=B by omega);have o:a*(B*B)=a*B*B:=by grind
    have p:(u0*B+u1)*B=u0*(B*B)+u1*B:=by grind
    omega
   have j:a*B*B*P<=W*P:=eH i (by omega);have r:(a*B)*(B*P)=a*B*B*P:=by grind
   rw[azG,az5] at c;omega
  ·exact h
end
def QZ(a:List Int)(m:Nat)(h:a.length=m+2):aF aA a=(a.getD (m+1) 0*aA+a.getD m 0)*aA^m+aF aA (a.take m):=by
 rw[gF aA a m (by omega),nD _ _ _ (by omega),nD _ _ _ (by omega),gO (by omega)];simp only[val_nil];grind
def bqW(us:List Int)(m:Nat)(h:us.length=m+3):aF aA us=((us.getD (m+2) 0*aA+us.getD (m+1) 0)*aA+us.getD m 0)*aA^m+aF aA (us.take m):=by
 rw[gF aA us m (by omega),nD _ _ _ (by omega),nD _ _ _ (by omega),nD _ _ _ (by omega),gO (by omega)];simp only[val_nil];grind
def QT{P:Program}{f:FuncId}{args:Array Value}{a:Nat}
  (h:Calls P f args (w.drewN (a+n)) fun e w'=>e= .returned v∧∃m,w'=(w.drewN (a+n)).drewN m):Calls P f args (w.drewN (a+n)) fun e d=>e= .returned v∧∃m,d=w.drewN (a+m):=
 h.mono fun _ _ ⟨b,m,c⟩=>⟨b,n+m,by rw[c,World.drewN_drewN,bxE]⟩
def QU(A A':Option Addr)(us l:List Int)(cu cd m:Nat)(w:World)(a4:us.length=m+3)(a3:l.length=m+2)(hu:Rd .u64 w A us)(hd:Rd .u64 w A' l)(z:InR aA us)(J:InR aA l)
  (bp:9223372036854775808<=l.getD (m+1) 0)(ae:aF aA us<aA*aF aA l)(hm:m+3<=17592186044416)(j rt:Int)(N:j*aF aA l+rt=aF aA us)(an:0<=rt)(ao:rt<aF aA l)(a9:0<=j):
  Calls prog 213 #[.slice A ((m+3:Nat)) cu,.slice A' ((m+2:Nat)) cd] w fun e w'=>∃q,e= .returned (.int .u64 q)∧0<=q∧q<aA∧j<=q∧q<=j+1∧Below w.1.size w w':=by
 obtain⟨b,o,rfl,hb,M⟩:=hu.at_ (by omega);obtain⟨b',o',rfl,bj,W⟩:=hd.at_ (by omega);have g0:=M (m+2) (by omega);have g1:=M (m+1) (by omega);have g2:=M m (by omega);have f1:=W (m+1) (by omega);have f2:=W m (by omega);have ac:=z.getD aQ (m+2);have S:=z.getD aQ (m+1);have av:=z.getD aQ m;have aw:=J.getD aQ (m+1);have k:=J.getD aQ m;have G:=QZ l m a3;have I:=bqW us m a4;have aq:=y9 aQ (z.take m);have ar:=iO aQ (z.take m);have ax:=y9 aQ (J.take m);have X:=iO aQ (J.take m);rw[bK,y8 (by omega)] at ar X;have V:=nW aQ m;generalize aF aA (us.take m)=ul at *;generalize aF aA (l.take m)=dl at *;generalize aA^m=P at *;generalize aF aA us=U at *;generalize aF aA l=D at *;generalize us.getD (m+2) 0=u0 at *;generalize us.getD (m+1) 0=u1 at *;generalize us.getD m 0=u2 at *;generalize l.getD (m+1) 0=d at *;generalize l.getD m 0=f at *;have T:0<D:=by omega
 have ah:=fun (h:d<=u0)=>QY V (show(2:Int)<=aA by decide) rfl rfl I G aq X k.2 S.1 av.1 (by unfold aA;omega) h N an ao ae T;have au:=aB ah;have Q:=aB (fun (q:Int) (hq:0<=q) (h:(u0*aA+u1)*aA+u2<q*(d*aA+f))=>QV V I G ar ax hq N an T h);have O:=aB (fun (q:Int) (hq:q<=d*aA+f) (h:q*(d*aA+f)<=(u0*aA+u1)*aA+u2)=>QW V I G aq X N ao hq a9 T h);clear ah I G N ae M W;have i0:(0:Int)<=(m:Int)+2-1:=by omega
 have i1:(m:Int)+2-1<(m:Int)+2:=by omega
 by_cases az:d<=u0
 ·have ai:=au.out az;go_enter func213,ntmps213;go_wp2;go_quiet (fail);go_wp2;go_ret;exact⟨18446744073709551615,rfl,by decide,by decide,by have:=ai.1;unfold aA at this;omega,by have:=ai.2;unfold aA at this;omega,kI (aG _ _) _⟩
 ·obtain⟨i,r0,aj,am,ba⟩:∃q r,q*d+r=u0*aA+u1∧0<=r∧r<d:=
   ⟨(u0*aA+u1)/d,(u0*aA+u1)%d,by have:=aqR (u0*aA+u1) d;rw[fD];omega,aqG _ (by omega),aqF _ (by omega)⟩
  have al:0<=i∧i<aA:=by
   constructor
   ·rcases azO i 0 with h|h
    ·have t:i*d<= -1*d:=eH (by omega) (by omega);have g:=gB ac.1 (fP aQ);omega
    ·exact h
   ·rcases azO i aA with h|h
    ·exact h
    ·have t:aA*d<=i*d:=eH h (by omega);have g:(u0+1)*aA<=d*aA:=eH (by omega) (fP aQ);rw[azG,az5] at g;rw[fD] at t;omega
  have bc:j<=i:=by
   have:=Q.out (i+1) (by omega) (by
    have t:(u0*aA+u1+1)*aA<=(i+1)*d*aA:=eH (by rw[azG,az5];omega) (fP aQ);have g:(i+1)*(d*aA+f)=(i+1)*d*aA+(i+1)*f:=by grind
    have s:=gB (show 0<=i+1 by omega) k.1;rw[azG (u0*aA+u1),az5] at t;omega)
   omega
  have ab:=aB aj;clear aj;have ak:∀q:Int,q<aA->q<=d*aA+f:=fun q h=>by
   have t:1*aA<=d*aA:=eH (by omega) (fP aQ);omega
  have R:=aB ak;clear ak;have bk:decide (d<=u0)=false:=by simp;omega
  go_enter func213,ntmps213;go_wp2;go_quiet (fail);go_wp2;go_quiet ((go_at_call 195;exact QT (RD u0 u1 d i r0 ac.1 (by omega) S.1 S.2 aw.2 ab.out am ba _)));go_wp2_with fail;simp only[show m+2-1=m+1 from rfl];generalize Z:World.drewN (World.drewN w _) _=w2;have bg:w2.cell? ⟨b,o+m,none⟩=some (.int .u64 u2):=by rw[<-Z];exact g2
  have K:Below w.1.size w w2:=by rw[<-Z];exact kI (kI (aG _ _) _) _
  clear Z;go_loop [8,9] (fun a c=>∃q r,a= .int .u64 q∧c= .int .u64 r∧Hid (q*d+r=u0*aA+u1)∧0<=r∧r<aA∧0<=q∧q<aA∧j<=q) (fun a _=>(intOf a).toNat)
  case atStart=>exact⟨i,r0,rfl,rfl,ab,am,by omega,al.1,al.2,bc⟩
  case round=>
   obtain⟨q,r,rfl,rfl,B,g3,ad,n,p,g6⟩:=hrel;obtain⟨L,H,E⟩:=iT (q*f)
   have bh:=E.hi_bd (gB n k.1) (m:=aA) (by
    have:=(mM n (show q<=aA-1 by omega) k.1 (show f<=aA-1 by omega)).2;have e4:(aA-1)*(aA-1)=aA*aA-2*aA+1:=by rfl
    omega)
   have bi:=E.2;have ap:=E.1;have x:=aB E;have F:=aB ap;clear E ap
   have af:r*aA+u2≥q*f->q<=j+1:=fun h=>O.out q (R.out q p) (by
    have g:q*(d*aA+f)=q*d*aA+q*f:=by grind
    have s:=B.out;have u:(q*d+r)*aA=q*d*aA+r*aA:=by rw[azG]
    rw[s] at u;omega)
   have HG:=aB af;clear af;rcases aqL H r with bo|ay|bm
   ·have v:q<=j+1:=HG.out (by
     have t:(H+1)*aA<=r*aA:=eH (by omega) (fP aQ);have g:=F.out;rw[azG,az5,fD] at t;omega)
    go_wp2_with (go_at_call 90;refine(oG q f L H ⟨n,p⟩ k x.out _).mono ?_;rintro e w' ⟨rfl,rfl⟩);go_ret;exact⟨q,rfl,n,p,g6,v,K⟩
   ·subst ay;by_cases bn:L<=u2
    ·have v:q<=j+1:=HG.out (by
      have g:=F.out;rw[fD] at g;omega)
     have ag:decide (H<H)=false:=by simp
     go_wp2_with (go_at_call 90;refine(oG q f L H ⟨n,p⟩ k x.out _).mono ?_;rintro e w' ⟨rfl,rfl⟩);go_ret;exact⟨q,rfl,n,p,g6,v,K⟩
    ·obtain⟨r,bb⟩:∃r,r=H:=⟨_,rfl⟩;subst bb;have ag:decide (r<r)=false:=by simp
     have a0:decide (L<=u2)=false:=by simp;omega
     have Y:r*aA+u2<q*f:=by have g:=F.out;rw[fD] at g;omega
     have a5:j+1<=q:=Q.out q n (by
      have g:q*(d*aA+f)=q*d*aA+q*f:=by grind
      have s:=B.out;have u:(q*d+r)*aA=q*d*aA+r*aA:=by rw[azG]
      rw[s] at u;omega)
     have y:Hid ((q-1)*d+(r+d)=u0*aA+u1):=by have:=B.out;unfold Hid;rw[Int.sub_mul];omega
     clear Y;have a7:1<=q:=by omega
     have a8:q<=18446744073709551615:=by unfold aA at p;omega
     by_cases C:r+d<aA
     ·have a6:r+d<=18446744073709551615:=by unfold aA at C;omega
      have a2:decide (r+d<d)=false:=by simp;omega
      go_wp2_with (go_at_call 90;refine(oG q f L r ⟨n,p⟩ k x.out _).mono ?_;rintro e w' ⟨rfl,rfl⟩);go_round
      case rel=>exact⟨q-1,r+d,rfl,rfl,y,by omega,C,by omega,by omega,by omega⟩
      case measure=>simp[intOf];omega
     ·have bf:IntKind.u64.wrap (r+d)=r+d-18446744073709551616:=by rw[nB];unfold g8;unfold aA at *;omega
      have a1:r+d-18446744073709551616<d:=by unfold aA at ad;omega
      have v:q-1<=j+1:=O.out (q-1) (R.out _ (by omega)) (by
       have g:(q-1)*(d*aA+f)=(q-1)*d*aA+(q-1)*f:=by grind
       have s:=y.out;have u:((q-1)*d+(r+d))*aA=(q-1)*d*aA+(r+d)*aA:=by rw[azG]
       rw[s] at u;have h5:=(mM (show 0<=q-1 by omega) (show q-1<=aA by omega) k.1 (show f<=aA by omega)).2;have h6:aA*aA<=(r+d)*aA:=eH (by omega) (fP aQ);omega)
      go_wp2_with (go_at_call 90;refine(oG q f L r ⟨n,p⟩ k x.out _).mono ?_;rintro e w' ⟨rfl,rfl⟩);go_ret;exact⟨q-1,rfl,by omega,by omega,by omega,v,K⟩
   ·have ag:decide (H<r)=false:=by simp;omega
    have a0:(H==r)=false:=by simp;omega
    have Y:r*aA+u2<q*f:=by
     have t:(r+1)*aA<=H*aA:=eH (by omega) (fP aQ);have g:=F.out;rw[azG,az5] at t;rw[fD] at g;omega
    have a5:j+1<=q:=Q.out q n (by
     have g:q*(d*aA+f)=q*d*aA+q*f:=by grind
     have s:=B.out;have u:(q*d+r)*aA=q*d*aA+r*aA:=by rw[azG]
     rw[s] at u;omega)
    have y:Hid ((q-1)*d+(r+d)=u0*aA+u1):=by have:=B.out;unfold Hid;rw[Int.sub_mul];omega
    clear Y;have a7:1<=q:=by omega
    have a8:q<=18446744073709551615:=by unfold aA at p;omega
    by_cases C:r+d<aA
    ·have a6:r+d<=18446744073709551615:=by unfold aA at C;omega
     have a2:decide (r+d<d)=false:=by simp;omega
     go_wp2_with (go_at_call 90;refine(oG q f L H ⟨n,p⟩ k x.out _).mono ?_;rintro e w' ⟨rfl,rfl⟩);go_round
     case rel=>exact⟨q-1,r+d,rfl,rfl,y,by omega,C,by omega,by omega,by omega⟩
     case measure=>simp[intOf];omega
    ·have bf:IntKind.u64.wrap (r+d)=r+d-18446744073709551616:=by rw[nB];unfold g8;unfold aA at *;omega
     have a1:r+d-18446744073709551616<d:=by unfold aA at ad;omega
     have v:q-1<=j+1:=O.out (q-1) (R.out _ (by omega)) (by
      have g:(q-1)*(d*aA+f)=(q-1)*d*aA+(q-1)*f:=by grind
      have s:=y.out;have u:((q-1)*d+(r+d))*aA=(q-1)*d*aA+(r+d)*aA:=by rw[azG]
      rw[s] at u;have h5:=(mM (show 0<=q-1 by omega) (show q-1<=aA by omega) k.1 (show f<=aA by omega)).2;have h6:aA*aA<=(r+d)*aA:=eH (by omega) (fP aQ);omega)
     go_wp2_with (go_at_call 90;refine(oG q f L H ⟨n,p⟩ k x.out _).mono ?_;rintro e w' ⟨rfl,rfl⟩);go_ret;exact⟨q-1,rfl,by omega,by omega,by omega,v,K⟩
def QJ(A d:Option Addr)(us a:List Int)(g f n:Nat)(w:World)(hn:2<=n)(v:us.length=n+1)(l:a.length=n)(u:Rd .u64 w A us)(k:Rd .u64 w d a)(i:InR aA us)(h:InR aA a)
  (t:9223372036854775808<=a.getD (n-1) 0)(j:aF aA us<aA*aF aA a)(x:n+1<=17592186044416)(b c:Int)(o:b*aF aA a+c=aF aA us)(r:0<=c)(s:c<aF aA a)(p:0<=b):
  Calls prog 213 #[.slice A (n+1) g,.slice d n f] w fun e w'=>∃q,e= .returned (.int .u64 q)∧0<=q∧q<aA∧b<=q∧q<=b+1∧Below w.1.size w w':=by
 obtain⟨m,rfl⟩:∃m,n=m+2:=⟨n-2,by omega⟩;exact QU A d us a g f m w (by omega) l u k i h t j (by omega) b c o r s p
def QK(h:InR aA L)(b:k<=L.length)(hv:aF aA L<aA^k):aF aA (L.take k)=aF aA L:=by
 rw[gF aA L k b] at hv⊢;have c:=y9 aQ (h.take k);have d:=y9 aQ (h.drop k);have e:=nW aQ k;rcases azO 0 (aF aA (L.drop k)) with a|a
 ·have:aA^k*1<=aA^k*aF aA (L.drop k):=gK (by omega) (by omega);omega
 ·have:aF aA (L.drop k)=0:=by omega
  rw[this];simp
def QL(h:InR aA L)(b:j<=L.length)(hv:aF aA L<D*aA^(j+k)):aF aA (L.drop j)<D*aA^k:=by
 rw[gF aA L j b] at hv;have c:=y9 aQ (h.take j);have d:=nW aQ j;have e:D*aA^(j+k)=aA^j*(D*aA^k):=by rw[aqS];grind
 rw[e] at hv;exact bzL (a:=aA^j) (by omega) (by omega)
def GH(zs:List Int)(j n:Nat)(c:j+n<zs.length)(h:InR aA zs)(b:aF aA (zs.drop j)<aA^(n+1)):
  aF aA (zs.drop j)=aF aA ((zs.drop j).take n)+aA^n*zs.getD (j+n) 0∧aF aA ((zs.drop j).take (n+1))=aF aA (zs.drop j):=by
 have a:=QK (h.drop j) (by rw[gG];omega) b;refine⟨?_,a⟩;rw[<-a,jV _ _ _ (by rw[gG];omega)];congr 2;simp only[eF,aqM]
def QM{U g P:Int}(o:0<P)(p:U=g+P*t)(u:a-b*P=g-D*q)(m:0<=a)(n:a<P)(i:d*D+c=U)(r:0<=c)(s:c<D)(l:D<=P)(k:q=d∨q=d+1):
  (q=d∧b=t∧a=c)∨(q=d+1∧b=t+1∧a+D=c+P):=by
 have j:a+P*(t-b)=U-D*q:=by
  have:P*(t-b)=P*t-b*P:=by grind
  omega
 rcases k with rfl|rfl
 ·left;have e:a+P*(t-b)=c:=by rw[j,<-i,fD];omega
  have f:t-b=0:=by
   rcases aqL (t-b) 0 with h|h|h
   ·have:P*(t-b)<=P*(-1):=gK (by omega) (by omega);omega
   ·exact h
   ·have:P*1<=P*(t-b):=gK (by omega) (by omega);omega
  rw[f] at e;exact⟨rfl,by omega,by simpa using e⟩
 ·right;have e:a+P*(t-b)=c-D:=by rw[j,<-i,bx6,fD];omega
  have f:t-b= -1:=by
   rcases aqL (t-b) (-1) with h|h|h
   ·have:P*(t-b)<=P*(-2):=gK (by omega) (by omega);omega
   ·exact h
   ·have:P*0<=P*(t-b):=gK (by omega) (by omega);omega
  rw[f] at e;exact⟨rfl,by omega,by omega⟩
def QN(a:j+n<zs.length)(f:ts.length=n)(h:InR aA zs)(d:aF aA (zs.drop j)<aA^(n+1))(k:b*D+c=aF aA (zs.drop j))(g:aF aA ts=c):
  aF aA ((patch zs ts j).set (j+n) 0)=aF aA zs-aA^j*(b*D):=by
 subst f;have l:=(GH zs j ts.length a h d).1;rw[nY _ _ _ _ (by rw[RB (by omega)];exact a),rN (by omega),AR (by omega) aE,g];have e:aA^(j+ts.length)=aA^j*aA^ts.length:=aqS _ _ _;rw[e];generalize aF aA ((zs.drop j).take ts.length)=i at *;generalize zs.getD (j+ts.length) 0=t at *;generalize aF aA (zs.drop j)=U at *;generalize aA^ts.length=P at *;generalize aA^j=J at *;grind
def QO{J Q:Int}(c:zv+D*(J*B)*Q=X)(d:b=zv-J*(a*D)):b+D*J*(a+B*Q)=X:=by
 rw[d,<-c];grind
def GI(f:y≠0)(k:s<=64)(h:(y/BN^(nl y-1))*2^s<BN):nl (y*2^s)=nl y:=by
 have i:=gS f;apply byS
 ·refine cJ ?_;have g:=bxO y (BN^(nl y-1));have j:=dI y (show 0<BN^(nl y-1) from eQ (by decide));have c:BN^nl y=BN^(nl y-1)*BN:=by rw[<-dH];congr 1;omega
  rw[c];have b:(y/BN^(nl y-1)+1)*2^s<=BN∨¬(y/BN^(nl y-1)+1)*2^s<=BN:=Classical.em _;generalize y/BN^(nl y-1)=a at *;generalize y%BN^(nl y-1)=r at *;generalize BN^(nl y-1)=p at *;have e:y*2^s<p*((a+1)*2^s):=by
   have:y<p*(a+1):=by rw[iL,az9];omega
   have:=bxF this (show 0<2^s from eQ (by decide));rw[iW] at this;exact this
  rcases b with b|b
  ·exact aZ e (eV _ b)
  ·exfalso;have d:BN=2^(64-s)*2^s:=by rw[<-KF,show 64-s+s=64 by omega];rfl
   rw[d] at h b;have:=bq5 h;exact b (dK _ this)
 ·exact cK (by7 _ (eQ (by decide)))
def wH(a:y≠0):(dg y).getD (nl y-1) 0=((y/BN^(nl y-1):Nat):Int)∧y/BN^(nl y-1)≠0∧y/BN^(nl y-1)<BN:=by
 have c:=gS a;have e:=nD aA (dg y) (nl y-1) (by rw[aK];omega);rw[sU,gO (i:=nl y-1+1) (by rw[aK];omega)] at e;have d:=(cI y).getD aQ (nl y-1);simp only[val_nil,Int.mul_zero,byE] at e;refine⟨e.symm,?_,?_⟩
 ·have b:=AG a;have:=Nat.div_pos b (eQ (by decide));omega
 ·have:=kU;omega
def QP(b:y≠0)(d:2^63<=y/BN^(nl y-1)*2^s)(hn:nl (y*2^s)=nl y):9223372036854775808<=(dg (y*2^s)).getD (nl y-1) 0:=by
 have a:y*2^s≠0:=Nat.mul_ne_zero b (by have:0<2^s:=eQ (by decide);omega);have h:=(wH a).1;rw[hn] at h;rw[h];have c:y/BN^(nl y-1)*2^s<=y*2^s/BN^(nl y-1):=by
  rw[bzW (eQ (by decide)),iW,dN (2^s),<-iW];exact dK _ (bzD _ _)
 omega
def QQ(a:y≠0)(h:nl y<=nl x):((x*2^s:Nat):Int)<((y*2^s:Nat):Int)*aA^(nl x-nl y+1):=by
 rw[<-iX,<-az8];have b:=cyD x;have c:=AG a;have g:=gS a;have d:BN^nl x=BN^(nl y-1)*BN^(nl x-nl y+1):=by rw[<-KF];congr 1;omega
 have e:x<y*BN^(nl x-nl y+1):=aZ (by rw[<-d];exact b) (dK _ c);have f:=bxF e (show 0<2^s from eQ (by decide));rw[iW,dN (BN^_),<-iW] at f;omega
def QR{qv:Int}(f:y≠0)(h:zv+((y*2^s:Nat):Int)*qv=((x*2^s:Nat):Int))(b:0<=zv)(c:zv<((y*2^s:Nat):Int)):qv=((x/y:Nat):Int)∧zv=((x%y*2^s:Nat):Int):=by
 have d:0<2^s:=eQ (by decide);have e:=wI (a:=qv) (y:=((y*2^s:Nat):Int)) (x:=((x*2^s:Nat):Int)) (by rw[<-h,fD,bxI]) b c;rw[<-azR,<-bx8,Nat.mul_div_mul_right _ _ d,Nat.mul_mod_mul_right] at e;exact e
def GJ{c:List Int}(m:j+n<zs.length)(p:ts.length=n)(h:InR aA zs)(o:aF aA (zs.drop j)<aA^(n+1))(g:a*D+b=aF aA (zs.drop j))(s:b<D)
  (q:aF aA ts=b)(f:j<c.length)(e:aF aA zs+D*aA^(j+1)*aF aA (c.drop (j+1))=X):
  aF aA ((patch zs ts j).set (j+n) 0)+D*aA^j*aF aA ((c.set j a).drop j)=X∧aF aA ((patch zs ts j).set (j+n) 0)<D*aA^j:=by
 have d:=QN m p h o g q;have i:aF aA ((c.set j a).drop j)=a+aA*aF aA (c.drop (j+1)):=by
  rw[nD _ _ _ (by rw[eM];exact f),List.drop_set_of_lt (by omega)];simp[gP f]
 constructor
 ·rw[i];rw[gR] at e;exact QO e d
 ·rw[d,gF aA zs j (by omega),<-g];have k:=iO aQ (h.take j);rw[bK,y8 (by omega)] at k;have l:aA^j*(b+1)<=aA^j*D:=gK (by omega) (fP (nW aQ j));rw[bx6,bx7] at l;have r:aA^j*(a*D+b)=aA^j*(a*D)+aA^j*b:=bx6 _ _ _;rw[fD D];omega
def eqV(h:j+ts.length<=zs.length):(patch zs ts j)[i]? =if i<j then zs[i]? else if i<j+ts.length then ts[i-j]? else zs[i]? :=by
 unfold patch;have c:(zs.take j).length=j:=by rw[bK];omega
 by_cases a:i<j
 ·rw[if_pos a,gA (by omega),fC,if_pos a]
 ·rw[if_neg a,fK (by omega),c];by_cases b:i<j+ts.length
  ·rw[if_pos b,gA (by omega)]
  ·rw[if_neg b,fK (by omega),aqM];congr 1;omega
def QS{us:List Int}{v:Int}(e:ts.length=n)(f:us.length=n)(h:j+n<zs.length):
  (patch ((patch zs ts j).set (j+n) m) us j).set (j+n) v=(patch zs us j).set (j+n) v:=by
 apply aq6;intro i;have d:((patch zs ts j).set (j+n) m).length=zs.length:=by rw[eM,RB (by omega)]
 rw[List.getElem?_set,List.getElem?_set,RB (by omega),RB (by omega),d];by_cases a:j+n=i
 ·rw[if_pos a,if_pos a]
 ·rw[if_neg a,if_neg a,eqV (by omega),eqV (by omega),List.getElem?_set,if_neg a,eqV (by omega)];by_cases b:i<j
  ·simp[b]
  ·rw[if_neg b,if_neg b,if_neg b];by_cases c:i<j+us.length
   ·rw[if_pos c,if_pos c]
   ·rw[if_neg c,if_neg c,if_neg (by omega)]
def AX(x k:Nat):(dg x).getD k 0=((x/BN^k%BN:Nat):Int):=by
 rcases dE k (nl x) with h|h
 ·have e:=nD aA (dg x) k (by rw[aK];exact h);rw[sU,sU] at e;have f:=(cI x).getD aQ k;have a:x/BN^(k+1)=x/BN^k/BN:=by rw[dH,aqB]
  rw[a] at e;have c:aA=(BN:Int):=rfl;rw[c] at e f;generalize x/BN^k=T at *;generalize (dg x).getD k 0=d at *;have b:=iD T BN;have g:(T:Int)=BN*((T/BN:Nat):Int)+((T%BN:Nat):Int):=by rw[<-az8,<-Int.natCast_add,b]
  omega
 ·rw[eF,fU (by rw[aK];exact h)];have:x<BN^k:=aZ (cyD x) (fT (by decide) h);rw[azT this];rfl
def GD{T:Nat}(d:s<64):T/2^(64-s)=T/BN*2^s+T%BN/2^(64-s)∧T%BN/2^(64-s)<2^s:=by
 have e:BN=2^(64-s)*2^s:=by rw[<-KF,show 64-s+s=64 by omega];rfl
 have c:0<2^(64-s):=eQ (by decide);refine⟨?_,mU (by rw[<-e];exact dI _ (by decide))⟩;have a:=iD T BN;conv=>lhs;rw[<-a]
 have b:BN*(T/BN)=2^(64-s)*(T/BN*2^s):=by
  conv=>lhs;rw[e]
  grind
 rw[b,byU c]
def GE{a b A:Nat}(l:s<64)(f:a*2^s<BN)(j:b/2^(64-s)<2^s)(g:A=a*2^s+b/2^(64-s)):
  bits .or .u64 (IntKind.u64.wrap ((a:Int)*2^s)) ((b:Int)/2^(64-s))=(A:Int):=by
 have d:(a:Int)*2^s=((a*2^s:Nat):Int):=by push_cast;rfl
 have c:(b:Int)/2^(64-s)=((b/2^(64-s):Nat):Int):=by push_cast;rfl
 have k:=kU;have e:IntKind.u64.wrap ((a*2^s:Nat):Int)=((a*2^s:Nat):Int):=by
  rw[IntKind.wrap_u64];have:a*2^s<18446744073709551616:=f;omega
 have h:∃q:Int,((a*2^s:Nat):Int)=2^s*q:=⟨(a:Int),by push_cast;rw[fD]⟩;have i:((2^s:Nat):Int)=2^s:=by push_cast;rfl
 rw[d,e,c];generalize a*2^s=X at *;generalize b/2^(64-s)=Y at *;rw[GM (z:=(Y:Int)) (y:=(X:Int)) (sh:=s) (by omega) (by omega) (by omega) (by omega) (by omega) h,g];push_cast;rfl
def QI(w:World)(a b:Nat)(e:Ending)(w':World):Prop:=∃(u0 u1 c d:Nat) (f:Bool),e= .returned (.agg #[.int .u64 u0,.int .u64 u1,.int .u64 c,.int .u64 d,.bool f])∧
 u0<BN∧u1<BN∧c<BN∧d<BN∧(c=0∨∃g h,Leh a b u0 u1 c d f g h)∧Below w.1.size w w'
def Blk.set(h:Blk w g cs)(i:Nat)(v:Value):Blk (w.setCell ⟨g,i,none⟩ v) g (cs.set i v):=by
 obtain⟨t,h⟩:=h;exact⟨t,by simp[World.setCell,byY,h]⟩
def Blk.soft(h:Blk w g cs):Soft w g:=by
 obtain⟨t,h⟩:=h;exact⟨_,t,h⟩
def Blk.drewN(h:Blk w g cs)(n:Nat):Blk (w.drewN n) g cs:=h
def Blk.drew(h:Blk w g cs):Blk w.drew g cs:=h
def Blk.new'(w:World)(cs:List Value)(t:TypeId)(g:Nat)(a:w.1.size=g):Blk (w.alloc (.cells cs.toArray t)) g cs:=by subst a;exact Blk.new w cs t
def Blk.alloc(h:Blk w g cs)(o:Obj):Blk (w.alloc o) g cs:=h.ke (Below.heap_alloc w o g h.soft.lt)
def Blk.put5{j l m n o:Value}(h:Blk W g [j,l,m,n,o])(q:Below g w W)(b c d e f:Value):
  ∃a,((((W.setCell ⟨g,0,none⟩ b).setCell ⟨g,1,none⟩ c).setCell ⟨g,2,none⟩ d).setCell ⟨g,3,none⟩ e).setCell ⟨g,4,none⟩ f=a∧(a.cell? ⟨g,0,none⟩=some b∧a.cell? ⟨g,1,none⟩=some c∧a.cell? ⟨g,2,none⟩=some d∧a.cell? ⟨g,3,none⟩=some e∧a.cell? ⟨g,4,none⟩=some f)∧Below g w a:=by
 have z:=((((h.set 0 b).set 1 c).set 2 d).set 3 e).set 4 f;have k:∀{U:World} (i:Nat) (v:Value),Below g w U->Below g w (U.setCell ⟨g,i,none⟩ v):=fun i v h=>h.setCell (p:=⟨g,i,none⟩) (mC g) v;exact⟨_,rfl,⟨z.cell (i:=0) rfl,z.cell (i:=1) rfl,z.cell (i:=2) rfl,z.cell (i:=3) rfl,z.cell (i:=4) rfl⟩,k _ _ (k _ _ (k _ _ (k _ _ (k _ _ q))))⟩
def AY(g h e:Nat)(w:World)(p q u v:Value)(wr:World):Prop:=∃(f t u0 u1 u2 a b d:Nat) (c:Bool),p= .int .u64 f∧q= .int .u64 t∧u= .int .u64 u2∧v= .int .u64 d∧
 Sim g h f t u1 u2 b d (gD c)∧(a=0∨Prev g h u0 u1 a b (gD c))∧u0<18446744073709551616∧u1<18446744073709551616∧u2<18446744073709551616∧a<18446744073709551616∧b<18446744073709551616∧d<18446744073709551616∧
 Blk wr (e+1) [.int .u64 u0,.int .u64 u1,.int .u64 a,.int .u64 b,.bool c]∧Blk wr e [.int .u64 0,.int .u64 0,.int .u64 0,.int .u64 0,.bool false]∧Below w.1.size w wr
def AZ{c d f t u1 u2 b a:Nat}{g:Int}(h:Sim c d f t u1 u2 b a g)(p:a<=t)(s:b+a<=f-t)(u:c<18446744073709551616)(hF:f<18446744073709551616):
  ∃q r e qv:Nat,q<18446744073709551616∧(f:Int)/(t:Int)=(q:Int)∧(f:Int)%(t:Int)=(r:Int)∧(q:Int)*(u2:Int)=(e:Int)∧(q:Int)*(a:Int)=(qv:Int)∧u1+e<18446744073709551616∧b+qv<18446744073709551616∧
   Sim c d t r u2 ((u1+e:Nat):Int) a ((b+qv:Nat):Int) (-g)∧(b=0∨Prev c d u1 u2 b a (-g))∧r<t:=by
 have w:=h.hv2;have v:=h.htf;have k:=h.step (q:=(f:Int)/t) rfl (by omega) (by omega);have i:(f:Int)/(t:Int)=((f/t:Nat):Int):=by push_cast;rfl
 have j:(f:Int)%(t:Int)=((f%t:Nat):Int):=by push_cast;rfl
 rw[i,j] at k;obtain⟨m,n,x,y,z,o,l⟩:=k;refine⟨f/t,f%t,f/t*u2,f/t*a,jI (azK _ _) hF,i,j,by push_cast;rfl,by push_cast;rfl,?_,?_,?_,?_,dI _ (by omega)⟩
 ·have:((u1+f/t*u2:Nat):Int)<=c:=by push_cast;push_cast at o l;omega
  omega
 ·have:((b+f/t*a:Nat):Int)<=c:=by push_cast;push_cast at l;omega
  omega
 ·have:((u1+f/t*u2:Nat):Int)=(u1:Int)+((f/t:Nat):Int)*u2:=by push_cast;rfl
  rw[this];have:((b+f/t*a:Nat):Int)=(b:Int)+((f/t:Nat):Int)*a:=by push_cast;rfl
  rw[this];exact m
 ·rcases n with h|h
  ·left;omega
  ·exact .inr h
def rQ(a:Bool):gD (!a)= -gD a:=by cases a<;>rfl
def GF(a b:Nat)(va vb:Value)(w:World)(ha:NatAt w va a)(hb:NatAt w vb b)(ae:b<=a)(L:2<=nl b)(a4:nl a<=aJ):
  Calls prog 163 #[va,vb] w (QI w a b):=by
 unfold aJ at a4;have N:=cK ae;have bv:a≠0:=by intro h;subst h;rw[dO] at N;omega
 obtain⟨A,c,rfl,hc,a7,b2⟩:=ha;obtain⟨B,d,rfl,hd,a8,b3⟩:=hb;obtain⟨ba,oa,rfl,b9,ah⟩:=a7.at_ (by rw[aK];omega);obtain⟨bb,ob,rfl,ca,ai⟩:=a8.at_ (by rw[aK];omega);obtain⟨b4,al,Q⟩:=wH bv;obtain⟨s,E,ak,a9,O⟩:=wK _ al Q;obtain⟨n,hn⟩:∃n,nl a=n+2:=⟨nl a-2,by omega⟩;have p1:a/BN^(nl a-1)=a/BN^n/BN:=by rw[aqB,<-dH];congr 2;omega
 have b5:b/BN^(nl a-1)=b/BN^n/BN:=by rw[aqB,<-dH];congr 2;omega
 have G:=ah (n+1) (by rw[aK];omega);have R:=ah n (by rw[aK];omega);rw[AX] at G R;have eA:a/BN^(n+1)=a/BN^n/BN:=by rw[aqB,<-dH]
 have eB:b/BN^(n+1)=b/BN^n/BN:=by rw[aqB,<-dH]
 have tA:=GD (T:=a/BN^n) E;have tB:=GD (T:=b/BN^n) E;have ay:b/BN^n<=a/BN^n:=Nat.div_le_div_right ae;rw[p1] at ak a9 O Q al;rw[eA] at G;have av:a/BN^n/BN%BN=a/BN^n/BN:=jJ Q;rw[av] at G;have ad:b/BN^n/BN<=a/BN^n/BN:=Nat.div_le_div_right ay;obtain⟨P,W⟩:∃P,P=BN^n*2^(64-s):=⟨_,rfl⟩;have ax:0<P:=by rw[W];exact aqZ (eQ (by decide)) (eQ (by decide))
 obtain⟨l,Y⟩:∃l,l=a/P:=⟨_,rfl⟩;obtain⟨o,D⟩:∃o,o=b/P:=⟨_,rfl⟩;have ac:l=a/BN^n/BN*2^s+a/BN^n%BN/2^(64-s):=by rw[Y,W,<-aqB];exact tA.1
 have S:o=b/BN^n/BN*2^s+b/BN^n%BN/2^(64-s):=by rw[D,W,<-aqB];exact tB.1
 have a3:b/BN^n/BN*2^s<BN:=jI (dK _ ad) O;have am:=GE E O tA.2 ac;have an:=GE E a3 tB.2 S;have cb:o<=l:=by rw[Y,D];exact Nat.div_le_div_right ae
 have bx:l<18446744073709551616:=by
  have e:BN=2^(64-s)*2^s:=by rw[<-KF,show 64-s+s=64 by omega];rfl
  have H:a/BN^n/BN<2^(64-s):=by
   have:a/BN^n/BN*2^s<2^(64-s)*2^s:=by rw[<-e];exact O
   exact bq5 this
  have L:(a/BN^n/BN+1)*2^s<=2^(64-s)*2^s:=dK _ H;rw[<-e,aqA] at L;have h3:=tA.2;rw[ac];show _<BN
  omega
 have aw:∀(u0 u1 j g:Nat) (k:Bool),Prev l o u0 u1 j g (if k then -1 else 1)->∃na nb,Leh a b u0 u1 j g k na nb:=by
  intro u0 u1 j g k h;have:=OQ h (dI a ax) (dI b ax);rw[Y,D,dN,iD,dN,iD] at this;exact this
 have ao:=aB aw;have bu:=kU;have Z:nl b=n+2->w.cell? ⟨bb,ob+(n+1),none⟩=some (.int .u64 ((b/BN^n/BN:Nat):Int)):=by
  intro h;have:=ai (n+1) (by rw[aK];omega);rw[AX,eB,jJ (jI ad Q)] at this;exact this
 have M:n+1<=nl b->w.cell? ⟨bb,ob+n,none⟩=some (.int .u64 ((b/BN^n%BN:Nat):Int)):=by
  intro h;have:=ai n (by rw[aK];omega);rw[AX] at this;exact this
 have U:nl b=n+1->(o:Int)=((b/BN^n%BN:Nat):Int)/2^(64-s):=by
  intro h;have H:b/BN^n/BN=0:=by
   rw[aqB,<-dH];exact azT (by have:=cyD b;rw[h] at this;exact this)
  rw[S,H,azW,bA];push_cast;rfl
 have V:nl b<n+1->o=0:=by
  intro h;have H:b/BN^n=0:=azT (aZ (cyD b) (fT (by decide) (by omega)));rw[S,H];simp
 have J:(a/BN^n/BN:Nat)<aA:=by omega
 have I:(0:Int)<(a/BN^n/BN:Nat):=by omega
 generalize a/BN^n/BN=a1 at *;generalize a/BN^n%BN=a0 at *;generalize b/BN^n/BN=b1 at *;generalize b/BN^n%BN=b0 at *;have F:=aB ak;have i1:((nl a:Int)-1).toNat=n+1:=by omega
 have i2:((nl a:Int)-2).toNat=n:=by omega
 clear p1 b5 eA eB tA tB ay ak a9 O Q al b4 av ad W Y D ac S a3 aw bu ah ai a7 a8 b2 b3;generalize BN^n=X at *;clear i1 i2;rw[hn] at hc a4 N⊢;clear hn;rcases(show nl b=n+2∨nl b=n+1∨nl b<n+1 by omega) with ag|af|az
 focus (
  have bt:=Z ag;have ab:=M (by omega);rw[ag] at hd L N⊢;clear Z M U V ag;go_enter func163,ntmps163;go_wp2_with fail;refine(rR a1 s I J (by rw[j9];exact F.out) _).mono ?_;rintro e bf ⟨rfl,rfl⟩;go_wp2_with fail;go_quiet (fail);go_wp2_with fail;go_quiet (fail);go_wp2_with fail;clear am an G R bt ab I J F E)
 rotate_left
 focus (
  have ab:=M (by omega);have D:=U af;rw[af] at hd L N⊢;have q1:((n:Int)+1==(n:Int)+2)=false:=by simp
  have q2:((n:Int)+1==(n:Int)+2-1)=true:=by simp;omega
  clear Z M U V af an;go_enter func163,ntmps163;go_wp2_with fail;refine(rR a1 s I J (by rw[j9];exact F.out) _).mono ?_;rintro e bf ⟨rfl,rfl⟩;go_wp2_with fail;go_quiet (fail);go_wp2_with (simp only[<-D]);clear am G R ab I J F E D q1 q2)
 rotate_left
 focus (
  obtain⟨m,hm⟩:∃m,m=nl b:=⟨_,rfl⟩;have bh:=aB (V az);have q1:((m:Int)==(n:Int)+2)=false:=by simp;omega
  have q2:((m:Int)==(n:Int)+2-1)=false:=by simp;omega
  rw[<-hm] at hd L N⊢;clear Z M U V az an hm;go_enter func163,ntmps163;go_wp2_with fail;refine(rR a1 s I J (by rw[j9];exact F.out) _).mono ?_;rintro e bf ⟨rfl,rfl⟩;go_wp2_with fail;go_quiet (fail);go_wp2_with fail;clear am G R I J F E q1 q2)
 all_goals (
  have bg:Hid (∀(u0 u1 j g:Nat) (k:Bool),j=0∨Prev l o u0 u1 j g (gD k)->j=0∨∃na nb,Leh a b u0 u1 j g k na nb):=fun u0 u1 j g k h=>h.imp id (fun h=>ao.out u0 u1 j g k h);clear ao;go_loopw [7,8,10,11] (fun p q u v wr=>AY l o w.1.size w p q u v wr) (fun _ q _ _ _=>(intOf q).toNat)
  case atStart=>
   refine⟨l,o,0,1,0,0,0,1,false,rfl,by first|rfl|(rw[bh.out];rfl),rfl,rfl,?_,.inl rfl,by decide,by decide,by decide,by decide,by decide,by decide,?_,?_,?_⟩
   ·have:=Sim.start (A:=(l:Int)) (B:=(o:Int)) (by omega) (by omega);simpa [gD] using this
   ·exact Blk.new' _ [Value.int IntKind.u64 0,Value.int IntKind.u64 1,Value.int IntKind.u64 0,Value.int IntKind.u64 0,Value.bool false] 208 _ (by simp)
   ·exact((Blk.new w [Value.int IntKind.u64 0,Value.int IntKind.u64 0,Value.int IntKind.u64 0,Value.int IntKind.u64 0,Value.bool false] 208).drewN _).alloc _
   ·exact((kI ((aG _ _).alloc aE _) _).alloc (by simp) _)
  case round=>
   obtain⟨f,t,u0,u1,u2,j,g,x,k,rfl,rfl,rfl,rfl,K,a5,bn,ar,bo,bp,au,br,C,y,a2⟩:=hrel;have aj:=K.room;have ch:t<=f:=by have:=K.htf;omega
   have ci:1<=x:=by have:=K.hv2;omega
   have bz:f<18446744073709551616:=by
    have H:=K.sum;have h3:(1:Int)*f<=x*f:=eH (by omega) (by omega);have h4:(0:Int)<=g*t:=gB (by omega) (by omega);omega
   have c0:=C.cell (i:=0) rfl;have c1:=C.cell (i:=1) rfl;have c2:=C.cell (i:=2) rfl;have c3:=C.cell (i:=3) rfl;have c4:=C.cell (i:=4) rfl;have cc:=C.soft.free;have r0:=y.cell (i:=0) rfl;have r1:=y.cell (i:=1) rfl;have r2:=y.cell (i:=2) rfl;have r3:=y.cell (i:=3) rfl;have r4:=y.cell (i:=4) rfl;have cd:=y.soft.free;have aq:=aB K;have ap:=aB a5;clear K a5;by_cases k1:x<=t;rotate_left
   focus (
    have ck:¬(x:Int)<=t:=by omega
    clear aj;go_wp2_with fail)
   rotate_left
   focus (
    have cj:g+x<=l:=by have:=aj.1 (by omega);omega
    have k3:g+x<18446744073709551616:=by omega
    clear aj;by_cases k2:g+x<=f-t
    focus (
     obtain⟨q,r,qu,qv,bq,b6,bs,b7,b8,bk,bm,bc,a6,ce⟩:=AZ aq.out k1 k2 bx bz;have cg:¬t=0:=by omega
     have bj:=aB bc;have bi:=aB a6;clear bc a6 ap aq;go_wp2_with fail;go_quiet (fail);go_wp2_with fail;go_roundw
     case rel=>
      refine⟨t,r,u1,u2,u1+qu,g,x,g+qv,!k,rfl,by rw[bs],by go_num,by go_num,?_,?_,ar,bo,bk,au,br,bm,?_,?_,?_⟩
      ·rw[rQ];exact bj.out
      ·rw[rQ];exact bi.out
      ·exact((((((C.drewN _).set 0 _).set 1 _).set 2 _).set 3 _).set 4 _)
      ·exact((((((y.drewN _).other (by omega) _).other (by omega) _).other (by omega) _).other (by omega) _).other (by omega) _)
      ·exact((((((kI a2 _).setCell (by simp) _).setCell (by simp) _).setCell (by simp) _).setCell (by simp) _).setCell (by simp) _)
     case measure=>simp[intOf];omega)
    focus (
     have cl:¬(g:Int)+x<=f-t:=by omega
     go_wp2_with fail))
   all_goals (
    obtain⟨w5,e5,z,bw⟩:=y.put5 a2 (.int .u64 u0) (.int .u64 u1) (.int .u64 j) (.int .u64 g) (.bool k);rw[e5];exact aM (v:= .agg #[.int .u64 u0,.int .u64 u1,.int .u64 j,.int .u64 g,.bool k]) (by simp[results,results163,go_sem,z]) rfl ⟨u0,u1,j,g,k,rfl,bn,ar,bp,au,bg.out _ _ _ _ _ ap.out,bw⟩))
