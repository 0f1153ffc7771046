/- Laws. -/
import Derived.Test.YtfdaieaidpcdgaaGreatDoorU18
set_option linter.all false
set_option maxHeartbeats 8000000
set_option maxRecDepth 99999
namespace Go.Proofs.YtfdaieaidpcdgaaGreatDoor
open Sos
end Go.Proofs.YtfdaieaidpcdgaaGreatDoor
namespace Go.Proofs.YtfdaieaidpcdgaaGreatDoor
open Go.RowKit Sos
variable{a g l r ys:List Int}
def K1(a b q:List Int)(m:Int):List Int:=aW aV (uG (aW aV (a.map (·*m))) (sN q b) (-1))
inductive Ext(B:Nat):List Int->List Int->List Int->List Int->List Int->List Int->Prop
 |done (a s0 s1:List Int):Ext B a [] s0 s1 a s0
 |step {a b s0 s1 q r g s:List Int} {m c:Int} (hb:b≠[]) (h:PQRes a b B m q r) (hc:c≠0) (hr:∀n∈r,c∣n) (hn:∀n∈K1 s0 s1 q m,c∣n) (t:Ext B b (jX r c) s1 (jX (K1 s0 s1 q m) c) g s):Ext B a b s0 s1 g s
def YJ{d:Nat->Int}{L:Nat}(k:ys≠[])(o:aN ys)(b:∀i,L<=i->d i=0)(h:∀i,ys.length<=i+1->conv d (cf ys) i=0):∀i,d i=0:=by
 induction L with
 |zero=>exact fun i=>b i (dC _)
 |succ L l=>
  refine l (fun i r=> ?_);by_cases f:L+1<=i
  ·exact b i f
  ·have e:i=L:=by omega
   subst e;have c:=p5 (p:=d) (q:=cf ys) (m:=i) (n:=ys.length-1) (fun j g=>b j (by omega)) (fun j g=>bV (by omega));rw[h _ (by omega)] at c;rcases Int.mul_eq_zero.1 c.symm with a|a
   ·exact a
   ·exact absurd a ((fT k).1 o)
def YK(c:aN r)(h:∀i,cf r i=0):r=[]:=oZ c (fun a b=>by simp at b) (fun i=>by rw[h,eR])
def YL(q ys r xs:List Int)(m0:Int)(n:Nat):Bool:=(List.range n).all (fun i=>m0*cf xs i==conv (cf q) (cf ys) i+cf r i)
def oB(h:(match l.getLast? with|none=>true|some a=>a != 0)=true):aN l:=fun a b=>by
 rw[b] at h;simpa using h
def YM{B:Nat}(h:Euc B a [] g):g=a:=by
 cases h with
 |done=>rfl
 |one b=>simp at b
 |step b _ _=>simp at b
end Go.Proofs.YtfdaieaidpcdgaaGreatDoor
namespace Go.Proofs.YtfdaieaidpcdgaaGreatDoor
open Sos
variable{c d:Rat}{e r y:List Int}
section
variable {R:Type}[Add R][Mul R][Sub R][OfNat R 0][CR R]
def XW(p q:Nat->R){n i:Nat}(h:i<=n):conv p q i=bW (fun k=>p k*(if k<=i then q (i-k) else 0)) (n+1):=by
 obtain⟨d,rfl⟩:∃d,n=i+d:=⟨n-i,by omega⟩;rw[show i+d+1=i+1+d by omega,AA,qC (n:=d) (fun k _=>by rw[if_neg (by omega),CR.mul_zero]),CR.add_zero];exact mH (fun k a=>by rw[if_pos (by omega)])
def cx4(p q r:Nat->R)(i:Nat):conv (conv p q) r i=conv p (conv q r) i:=by
 have b:conv (conv p q) r i=bW (fun k=>bW (fun j=>p j*((if j<=k then q (k-j) else 0)*r (i-k))) (i+1)) (i+1):=by
  refine mH (fun k a=> ?_);rw[XW p q (show k<=i by omega),CR.mul_comm,<-zZ];refine mH (fun j _=> ?_);rw[CR.mul_comm (r (i-k)),CR.mul_assoc]
 rw[b,O5];refine mH (fun j l=> ?_);rw[zZ];congr 1;obtain⟨d,h⟩:∃d,i+1=j+d:=⟨i+1-j,by omega⟩;rw[h,AA,qC (n:=j) (fun k a=>by rw[if_neg (by omega),rE]),zY];have c:d=i-j+1:=by omega
 rw[c];refine mH (fun k a=> ?_);rw[if_pos (by omega),show j+k-j=k by omega,show i-(j+k)=i-j-k by omega]
end
def XY(xs ys:List Int)(y:Int)(i:Nat):cf (uG xs ys y) i=cf xs i+cf ys i*y:=by
 unfold uG;rw[qA];split
 ·rfl
 ·rw[bV (show xs.length<=i by omega),bV (show ys.length<=i by omega)];simp
def Dv(f:Nat->Int)(d:List Int):Prop:=∃(k:Int) (u:List Int),k≠0∧∀i,k*f i=conv (cf u) (cf d) i
section
variable {f g:Nat->Int}{d e:List Int}
def Dv.congr(h:Dv f d)(a:∀i,g i=f i):Dv g d:=by
 obtain⟨k,u,b,c⟩:=h;exact⟨k,u,b,fun i=>by rw[a,c]⟩
def Dv.self(d:List Int)(c:Int):Dv (fun i=>c*cf d i) d:=⟨1,[c],by decide,fun i=>by
 have h:∀k,cf [c] k=if k=0 then c else 0:=fun k=>by
  cases k with
  |zero=>rfl
  |succ k=>rw[bV (by simp)];rfl
 rw[gL h (fun _=>rfl),qE,if_pos (dC _),az5];rfl⟩
def Dv.zero(d:List Int):Dv (fun _=>0) d:=⟨1,[],by decide,fun i=>by rw[lK (fun k=>eR k)];simp⟩
def Dv.lin(h:Dv f d)(a:Dv g d)(q:List Int)(c c':Int):Dv (fun i=>c*f i+c'*conv (cf q) g i) d:=by
 obtain⟨k,u,b,n⟩:=h;obtain⟨l,v,m,hv⟩:=a;refine⟨k*l,uG (u.map (·*(l*c))) (sN q v) (k*c'),bxK b m,fun i=> ?_⟩;have e:∀j,cf (uG (u.map (·*(l*c))) (sN q v) (k*c')) j=(l*c)*cf u j+(k*c')*conv (cf q) (cf v) j:=fun j=>by
  rw[XY,CC,NZ,fD (cf u j),fD (conv _ _ _)]
 rw[gL e (fun _=>rfl),qD,kT,kT,<-n,cx4,gL (fun _=>rfl) (fun j=>(hv j).symm),rF];grind
def Dv.cancel{c:Int}(a:c≠0)(h:Dv (fun i=>c*f i) d):Dv f d:=by
 obtain⟨k,u,b,j⟩:=h;exact⟨k*c,u,bxK b a,fun i=>by rw[Int.mul_assoc];exact j i⟩
def Dv.none(h:Dv (cf r) y)(j:r.length<y.length)(o:aN y):∀i,cf r i=0:=by
 obtain⟨k,u,m,l⟩:=h;have p:y≠[]:=fun e=>by rw[e] at j;simp at j
 have n:=YJ (d:=cf u) (L:=u.length) p o (fun i c=>bV c) (fun i c=>by rw[<-l,bV (by omega)];simp);intro i;have b:=l i;rw[lK n] at b;rcases Int.mul_eq_zero.1 b with a|a
 ·exact absurd a m
 ·exact a
end
structure ExtI(x y:List Int)(D:Int)(a b s0 s1:List Int):Prop where
 c0:Dv (fun i=>D*cf a i+ -1*conv (cf s0) (cf x) i) y
 c1:Dv (fun i=>D*cf b i+ -1*conv (cf s1) (cf x) i) y
 dv:∀d,Dv (cf a) d->Dv (cf b) d->Dv (cf x) d∧Dv (cf y) d
 ne:a≠[]∨b≠[]
 ta:aN a
 tb:aN b
 t0:aN s0
 t1:aN s1
 len:(s1=[]∧a=x∧b=y∧s0.length<=1)∨(s1.length+a.length<=y.length+1∧s0.length+a.length<=y.length∧b.length<a.length)
structure ExtR(x y:List Int)(D:Int)(g s:List Int):Prop where
 c:Dv (fun i=>D*cf g i+ -1*conv (cf s) (cf x) i) y
 dx:Dv (cf x) g
 dy:Dv (cf y) g
 ne:g≠[]
 tg:aN g
 ts:aN s
 len:s.length+g.length<=y.length
structure BezRes(A B G S T:List Rat)(Kg K:Nat):Prop where
 id_:∀i,conv (cf S) (cf A) i+conv (cf T) (cf B) i=cf G i
 da:∃U:List Rat,∀i,cf A i=conv (cf U) (cf G) i
 db:∃U:List Rat,∀i,cf B i=conv (cf U) (cf G) i
 ne:G≠[]
 tg:aN G
 ts:aN S
 tt:aN T
 last:cf G (G.length-1)=1
 len:B=[]∨S.length+G.length<=B.length
 lg:G.length<=max A.length B.length
 ls:S.length<=B.length+1
 lt:T.length<=A.length+B.length
 bg:∀q∈G,RL Kg q
 bs:∀q∈S,RL K q
 bt:∀q∈T,RL K q
 bsa:∀i,i<=1000->RL K (conv (cf S) (cf A) i)
 btb:∀i,i<=1000->RL K (conv (cf T) (cf B) i)
def XL(h:c≠0):c⁻¹≠0:=fun e=>h (by have:=Rat.inv_inv c;rw[e,Rat.inv_zero] at this;exact this.symm)
def m6(h:c≠0)(k:d≠0):c*d≠0:=fun e=>(Rat.mul_eq_zero.1 e).elim h k
def uC(h:c≠0)(k:d≠0):c/d≠0:=by rw[azE];exact m6 h (XL k)
structure Rl(G:List Rat)(c:Rat)(r:List Rat)(e:List Int):Prop where
 c0:c≠0
 r_:∀i,conv (cf r) (cf G) i=c*cf e i
 tr:aN r
 te:aN e
def Rl.len{G r:List Rat}(h:Rl G c r e)(s:cf G (G.length-1)≠0)(hn:1<=G.length):(r=[]->e=[])∧(r≠[]->r.length+G.length=e.length+1):=by
 constructor
 ·rintro rfl;refine YK h.te (fun i=> ?_);have:=h.r_ i;rw[lK (fun k=>eR k)] at this;rcases Rat.mul_eq_zero.1 this.symm with a|a
  ·exact absurd a h.c0
  ·exact Rat.intCast_inj.1 a
 ·intro g;have w:=List.length_pos_iff.2 g;have u:=(fT g).1 h.tr;have f:=p5 (p:=cf r) (q:=cf G) (m:=r.length-1) (n:=G.length-1) (fun i b=>bV (by omega)) (fun i b=>bV (by omega));rw[h.r_] at f;have v:cf e (r.length-1+(G.length-1))≠0:=fun d=>by
   rw[d,aq4,KS] at f;exact m6 u s f.symm
  have l:r.length-1+(G.length-1)<e.length:=by
   rcases dE (r.length-1+(G.length-1)) e.length with a|a
   ·exact a
   ·exact absurd (bV a) v
  have t:e≠[]:=fun d=>by rw[d] at l;simp at l
  have x:¬r.length+(G.length-1)<e.length:=fun a=>by
   have o:=(fT t).1 h.te;have j:=rG (p:=cf r) (q:=cf G) (m:=r.length) (n:=G.length) (fun i b=>bV b) (fun i b=>bV b) (i:=e.length-1) (by omega);rw[h.r_] at j;exact m6 h.c0 (gJ o) j
  omega
end Go.Proofs.YtfdaieaidpcdgaaGreatDoor
namespace Go.Proofs.YtfdaieaidpcdgaaGreatDoor
open Go.RowKit Sos Tryz
variable{w:World}
def VR{a:List (List UInt8)}(h:¬a.length<=65):vl a=false:=by unfold vl;rw[jA];exact fun b=>h b.1
def VS(a:List (List UInt8)):(aU a).length=a.length:=cH _
def RatAt.int{s s':Bool}{u a:Value}{n:Int}(b:IntAt w (.agg #[.bool s,u]) n)(c:IntAt w (.agg #[.bool s',a]) 0):RatAt w (.agg #[.bool s,u,.bool s',a]) (n:Rat):=
 RatAt.of b c rfl (fV.2 rfl)
def tO:nl (Int.natAbs 0)<=17592186044416:=by rw[show Int.natAbs 0=0 from rfl,dO];exact dC _
def UV(n:Int):bS (n:Rat)=0:=fV.2 rfl
def BZ(n:Int)(f:Value)(w:World)(hn:IntAt w f n):
  Calls prog 24 #[f] w (iF w (n:Rat)):=by
 obtain⟨d,a,c,b,rfl⟩:=hn.form;have h:Bx ((w.alloc (.cells #[.bool d,.slice a c b] 42)).alloc (.cells #[.bool false,.slice none 0 0,.bool false,.slice none 0 0] 48)) (w.1.size) [.bool d,.slice a c b] 42:=(Bx.newAt w [.bool d,.slice a c b] 42 (w.1.size) (by simp)).alloc (.cells #[.bool false,.slice none 0 0,.bool false,.slice none 0 0] 48);have R:Bx ((w.alloc (.cells #[.bool d,.slice a c b] 42)).alloc (.cells #[.bool false,.slice none 0 0,.bool false,.slice none 0 0] 48)) (w.1.size+1) [.bool false,.slice none 0 0,.bool false,.slice none 0 0] 48:=Bx.newAt (w.alloc (.cells #[.bool d,.slice a c b] 42)) [.bool false,.slice none 0 0,.bool false,.slice none 0 0] 48 (w.1.size+1) (by simp);have g:Below w.1.size w ((w.alloc (.cells #[.bool d,.slice a c b] 42)).alloc (.cells #[.bool false,.slice none 0 0,.bool false,.slice none 0 0] 48)):=((aG _ _).alloc (by simp) _).alloc (by simp<;>omega) _;go_enter func24,ntmps24;go_wp2_with fail;have i:=hn.be g;have e:=((aG w.1.size w).alloc aE (.cells #[.bool d,.slice a c b] 42)).alloc (by simp) (.cells #[.bool d,.slice a c b,.bool false,.slice none 0 0] 48);exact aM (v:= .agg #[.bool d,.slice a c b,.bool false,.slice none 0 0]) (by simp[results,results24,go_sem]) rfl ⟨_,rfl,RatAt.int (hn.be e) (IntAt.zero _),e⟩
def cqY(x y:Int)(vx vy:Value)(w:World)(G:RatAt w vx (x:Rat))(H:RatAt w vy (y:Rat))(ac:nl x.natAbs+nl y.natAbs<=17592186044416):
  Calls prog 23 #[vx,vy] w (iF w ((x*y:Int):Rat)):=by
 obtain⟨s,A,k,c,U,I,Q,M,rfl⟩:=G.form;obtain⟨t,C,l,e,Z,K,T,O,rfl⟩:=H.form;obtain⟨W,P,a,X,Y,R⟩:=gE w [.bool s,.slice A k c,.bool U,.slice I Q M] 48 [.bool t,.slice C l e,.bool Z,.slice K T O] 48 [.bool false,.slice none 0 0,.bool false,.slice none 0 0] 48;have j:=aa X.g4 (aa Y.g4 R.g4);go_enter func23,ntmps23;go_wp2_with fail;(try rw[P]);clear P;have f:IntAt W (.agg #[.bool s,.slice A k c]) x:=(G.be a).num;have h:IntAt W (.agg #[.bool U,.slice I Q M]) 0:=by have:=(G.be a).den;rw[UV] at this;exact this
 have g:IntAt W (.agg #[.bool t,.slice C l e]) y:=(H.be a).num;have i:IntAt W (.agg #[.bool Z,.slice K T O]) 0:=by have:=(H.be a).den;rw[UV] at this;exact this
 refine(g9 x _ _ f (by omega)).mono ?_;rintro e1 w1 ⟨rfl,p⟩;replace X:=X.be p;replace Y:=Y.be p;replace R:=R.be p;replace j:=aa X.k4 (aa Y.k4 R.g4);replace b:=Keep.be p;replace f:=f.ke b;replace h:=h.ke b;replace g:=g.ke b;replace i:=i.ke b;replace a:=aC a p;by_cases E:x=0
 ·have d:decide (x=0)=true:=by simpa using E
  rw[d];have z:x*y=0:=by rw[E,bxB]
  have o:=aB z;clear d z E;go_wp2_with fail;obtain⟨L,m,R,a,b,n⟩:=R.put4 a (by omega) (.bool false) (.slice none 0 0) (.bool false) (.slice none 0 0) rfl rfl;replace X:=n X;replace Y:=n Y;rw[m];clear m;replace j:=aa X.k4 (aa Y.k4 R.k4);exact aM (v:= .agg #[.bool false,.slice none 0 0,.bool false,.slice none 0 0]) (by simp[results,results23,go_sem,R.k4]) rfl ⟨_,rfl,RatAt.of (IntAt.zero _) (IntAt.zero _) (by rw[o.out];rfl) (by rw[o.out];rfl),a⟩
 ·have d:decide (x=0)=false:=by simpa using E
  rw[d];clear d;go_wp2_with fail;refine(g9 y _ _ g (by omega)).mono ?_;rintro e2 w2 ⟨rfl,q⟩;replace X:=X.be q;replace Y:=Y.be q;replace R:=R.be q;replace j:=aa X.k4 (aa Y.k4 R.g4);replace b:=Keep.be q;replace f:=f.ke b;replace h:=h.ke b;replace g:=g.ke b;replace i:=i.ke b;replace a:=aC a q;by_cases F:y=0
  ·have d:decide (y=0)=true:=by simpa using F
   rw[d];have z:x*y=0:=by rw[F,Int.mul_zero]
   have o:=aB z;clear d z F;go_wp2_with fail;obtain⟨L,m,R,a,b,n⟩:=R.put4 a (by omega) (.bool false) (.slice none 0 0) (.bool false) (.slice none 0 0) rfl rfl;replace X:=n X;replace Y:=n Y;rw[m];clear m;replace j:=aa X.k4 (aa Y.k4 R.k4);exact aM (v:= .agg #[.bool false,.slice none 0 0,.bool false,.slice none 0 0]) (by simp[results,results23,go_sem,R.k4]) rfl ⟨_,rfl,RatAt.of (IntAt.zero _) (IntAt.zero _) (by rw[o.out];rfl) (by rw[o.out];rfl),a⟩
  ·have d:decide (y=0)=false:=by simpa using F
   rw[d];clear d;go_wp2_with fail;refine(g9 0 _ _ h tO).mono ?_;rintro e3 w3 ⟨rfl,r⟩;replace X:=X.be r;replace Y:=Y.be r;replace R:=R.be r;replace j:=aa X.k4 (aa Y.k4 R.g4);replace b:=Keep.be r;replace f:=f.ke b;replace h:=h.ke b;replace g:=g.ke b;replace i:=i.ke b;replace a:=aC a r;have d:decide ((0:Int)=0)=true:=rfl;rw[d];clear d;go_wp2_with fail;refine(g9 0 _ _ i tO).mono ?_;rintro e4 w4 ⟨rfl,u⟩;replace X:=X.be u;replace Y:=Y.be u;replace R:=R.be u;replace j:=aa X.k4 (aa Y.k4 R.g4);replace b:=Keep.be u;replace f:=f.ke b;replace h:=h.ke b;replace g:=g.ke b;replace i:=i.ke b;replace a:=aC a u;have d:decide ((0:Int)=0)=true:=rfl;rw[d];clear d;go_wp2_with fail;refine(jB x y _ _ _ f g ac).mono ?_;rintro e5 w5 ⟨v5,rfl,B,D⟩;obtain⟨V,J,S,N,rfl⟩:=B.form;replace X:=X.be D;replace Y:=Y.be D;replace R:=R.be D;replace j:=aa X.k4 (aa Y.k4 R.g4);replace a:=aC a D;go_wp2_with fail;obtain⟨L,m,R,a,b,n⟩:=R.put4 a (by omega) (.bool V) (.slice J S N) (.bool false) (.slice none 0 0) rfl rfl;replace X:=n X;replace Y:=n Y;replace B:=B.ke b;rw[m];clear m;replace j:=aa X.k4 (aa Y.k4 R.k4);exact aM (v:= .agg #[.bool V,.slice J S N,.bool false,.slice none 0 0]) (by simp[results,results23,go_sem,R.k4]) rfl ⟨_,rfl,RatAt.int B (IntAt.zero _),a⟩
def VW(w:World)(l:List UInt8)(e:Ending)(w':World):Prop:=∃v z,e= .returned (.tuple #[v,.bool (decide (l≠[]∧l.all bO=true))])∧NI w' v z∧(l.all bO=true->z=(aO l:Int))∧Below w.1.size w w'
def Mg.one{b f:Nat}(h:Bx w b [.int .u32 (f:Int)] 153)(e:f≠0)(i:f<4294967296):Mg w (.slice (some ⟨b,0,none⟩) 1 1) f:=
 ⟨[f],Ds.own (es:=[]) h (fun d g=>by rw[List.mem_singleton.1 g];exact i) 1 aE,fun a c=>by simp at c;rw[<-c];exact e,by simp[nv]⟩
def JI(l:List UInt8)(w:World)(hl:l.length<=1073741824):Calls prog 188 #[.string ⟨l.toArray⟩] w (VW w l):=by
 have a0:(⟨l.toArray⟩:ByteArray).size=l.length:=by simp[ByteArray.size]
 obtain⟨W,Y,a,R⟩:=bI w [.bool false,.slice none 0 0] 106;have r:=R.g2;go_enter func188,ntmps188;go_wp2_with fail;(try rw[Y]);clear Y;go_loopg [4,5] l.length (fun g s4 O wr=>∃(m i:Nat),Hid (i+g=l.length)∧O= .int .i64 (i:Int)∧Mg wr s4 m∧Hid (m=aO (l.take i))∧Hid ((l.take i).all bO=true)∧Bx wr w.1.size [.bool false,.slice none 0 0] 106∧Below w.1.size w wr)
 case atStart=>exact⟨0,0,by unfold Hid;omega,rfl,Mg.zero _ _ _,rfl,rfl,R,a⟩
 case round=>
  clear R a r;obtain⟨m,i,J,rfl,F,q,s,R,a⟩:=hrel;generalize wr=wx at *;have a4:(0:Int)<=(i:Int):=by omega
  have r:=R.g2;cases gk with
  |zero=>
   have hi:i=l.length:=J.out;subst hi;have aw:¬(l.length:Int)<(l.length:Int):=by omega
   rw[aq9] at q s;obtain⟨A,k,c,rfl⟩:=F.form;have am:nl m<=1099511627776:=by rw[q.out];exact aH (oJ (xP s.out)) (by omega)
   go_wp2_with fail;refine(r9 false _ m (m:Int) _ F am rfl).mono ?_;rintro e3 w3 ⟨v3,rfl,n,u⟩;obtain⟨H,y,G,C,rfl⟩:=n.form;replace R:=R.be u;replace r:=R.g2;replace a:=aC a u;have hq:decide (l≠[]∧l.all bO=true)=decide (l≠[]):=by simp[s.out]
   have B:=aB hq;clear hq;by_cases p:l=[]
   ·have q0:(l != [])=false:=by simp[p]
    have t:Hid (decide (l≠[]∧l.all bO=true)=false):=by unfold Hid;rw[B.out];simp[p]
    have I:=aB p;clear p B;go_wp2_with fail;obtain⟨X,o,R,a,E,Z⟩:=R.mut2 a (by omega) (.bool H) (.slice y G C) rfl rfl;replace n:=n.ke E;rw[o];clear o;replace r:=R.k2;exact aM (v:= .tuple #[.agg #[.bool H,.slice y G C],.bool false]) (by simp[results,results188,go_sem,R.k2];exact I.out) rfl ⟨_,_,by rw[t.out],n,fun _=>by rw[q.out],a⟩
   ·have q0:(l != [])=true:=by simp[p]
    have t:Hid (decide (l≠[]∧l.all bO=true)=true):=by unfold Hid;rw[B.out];simp[p]
    have I:=aB p;clear p B;go_wp2_with fail;obtain⟨X,o,R,a,E,Z⟩:=R.mut2 a (by omega) (.bool H) (.slice y G C) rfl rfl;replace n:=n.ke E;rw[o];clear o;replace r:=R.k2;exact aM (v:= .tuple #[.agg #[.bool H,.slice y G C],.bool true]) (by simp[results,results188,go_sem,R.k2];exact I.out) rfl ⟨_,_,by rw[t.out],n,fun _=>by rw[q.out],a⟩
  |succ g=>
   have aw:i<l.length:=by have:=J.out;omega
   go_wp2_with fail;go_loopg [5,6,7,8] 9 (fun b O s6 s7 s8 wy=>∃(v j:Nat),Hid (j+b=9)∧O= .int .i64 ((i+j:Nat):Int)∧i+j<=l.length∧s6= .int .u32 (v:Int)∧s7= .int .u32 ((10^j:Nat):Int)∧s8= .int .i64 (j:Int)∧Hid (v=aO ((l.drop i).take j))∧Hid (((l.drop i).take j).all bO=true)∧v<10^j∧wx=wy)
   case atStart=>exact⟨0,0,by unfold Hid;omega,rfl,by omega,rfl,rfl,rfl,rfl,rfl,by decide,rfl⟩
   case round=>
    obtain⟨v,j,z,rfl,a5,rfl,rfl,rfl,U,P,hv,rfl⟩:=hrel;have a6:(0:Int)<=(j:Int):=by omega
    by_cases ak:j<9∧i+j<l.length
    ·obtain⟨a8,aj⟩:=ak;have r1:(j:Int)<9:=by omega
     have r2:((i+j:Nat):Int)<(l.length:Int):=by omega
     obtain⟨e,a2,L⟩:∃e,({ data:=l.toArray }:ByteArray)[i+j]'(by rw[a0];exact aj)=e∧l[i+j]? =some e:=⟨_,rfl,by rw[aR aj];rfl⟩;have ah:(l.drop i)[j]? =some e:=by rw[aqM];exact L
     have ap:(l.drop i).take (j+1)=(l.drop i).take j++[e]:=by rw[Q9,ah];rfl
     have ar:=aB L;have S:=aB ap;clear L ah ap;have c0:e.toNat<256:=e.toNat_lt;by_cases x:48<=e.toNat∧e.toNat<=57
     ·obtain⟨d1,d2⟩:=x;have s1:decide ((e.toNat:Int)<48)=false:=by rw[jA];omega
      have s2:decide ((57:Int)<(e.toNat:Int))=false:=by rw[jA];omega
      have ai:10^j<=10^8:=cO (by decide) (by omega);replace ai:10^j<=100000000:=ai;have a3:0<10^j:=d7 (by decide);have ao:10^(j+1)=10^j*10:=dH _ _;have Q:=aB ao;have hw:v*10+(e.toNat-48)=aO ((l.drop i).take (j+1)):=by rw[S.out,oK,<-U.out,dN]
      have ac:((l.drop i).take (j+1)).all bO=true:=by rw[S.out,byJ,P.out];simp[bO];omega
      have V:=aB (And.intro hw ac);obtain⟨b,rfl⟩:∃b,gk=b+1:=⟨gk-1,by have:=z.out;omega⟩;clear hw ac ao;generalize 10^j=f at *;go_wp2;go_roundg b
      case rel=>exact⟨v*10+(e.toNat-48),j+1,by have:=z.out;unfold Hid;omega,by go_num,by omega,pW (by omega),pW (by rw[Q.out];omega),by go_num,V.out.1,V.out.2,by rw[Q.out];omega,rfl⟩
      case measure=>omega
     ·have M:¬(l.all bO=true):=fun h=>x (by
       have:=List.all_eq_true.1 h e (dG ar.out);simpa [bO] using this)
      have au:=aB M;have t:Hid (decide (l≠[]∧l.all bO=true)=false):=by unfold Hid;rw[jA];exact fun h=>M h.2
      have N:decide ((e.toNat:Int)<48)=true∨decide ((e.toNat:Int)<48)=false∧decide ((57:Int)<(e.toNat:Int))=true:=by
       rcases dE e.toNat 48 with h|h
       ·exact .inl (by rw[iQ];omega)
       ·exact .inr ⟨by rw[jA];omega,by rw[iQ];omega⟩
      clear M x;rcases N with s1|⟨s1,s2⟩
      all_goals (
       go_wp2_with fail;obtain⟨X,o,R,a,E,Z⟩:=R.mut2 a (by omega) (.bool false) (.slice none 0 0) rfl rfl;rw[o];clear o;replace r:=R.k2;exact aM (v:= .tuple #[.agg #[.bool false,.slice none 0 0],.bool false]) (by simp[results,results188,go_sem,R.k2]) rfl ⟨_,0,by rw[t.out],NI.zero _,fun h=>absurd h au.out,a⟩)
    ·have N:j=9∨j<9∧i+j=l.length:=by have:=z.out;omega
     have an:10^j<=10^9:=cO (by decide) (by have:=z.out;omega);have bc:0<10^j:=d7 (by decide);have a7:1<=j:=by omega
     clear ak;obtain⟨A,k,c,rfl⟩:=F.form;have am:nl m<=1073741824:=by rw[q.out];exact aH (oJ (xP s.out)) (by rw[bK];omega)
     have aq:aO (l.take (i+j))=m*10^j+v:=by
      rw[List.take_add,pF,<-q.out,<-U.out,bK,eP,y8 (by omega)]
     have ad:(l.take (i+j)).all bO=true:=by rw[List.take_add,byJ,s.out,P.out];rfl
     have T:=aB (And.intro aq ad);clear aq ad;have a1:10^j<=1000000000:=an;clear an;generalize 10^j=f at *;obtain⟨wa,ea,D,FB⟩:=bI wx [.int .u32 (f:Int)] 153;have ay:=Mg.one FB (by omega) (by omega);have ax:=F.be D;have bf:f<=4294967295:=by omega
     have bg:v<=4294967295:=by omega
     have az:¬(j:Int)<9∨(j:Int)<9∧¬((i+j:Nat):Int)<(l.length:Int):=by omega
     have ba:nl f<=1:=cJ (by unfold BN;omega);have a9:=fI m f;have al:Hid (l.length-(i+j)<g+1∧i+j+(l.length-(i+j))=l.length):=by have:=J.out;unfold Hid;omega
     clear N;rcases az with r1|⟨r1,r2⟩
     all_goals (
      go_wp2_with fail;refine(ER m f _ _ _ ax ay (by omega) (by omega)).mono ?_;rintro e1 w1 ⟨v1,rfl,h1,ae⟩;obtain⟨A1,k1,c1,rfl⟩:=h1.form;obtain⟨wb,eb,K,FV⟩:=bI w1 [.int .u32 (v:Int)] 153;have ht:=oW [v] w1.1.size v 1 wb FV (fun d x=>by rw[List.mem_singleton.1 x];unfold aD;omega) (by simp[nv]) aE (by simp);simp only[iJ] at ht;have av:=h1.be K;have bb:nl v<=1:=cJ (by unfold BN;omega);have af:=(((aC a D).trans (ae.mono (aC a D).size)));have ag:=aC af K;go_wp2_with fail;refine ht.mono ?_;rintro e2 w2 ⟨v2,rfl,h2,rfl⟩;go_wp2_with fail;refine(EU _ _ _ _ _ av h2 (by omega) (by omega)).mono ?_;rintro e3 w3 ⟨v3,rfl,n,u⟩;go_wp2;go_roundg (l.length-(i+j))
      case rel=>exact⟨m*f+v,i+j,al.out.2,by first|rfl|go_num,n,T.out.1.symm,T.out.2,(((R.be D).be ae).be K).be u,aC ag u⟩
      case measure=>exact al.out.1)
end Go.Proofs.YtfdaieaidpcdgaaGreatDoor
namespace Go.Proofs.YtfdaieaidpcdgaaGreatDoor
open Sos Lib
variable{j v:Nat}
def dz(v:Nat):List UInt8:=if v=0 then [] else decDigits v
def WC{e:Nat}(b:e<10):dz (10*v+e)=if v=0∧e=0 then [] else dz v++[UInt8.ofNat (48+e)]:=by
 unfold dz;by_cases hv:v=0
 ·subst hv;by_cases a:e=0
  ·subst a;simp
  ·rw[if_neg (by omega),if_neg (by omega),if_pos rfl,decDigits,dif_pos (by omega)];simp
 ·rw[if_neg (by omega),if_neg (by omega),if_neg hv,decDigits,dif_neg (by omega),show(10*v+e)/10=v by omega,show(10*v+e)%10=e by omega]
def iV:List Nat->Nat
 |[]=>0
 |d :: l=>d+1000000000*iV l
def WD(l:List Nat)(d:Nat):iV (l++[d])=iV l+1000000000^l.length*d:=by
 induction l with
 |nil=>simp[iV]
 |cons a l b=>rw[bz4,iV,b,iV,eG,dH,iL];grind
def WE{l:List Nat}{i d:Nat}(h:l[i]? =some d):iV (l.drop i)=d+1000000000*iV (l.drop (i+1)):=by
 have a:=(List.getElem?_eq_some_iff.1 h).1;rw[j5 a,iV];rw[aR a] at h;injection h with h;rw[h]
def WF(l:List Nat)(i:Nat):iV (l.drop i)<=iV l:=by
 induction l generalizing i with
 |nil=>simp
 |cons a l b=>
  cases i with
  |zero=>exact aE
  |succ i=>
   rw[bz6,iV];have:=b i;omega
def tn(j:Nat):Nat:=if j<=8 then 10^(8-j) else 0
def WG(h:j<=8):tn j/10=tn (j+1)∧0<tn j∧tn j<=100000000:=by
 unfold tn;rcases(show j=0∨j=1∨j=2∨j=3∨j=4∨j=5∨j=6∨j=7∨j=8 by omega) with rfl|rfl|rfl|rfl|rfl|rfl|rfl|rfl|rfl<;>decide
def WH{p:Nat}(h:j<=8):v*10^(j+1)+p/10^(9-(j+1))=10*(v*10^j+p/10^(9-j))+p/tn j%10:=by
 have e:p/10^(9-j)=p/tn j/10:=by
  unfold tn;rw[if_pos h,aqB,<-dH];congr 2;omega
 rw[e,show 9-(j+1)=8-j by omega,dH];have a:p/10^(8-j)=p/tn j:=by unfold tn;rw[if_pos h]
 rw[a];generalize p/tn j=q;have:=iD q 10;have b:v*(10^j*10)=10*(v*10^j):=by rw[<-iW,dN]
 rw[b];omega
end Go.Proofs.YtfdaieaidpcdgaaGreatDoor
namespace Go.Proofs.YtfdaieaidpcdgaaGreatDoor
open Go.RowKit Sos Tryz
variable{a b:List Nat}{B R c d g i l m n o r:Nat}{w w':World}{e v:Value}{A f p:Option Addr}{q:Rat}{qs:List Rat}
def WB{a k:Nat}(h:1000000000^k*m<=a)(d:0<m):k<=3*nl a:=by
 have e:=cyD a;have f:1000000000^k*1<=1000000000^k*m:=eV _ d;have b:(2^29)^k<=1000000000^k:=aqN (by decide) k;have g:BN^nl a=2^(64*nl a):=by rw[azL];rfl
 rw[<-azL] at b;have c:2^(29*k)<2^(64*nl a):=by omega
 have:=(Nat.pow_lt_pow_iff_right (a:=2) (by decide)).1 c;omega
def Mg.grown{k:Option Nat}(h:Mg w v n)(f:w.grownBy w' k)(t:∀g,k=some g->v.ownBlock≠some g):Mg w' v n:=by
 obtain⟨l,⟨A,c,rfl,q,r,h⟩,m,o⟩:=h;refine⟨l,⟨A,c,rfl,q,r,?_⟩,m,o⟩;rcases h with h|⟨b,rfl,j,p⟩
 ·exact .inl h
 ·refine .inr ⟨b,rfl,aZ j f.size,fun i d s=> ?_⟩;exact(World.cell?_of_block (w:=w) (w':=w') (a:=⟨b,i,none⟩) (f.block b j (fun e=>t b e.symm (by simp[Value.ownBlock])))).trans (p i d s)
def PtAt(w:World)(B:Nat)(v:Value)(a:List Nat):Prop:=w.ownsRow B 153 1 v a.length (U a)
def PtAt.lt(h:PtAt w B v a):∀g,v.ownBlock=some g->B<=g∧g<w.1.size:=World.ownsRow.lt h
def PtAt.be(h:PtAt w B v a)(b:Below w.1.size w w'):PtAt w' B v a:=by
 refine World.ownsRow.kept h (rL b none) ?_;cases v.ownBlock with
 |none=>exact .inl rfl
 |some g=>exact .inr (by simp)
def PtAt.more{c:Value}{o:Obj}(k:w'.ownsRow B 153 1 c (b.length+1) (U b++[.int .u32 (r:Int)]))(a:(w.alloc o).grownBy w' v.ownBlock)(d:c.ownBlock=v.ownBlock∨c.ownBlock=some (w.alloc o).1.size):
  PtAt w' B c (b++[r])∧TxtTo w v w' c:=by
 refine⟨by unfold PtAt;rw[bE,show U (b++[r])=U b++[.int .u32 (r:Int)] by unfold U;rw[aq7];rfl];exact k,⟨a.os,a.tape,a.output,aH (by simp) a.size,fun i f j=>(a.block i (by simp;omega) j).trans (Below.heap_alloc w o i f)⟩,fun g e=> ?_⟩;rcases d with h|h
 ·left;rw[<-h];exact e
 ·right;rw[h] at e;simp at e;omega
def CG(w:World)(l:List UInt8)(e:Ending)(w':World):Prop:=e= .returned (.string ⟨l.toArray⟩)∧Below w.1.size w w'
def JL(x:Int)(vx:Value)(w:World)(J:NI w vx x)(lx:nl x.natAbs<=1099511627776):
  Calls prog 112 #[vx] w (CG w (Lib.decDigits x.natAbs)):=by
 obtain⟨s,A,k,c,rfl⟩:=J.form;have z:=J.words.len.1;obtain⟨W,eW,t,XB⟩:=bI w [.bool s,.slice A k c] 106;have cM:=XB.k2;clear XB;have G:=(J.be t).words;have ho:∀g,(Value.slice A k c).ownBlock=some g->k≠0->g<w.1.size:=fun g F o=>by
  obtain⟨ds,⟨A',c',e,hc,hd,h⟩,O,h3⟩:=J.words;simp only[Value.slice.injEq] at e;obtain⟨rfl,rfl,rfl⟩:=e;rcases h with h|⟨b,rfl,hl,hB⟩
  ·rw[h] at o;exact absurd rfl o
  ·simp[Value.ownBlock] at F;omega
 generalize x.natAbs=a at *;by_cases o:a=0
 ·have ah:k=0:=z.2 o;subst o;subst ah;rw[show Lib.decDigits 0=[48] from BM];clear z G J ho;go_enter func112,ntmps112;go_wp2;go_ret;exact⟨rfl,t⟩
 ·have ai:k≠0:=fun e=>o (z.1 e);have q0:((k:Int)==0)=false:=by simpa using ai
  have H:=fun g F=>ho g F ai;have H0:=aB o;clear z ho o ai J;go_enter func112,ntmps112;go_wp2_with fail;(try rw[eW]);clear eW;go_loopg [3,4] a (fun g s3 s4 wr=>∃(d:List Nat) (A:Option Addr) (k c m:Nat),Hid (m<=g)∧s4= .slice A k c∧PtAt wr w.1.size s3 d∧Mg wr s4 m∧Hid (iV d+1000000000^d.length*m=a)∧(∀p∈d,p<1000000000)∧Hid (∀g,s3.ownBlock=some g->(Value.slice A k c).ownBlock≠some g)∧Hid (∀g,(Value.slice A k c).ownBlock=some g->g<wr.1.size)∧nl m<=1099511627776∧d.length<=3298534883329∧Below w.1.size w wr)
  case atStart=>exact⟨[],A,k,c,a,aE,rfl,World.ownsRow_nil _ _ _ _,G,by unfold Hid;simp[iV],(fun p f=>by cases f),(fun g F=>by simp[Value.ownBlock] at F),(fun g F=>aZ (H g F) t.size),lx,by simp,t⟩
  case round=>
   clear G t H;obtain⟨d,A,k,c,m,HG,rfl,X,G,S,aj,HA,HO,lm,bv,t⟩:=hrel;generalize wr=n at *;have z:=G.len.1;by_cases o:m=0
   ·have ah:k=0:=z.2 o;subst ah;have hv:iV d=a:=by have:=S.out;rw[o,azP,gQ] at this;exact this
    have hD:=Ds.row X rfl (fun p f=>by8 (aj p f) (by decide));obtain⟨AP,cP,rfl,bn⟩:=hD.form;have al:=aB hv;clear z hv X G S HA HO HG o;go_wp2_with fail;go_loopg [7,8] d.length (fun k s7 s8 wr=>∃i:Int,Hid (i+1=k)∧s8= .int .i64 i∧ -1<=i∧i<d.length∧TxtAt wr n.1.size s7 (dz (iV (d.drop k)))∧Below n.1.size n wr)
    case atStart=>exact⟨(d.length:Int)-1,by unfold Hid;omega,rfl,by omega,by omega,by rw[azY];exact World.ownsRow_nil _ _ _ _,aG _ _⟩
    case round=>
     obtain⟨i,HI,rfl,bo,bp,u,y⟩:=hrel;generalize wr=wy at *;cases gk with
     |zero=>
      have hi:¬0<=i:=by have:=HI.out;omega
      have Y:=u.str;have E:dz (iV (d.drop 0))=Lib.decDigits a:=by rw[azZ,al.out];unfold dz;rw[if_neg H0.out]
      rw[E] at Y;have M:=aB E;clear E;go_wp2;go_ret;exact⟨rfl,aC t y⟩
     |succ k=>
      have a9:i=(k:Int):=by have:=HI.out;omega
      subst a9;obtain⟨p,f⟩:∃p,d[k]? =some p:=⟨_,aR (by omega)⟩;have bh:=aj p (dG f);obtain⟨gp,rfl,a8,am⟩:=hD.at_ f;have a6:=fun (W:World) (t:Below n.1.size n W)=>(t.cell (p:=⟨gp,k,none⟩) a8).trans am;have ac:=WE f;have av:=WF d k;rw[ac,al.out] at av;have a1:=aB ac;clear ac f am;generalize iV (d.drop (k+1))=V at *;go_wp2_with fail;go_loopg [7,9] 9 (fun m s7 s9 wr=>∃j,Hid (j+m=9)∧s9= .int .u32 (tn j:Int)∧TxtAt wr n.1.size s7 (dz (V*10^j+p/10^(9-j)))∧Below n.1.size n wr)
      case atStart=>exact⟨0,by unfold Hid;omega,rfl,by rw[bx0,az9,azT (show p<10^(9-0) by simpa using bh),gQ];exact u,y⟩
      case round=>
       clear u y;obtain⟨j,R,rfl,u,y⟩:=hrel;generalize wr=wz at *;cases gk with
       |zero=>
        have hj:j=9:=R.out;subst hj;rw[show V*10^9+p/10^(9-9)=iV (d.drop k) by rw[a1.out,azV,bx0,Nat.div_one,dN,aq1]] at u;have t9:((tn 9:Nat):Int)=0:=rfl;go_wp2;go_roundg k
        case rel=>exact⟨(k:Int)-1,by unfold Hid;omega,by go_num,by omega,by omega,u,y⟩
        case measure=>omega
       |succ m=>
        have au:j<=8:=by have:=R.out;omega
        obtain⟨t1,t2,t3⟩:=WG au;have Y:=WH (v:=V) (p:=p) au;have he:p/tn j%10<10:=dI _ (by decide);have E:=WC (v:=V*10^j+p/10^(9-j)) he;rw[<-Y] at E;have bj:=a6 wz y;have M:=aB E;have T1:=aB t1;clear Y E t1;have ax:V*10^j+p/10^(9-j)<=a:=by
         have T:V*10^j<=V*10^9:=eV _ (cO (by decide) (by omega));have O:=azK p (10^(9-j));omega
        generalize V*10^j+p/10^(9-j)=v at *;have hL:(dz v).length<=21990232555541:=by
         unfold dz;split
         ·simp
         ·have:=wR v _ (cK ax);omega
        have ao:(dz v).length=0↔v=0:=by
         unfold dz;split
         ·simp[*]
         ·have T:=Lib.decDigits_length v;have O:=Lib.nDigits_pos v;omega
        have bu:p/tn j<=p:=azK _ _;have x1:(p:Int)/((tn j:Nat):Int)=((p/tn j:Nat):Int):=(azR _ _).symm;have x2:((p/tn j:Nat):Int)%10=((p/tn j%10:Nat):Int):=(bx8 _ _).symm;have hc:((UInt8.ofNat (48+p/tn j%10)).toNat:Int)=48+((p/tn j%10:Nat):Int):=by rw[tJ he];rfl
        obtain⟨Ao,co,rfl⟩:=u.slice;have bc:=u.lt;generalize p/tn j%10=e at *;generalize p/tn j=pd at *;have x3:decide (0<tn j)=true:=by simpa using t2
        generalize tn j=D at *;generalize an:dz v=L at *;have HC:=aB hc;clear hc;have ak:=aB ao;have bi:=aB an;clear ao an av ax;by_cases P:v=0∧e=0
        ·have C:=M.out;rw[if_pos P] at C;have Z:=aB C;have ba:L=[]:=bX (ak.out.2 P.1);obtain⟨-,rfl⟩:=P;subst ba;clear C M HC;go_wp2;go_roundg m
         case rel=>exact⟨j+1,by have:=R.out;unfold Hid;omega,by rw[<-T1.out];rfl,by rw[Z.out];exact u,y⟩
         case measure=>omega
        ·have C:=M.out;rw[if_neg P] at C;have Z:=aB C;have bg:decide (0<L.length)=true∨decide (0<L.length)=false∧((48:Int)+(e:Int) != 48)=true:=by
          by_cases h:L.length=0
          ·exact .inr ⟨by rw[jA];omega,by rw[bne_iff_ne];have:=ak.out.1 h;omega⟩
          ·exact .inl (by rw[iQ];omega)
         have a4:wz.ownsRow n.1.size 5 1 (.slice Ao L.length co) L.length (Lib.byteCells L):=u;have bw:=y.size;clear C M P;rcases bg with r1|⟨r1,r2⟩
         all_goals (
          go_wp2_with (at_builtin;refine gM rfl rfl 5 _ 1 1 underlying99 nF rfl (by decide) n.1.size (.slice Ao L.length co) L.length _ rfl (a4.alloc _) [.int .u8 (48+(e:Int))] rfl (by simp) (lM _ _ _) (by simp[Value.oneCell']) (by omega) (by omega) (by simp;omega) ?_;intro q1 w6 H ag ad);rw[<-HC.out] at H;obtain⟨I,a5⟩:=TxtAt.more (bs:=L) (l:=[UInt8.ofNat (48+e)]) H ag ad;have af:=a5.belowB (B:=n.1.size) y.size (fun g h=>(bc g h).1);go_wp2;go_roundg m
          case rel=>exact⟨j+1,by have:=R.out;unfold Hid;omega,by rw[<-T1.out];rfl,by rw[Z.out];exact I,y.trans af⟩
          case measure=>omega)
   ·have hd:decide (0<k)=true:=by have:=fun e=>o (z.1 e);simp;omega
    have bb:=WB (a:=a) (by have:=S.out;omega:1000000000^d.length*m<=a) (by omega);clear z;go_wp2_with fail;have aw:Calls prog 161 #[.slice A k c,.int .u32 1000000000] n (EO n m 1000000000):=EP m 1000000000 _ n G lm (by decide) (by decide);refine aw.mono ?_;rintro e1 w1 ⟨v1,rfl,T,hf,ae⟩;obtain⟨K,Q,N,rfl⟩:=T.form;have ap:=X.be ae;have a2:w1.ownsRow w.1.size 153 1 u3 d.length (U d):=ap;have ar:=aC t ae;have hr:m%1000000000<1000000000:=dI _ (by decide);have bt:m/1000000000<m:=by6 (by omega) (by decide);have a7:=bxO m 1000000000;have br:nl (m/1000000000)<=nl m:=cK (by omega);have bq:=bb;clear aw hd;generalize m%1000000000=r at *;generalize m/1000000000=q at *;have bm:=ae.size;have bk:=t.size;go_wp2_with (at_builtin;refine gM rfl rfl 153 _ 1 4 underlying104 oX rfl (by decide) w.1.size u3 d.length _ rfl (a2.alloc _) [.int .u32 (r:Int)] rfl (by simp) (lM _ _ _) (by simp[Value.oneCell']) (by omega) (by omega) (by simp;omega) ?_;intro q1 w6 H ag ad);obtain⟨a3,I⟩:=PtAt.more H ag ad;have hu:=ap.lt;have aq:∀g,u3.ownBlock=some g->(Value.slice K Q N).ownBlock≠some g:=fun g h e=>by
     have:=(hf g e).1;have:=(X.lt g h).2;omega
    have bf:Mg w6 (.slice K Q N) q:=T.grown I.1 aq;have af:=I.belowB (B:=w.1.size) ar.size (fun g h=>(hu g h).1);have ay:Hid (∀g,q1.ownBlock=some g->(Value.slice K Q N).ownBlock≠some g):=fun g h e=>by
     rcases I.2 g h with O|O
     ·exact aq g O e
     ·have:=(hf g e).2;omega
    have az:Hid (∀g,(Value.slice K Q N).ownBlock=some g->g<w6.1.size):=fun g h=>aZ (hf g h).2 I.1.size;have a0:Hid (iV (d++[r])+1000000000^(d++[r]).length*q=a):=by
     unfold Hid;rw[WD,bE,iJ,dH,<-S.out,<-a7,iL];grind
    obtain⟨g,rfl⟩:∃g,gk=g+1:=⟨gk-1,by have:=HG.out;omega⟩;go_wp2;go_roundg g
    case rel=>exact⟨d++[r],K,Q,N,q,by have:=HG.out;unfold Hid;omega,rfl,a3,bf,a0,(fun p f=>by
     rcases List.mem_append.1 f with f|f
     ·exact aj p f
     ·rw[List.mem_singleton.1 f];exact hr),ay,az,by omega,by rw[bE,iJ];omega,ar.trans af⟩
    case measure=>omega
def CF(q:Rat)(v:Value)(w:World)(hv:NQ w v q)(K:Nat)(i:RL K q)(O:K<=549755813888):Calls prog 71 #[v] w (CG w (cW q)):=by
 obtain⟨s,A,k,c,C,p,j,x,rfl⟩:=hv.form;have o:=hv.num.neg;have z:=hv.len;have F:=fun W h=>JL q.num (.agg #[.bool s,.slice A k c]) W h (aH i.1 (by omega));have G:=fun W h=>JL (bS q) (.agg #[.bool C,.slice p j x]) W h (aH (mY q) (aH i.2 (by omega)));have P:=wR q.num.natAbs K i.1;have Q:=wR (bS q).natAbs K (aH (mY q) i.2);have t:Hid (cW q=(if s=true then [45] else [])++Lib.decDigits q.num.natAbs++(if q.den=1 then [] else 47 :: Lib.decDigits (bS q).natAbs)):=by
  unfold Hid cW;rw[o];by_cases h:q.den=1
  ·simp[h]
  ·rw[mI h];simp[h]
 generalize Lib.decDigits q.num.natAbs=g at *;generalize Lib.decDigits (bS q).natAbs=l at *;have T:(⟨g.toArray⟩:ByteArray).size=g.length:=by simp[ByteArray.size]
 have z2:(⟨l.toArray⟩:ByteArray).size=l.length:=by simp[ByteArray.size]
 have L:=aB o;have J:=aB z;clear o z;obtain⟨W,y,d,B⟩:=bI w [.bool s,.slice A k c,.bool C,.slice p j x] 108;have D:=B.g4;go_enter func71,ntmps71;go_wp2_with fail;(try rw[y]);clear y;replace hv:=hv.be d;refine(F _ hv.num).mono ?_;rintro M R ⟨rfl,n⟩;replace B:=B.be n;replace D:=B.k4;replace H:=KM.be n;replace hv:=hv.ke H;replace d:=aC d n;have f:=hv.den.words.len.1;rw[Int.natAbs_eq_zero,fV] at f;have u:∀a b:List UInt8,(⟨a.toArray⟩:ByteArray)++⟨b.toArray⟩=⟨(a++b).toArray⟩:=fun a b=>by
  rw[ByteArray.ext_iff];simp
 have r:=aB u;clear u;by_cases e:q.den=1
 ·have I:decide (0<j)=false:=by rw[f.2 e];rfl
  have m:Hid (cW q=(if s=true then [45] else [])++g):=by unfold Hid;rw[t.out,if_pos e,fH]
  clear f e;cases s
  all_goals (
   go_wp2;go_ret;exact⟨by rw[m.out];simp[r.out]<;>rfl,d⟩)
 ·have I:decide (0<j)=true:=by rw[iQ];exact bzI fun h=>e (f.1 h)
  have m:Hid (cW q=(if s=true then [45] else [])++g++47 :: l):=by unfold Hid;rw[t.out,if_neg e]
  clear f e;cases s
  all_goals (
   go_wp2_with fail;refine(G _ hv.den).mono ?_;rintro N S ⟨rfl,E⟩;go_wp2;go_ret;exact⟨by rw[m.out];simp[r.out]<;>rfl,aC d E⟩)
abbrev R4(w:World)(b o:Nat)(c d e f:Value):Prop:=w.cell? ⟨b,o,none⟩=some c∧w.cell? ⟨b,o+1,none⟩=some d∧w.cell? ⟨b,o+2,none⟩=some e∧w.cell? ⟨b,o+3,none⟩=some f
def QRow(w:World)(rows:List (List Value))(qs:List Rat):Prop:=∀(i:Nat) (q:Rat),qs[i]? =some q->∃s A l c s' d e c',rows[i]? =some [Value.bool s,Value.slice A l c,Value.bool s',Value.slice d e c']∧NQ w (.agg #[.bool s,.slice A l c,.bool s',.slice d e c']) q
def QsAt(w:World)(v:Value)(qs:List Rat):Prop:=∃A c,v= .slice A qs.length c∧qs.length<=c∧(A=none∧qs=[]∨∃b rows,A=some ⟨b,0,none⟩∧Rw w b 4 rows 108∧qs.length<=rows.length∧QRow w rows qs)
def OwnQ(w:World)(b:Nat)(qs:List Rat):Prop:=∃rows,Rw w b 4 rows 108∧qs.length<=rows.length∧QRow w rows qs
def r6(g:Nat)(w W:World):Prop:=KM w W∧nD g w W
def KM.put{p:Addr}{c:Value}(f:w.cell? p=some c)(e:NoInt c)(v:Value):KM w (w.setCell p v):=
 ⟨by simp,fun q k x d=>by
  rw[World.cell?_setCell_other _ _ _ _ ?_,d];rintro rfl;rw[f] at d;injection d with d;exact absurd d (e _ _)⟩
def sJ:(Tryz.prog.info? 108).map (fun i=>(i.zero,i.size,i.bytes))=some (some (.agg #[.bool false,.slice none 0 0,.bool false,.slice none 0 0]),4,64):=by kernel_rfl
section
variable {w w':World}{b:Nat}{qs:List Rat}{v:Value}{rows:List (List Value)}
def QRow.ke(h:QRow w rows qs)(g:KM w w'):QRow w' rows qs:=fun i q hi=>by
 obtain⟨s,A,l,c,s',d,j,c',e,f⟩:=h i q hi;exact⟨s,A,l,c,s',d,j,c',e,f.ke g⟩
def QRow.take(h:QRow w rows qs)(m:Nat):QRow w rows (qs.take m):=fun i q hi=>by
 rw[fC] at hi;split at hi
 ·exact h i q hi
 ·cases hi
def QsAt.be(h:QsAt w v qs)(d:Below w.1.size w w'):QsAt w' v qs:=by
 obtain⟨A,c,hv,f,h⟩:=h;refine⟨A,c,hv,f,?_⟩;rcases h with h|⟨b,rows,e,j,i,g⟩
 ·exact .inl h
 ·exact .inr ⟨b,rows,e,j.be d,i,g.ke (KM.be d)⟩
def QsAt.drew(h:QsAt w v qs):QsAt w.drew v qs:=h.be (aG _ _).drew
def QsAt.step(h:QsAt w (.slice A l c) qs)(f:r6 g w w')(p:∀b,A=some ⟨b,0,none⟩->b≠g):QsAt w' (.slice A l c) qs:=by
 obtain⟨i,j,e,k,h⟩:=h;refine⟨i,j,e,k,?_⟩;simp only[Value.slice.injEq] at e;obtain⟨rfl,rfl,rfl⟩:=e;rcases h with h|⟨b,rows,e,d,n,m⟩
 ·exact .inl h
 ·exact .inr ⟨b,rows,e,⟨(f.2.2.1 b (p b e)).trans d.1,d.2⟩,n,m.ke f.1⟩
def QsAt.nil(w:World):QsAt w (.slice none 0 0) []:=⟨none,0,rfl,aE,.inl ⟨rfl,rfl⟩⟩
def QsAt.form(h:QsAt w v qs):∃A c,v= .slice A qs.length c∧qs.length<=c:=by
 obtain⟨A,c,hv,d,_⟩:=h;exact⟨A,c,hv,d⟩
def QsAt.cut(h:QsAt w (.slice A l c) qs)(m:Nat)(g:m<=qs.length):QsAt w (.slice A m c) (qs.take m):=by
 obtain⟨j,k,e,n,h⟩:=h;simp only[Value.slice.injEq] at e;obtain⟨rfl,rfl,rfl⟩:=e;refine⟨A,c,by rw[bK,y8 g],by rw[bK];omega,?_⟩;rcases h with ⟨h,d⟩|⟨b,rows,e,i,p,f⟩
 ·exact .inl ⟨h,by rw[d];simp⟩
 ·exact .inr ⟨b,rows,e,i,by rw[bK];omega,f.take m⟩
def OwnQ.lt(h:OwnQ w b qs):b<w.1.size:=by
 obtain⟨rows,c,_⟩:=h;exact c.lt
def OwnQ.be(h:OwnQ w b qs)(c:Below w.1.size w w'):OwnQ w' b qs:=by
 obtain⟨rows,f,e,d⟩:=h;exact⟨rows,f.be c,e,d.ke (KM.be c)⟩
def OwnQ.drew(h:OwnQ w b qs):OwnQ w.drew b qs:=h.be (aG _ _).drew
def OwnQ.step(h:OwnQ w b qs)(d:r6 g w w')(i:b≠g):OwnQ w' b qs:=by
 obtain⟨rows,c,f,e⟩:=h;exact⟨rows,⟨(d.2.2.1 b i).trans c.1,c.2⟩,f,e.ke d.1⟩
def OwnQ.nums(h:OwnQ w b qs)(c:Nat)(d:qs.length<=c):QsAt w (.slice (some ⟨b,0,none⟩) qs.length c) qs:=by
 obtain⟨rows,g,f,e⟩:=h;exact⟨_,c,rfl,d,.inr ⟨b,rows,rfl,g,f,e⟩⟩
def OwnQ.free(h:OwnQ w b qs)(j:Nat):w.frozen? ⟨b,j,none⟩=false:=by
 obtain⟨rows,c,_⟩:=h;exact c.free j
def OwnQ.at_(h:OwnQ w b qs)(hi:qs[i]? =some q):
  ∃s B m d s' c j e,R4 w b (i*4) (.bool s) (.slice B m d) (.bool s') (.slice c j e)∧NQ w (.agg #[.bool s,.slice B m d,.bool s',.slice c j e]) q:=by
 obtain⟨rows,g,n,l⟩:=h;obtain⟨s,B,m,d,s',c,j,e,f,k⟩:=l i q hi;exact⟨s,B,m,d,s',c,j,e,⟨g.cell 0 f rfl,g.cell 1 f rfl,g.cell 2 f rfl,g.cell 3 f rfl⟩,k⟩
def QsAt.at_(h:QsAt w (.slice A l c) qs)(hi:qs[i]? =some q):
  ∃b s B m d s' g n j,A=some ⟨b,0,none⟩∧b<w.1.size∧R4 w b (i*4) (.bool s) (.slice B m d) (.bool s') (.slice g n j)∧NQ w (.agg #[.bool s,.slice B m d,.bool s',.slice g n j]) q:=by
 obtain⟨t,x,e,y,h⟩:=h;simp only[Value.slice.injEq] at e;obtain⟨rfl,rfl,rfl⟩:=e;rcases h with ⟨-,h⟩|⟨b,rows,e,f, -,r⟩
 ·rw[h] at hi;simp at hi
 ·obtain⟨s,B,m,d,s',g,n,j,k,p⟩:=r i q hi;exact⟨b,s,B,m,d,s',g,n,j,e,f.lt,⟨f.cell 0 k rfl,f.cell 1 k rfl,f.cell 2 k rfl,f.cell 3 k rfl⟩,p⟩
def OwnQ.stored(h:OwnQ w b qs)(hi:i<qs.length){s s':Bool}{c':Nat}(hn:NQ w (.agg #[.bool s,.slice A l c,.bool s',.slice p r c']) q):
  let W:=(((w.setCell ⟨b,i*4,none⟩ (.bool s)).setCell ⟨b,i*4+1,none⟩ (.slice A l c)).setCell ⟨b,i*4+2,none⟩ (.bool s')).setCell ⟨b,i*4+3,none⟩ (.slice p r c')
  OwnQ W b (qs.set i q)∧r6 b w W:=by
 obtain⟨rows,P,Z,O⟩:=h;obtain⟨s1,D,G,E,t,d,n,f,N,h2⟩:=O i qs[i] (aR hi);have C:i<rows.length:=by omega
 have R:=P.set 0 N (by omega) (.bool s);have K:(rows.set i ([Value.bool s1,.slice D G E,.bool t,.slice d n f].set 0 (.bool s)))[i]? =some [.bool s,.slice D G E,.bool t,.slice d n f]:=by rw[gP C];rfl
 have H:=R.set 1 K (by omega) (.slice A l c);rw[bxM] at H;have L:(rows.set i ([Value.bool s,.slice D G E,.bool t,.slice d n f].set 1 (.slice A l c)))[i]? =some [.bool s,.slice A l c,.bool t,.slice d n f]:=by rw[gP C];rfl
 have I:=H.set 2 L (by omega) (.bool s');rw[bxM] at I;have M:(rows.set i ([Value.bool s,.slice A l c,.bool t,.slice d n f].set 2 (.bool s')))[i]? =some [.bool s,.slice A l c,.bool s',.slice d n f]:=by rw[gP C];rfl
 have S:=I.set 3 M (by omega) (.slice p r c');rw[bxM] at S;have J:=P.cell 0 N rfl;have x:=R.cell 1 K rfl;have y:=H.cell 2 L rfl;have z:=I.cell 3 M rfl;have F:=(((KM.put J (NoInt.bool _) (.bool s)).trans (KM.put x (NoInt.slice _ _ _) (.slice A l c))).trans (KM.put y (NoInt.bool _) (.bool s'))).trans (KM.put z (NoInt.slice _ _ _) (.slice p r c'));refine⟨⟨_,S,by simpa using Z,fun j m k=> ?_⟩,F,(((Keep.put J (NoInt.bool _) _).trans (Keep.put x (NoInt.slice _ _ _) _)).trans (Keep.put y (NoInt.bool _) _)).trans (Keep.put z (NoInt.slice _ _ _) _),fun g B=> ?_,by simp,rfl,rfl,rfl⟩
 ·by_cases e:i=j
  ·subst e;rw[gP hi] at k;injection k with k;subst k;exact⟨s,A,l,c,s',p,r,c',by rw[gP C];rfl,hn.ke F⟩
  ·rw[lI e] at k;obtain⟨x,y,z,T,U,V,X,Y,k1,k2⟩:=O j m k;exact⟨x,y,z,T,U,V,X,Y,by rw[lI e];exact k1,k2.ke F⟩
 ·rw[Below.heap_setCell _ ⟨b,i*4+3,none⟩ _ g B,Below.heap_setCell _ ⟨b,i*4+2,none⟩ _ g B,Below.heap_setCell _ ⟨b,i*4+1,none⟩ _ g B,Below.heap_setCell _ ⟨b,i*4,none⟩ _ g B]
def OwnQ.made(h:Rw w b 4 (List.replicate n [.bool false,.slice none 0 0,.bool false,.slice none 0 0]) 108):OwnQ w b (List.replicate n 0):=
 ⟨_,h,by simp,fun i m c=>⟨false,none,0,0,false,none,0,0,by
  have:=(List.getElem?_eq_some_iff.1 c).1;rw[dB] at this;rw[j6,if_pos this],by
  have:=j6 (n:=n) (a:=(0:Rat)) (i:=i);rw[c] at this;split at this
  ·injection this with this;subst this;exact NQ.zero w
  ·cases this⟩⟩
def Rw.src{k:Nat}{t:TypeId}(i:Rw w b k rows t)(d:0<k)(hn:n<=rows.length):Src w (some ⟨b,0,none⟩) (rows.take n).flatten:=by
 have g:∀r∈rows.take n,r.length=k:=fun r h=>i.2 r (lH h);refine .inr ⟨b,0,rfl,fun j u l=> ?_⟩;have p:j<n*k:=by
  have:=(List.getElem?_eq_some_iff.1 l).1;rw[mX g,bK,y8 hn] at this;exact this
 have m:j/k<n:=by rw[Nat.div_lt_iff_lt_mul d];exact p
 obtain⟨r,c⟩:∃r,(rows.take n)[j/k]? =some r:=⟨_,aR (by rw[bK];omega)⟩;have f:=mW g c (dI j d);have e:j/k*k+j%k=j:=by rw[dN];exact iD j k
 rw[e,l] at f;rw[fC,if_pos m] at c;have:=i.cell (j%k) c f.symm;rw[e] at this;rw[bA];exact this
def QsAt.srcs(h:QsAt w (.slice A l c) qs):
  ∃rows:List (List Value),rows.length=qs.length∧l=qs.length∧(∀r∈rows,r.length=4)∧Src w A rows.flatten∧QRow w rows qs∧∀u∈rows.flatten,u.oneCell'=true:=by
 obtain⟨f,g,e,F,h⟩:=h;simp only[Value.slice.injEq] at e;obtain⟨rfl,rfl,rfl⟩:=e;rcases h with ⟨rfl,rfl⟩|⟨b,rows,rfl,n,C,B⟩
 ·exact⟨[],rfl,rfl,(fun _ h=>by cases h),.inl rfl,(fun i q h=>by simp at h),(fun _ h=>by cases h)⟩
 ·have j:QRow w (rows.take qs.length) qs:=fun i q m=>by
   obtain⟨s,A,l,c,x,f,t,g,d,y⟩:=B i q m;exact⟨s,A,l,c,x,f,t,g,by rw[fC,if_pos (List.getElem?_eq_some_iff.1 m).1];exact d,y⟩
  refine⟨rows.take qs.length,by rw[bK];omega,rfl,fun r h=>n.2 r (lH h),n.src (by decide) C,j,fun u E=> ?_⟩;obtain⟨r,D,p⟩:=List.mem_flatten.1 E;obtain⟨i,k⟩:=List.mem_iff_getElem?.1 D;have z:=(List.getElem?_eq_some_iff.1 k).1;rw[bK] at z;obtain⟨s,A,l,c,x,f,t,g,d,_⟩:=j i _ (aR (by omega));rw[k] at d;injection d with d;subst d;simp at p;rcases p with rfl|rfl|rfl|rfl<;>rfl
def EA{p:Nat}(h:w.ownsRow p 108 4 v n rows.flatten)(J:∀r∈rows,r.length=4)(hn:rows.length=n)(z:qs.length=n)(hi:QRow w rows qs):
  QsAt w v qs∧(v= .slice none 0 0∨∃g d,v= .slice (some ⟨g,0,none⟩) n d∧p<=g∧OwnQ w g qs):=by
 rcases h.2 with ⟨rfl,O⟩|⟨g,d,E,rfl,H,I,R,U,K,L⟩
 ·obtain rfl:qs=[]:=bX (by omega);exact⟨QsAt.nil w,.inl rfl⟩
 ·obtain⟨B,P,q,e⟩:=BO 4 d E.toList (by simpa using K);have t:OwnQ w g qs:=by
   refine⟨B,⟨by unfold Bx;rw[I,q],e⟩,by omega,fun i m y=> ?_⟩;obtain⟨s,A,l,c,N,C,M,D,F,G⟩:=hi i m y;refine⟨s,A,l,c,N,C,M,D,?_,G⟩;have S:i<n:=by rw[<-z];exact(List.getElem?_eq_some_iff.1 y).1
   obtain⟨k,f⟩:∃k,B[i]? =some k:=⟨_,aR (by omega)⟩;rw[f];congr 1;have T:=e k (dG f);refine aq6 (fun j=> ?_);by_cases x:j<4
   ·rw[<-mW e f x,<-mW J F x,q,<-L,fC,if_pos (by omega)]
   ·rw[fU (by omega),fU (by simp;omega)]
  have:=t.nums d (by omega);rw[z] at this;exact⟨this,.inr ⟨g,d,rfl,H,t⟩⟩
def MM(w:World):(w.alloc (.cells #[] 108)).ownsRow w.1.size 108 4 (.slice (some ⟨w.1.size,0,none⟩) 0 0) 0 []:=
 ⟨by simp,.inr ⟨w.1.size,0,#[],rfl,aE,heap_alloc_new w _,aE,by decide,rfl,rfl⟩⟩
end
section
variable {w:World}{ops:Array Oper}{rest:List Oper}{o:Oper}{a:Act}{Q:Exit->Act->World->Prop}
def yT(y:o.guard=none){s x:Operand}(C:o.op= .call { callee:= .builtin .append,args:= #[s,x],argTypes:= #[64,64] })
  (F:a.eval s= .slice (some ⟨w.1.size,0,none⟩) 0 0)(H:a.eval x= .slice A l c)(E:QsAt w (.slice A l c) qs)(I:qs.length<=1073741824)
  (h:∀d w',QsAt w' d qs->(d= .slice none 0 0∨∃g p,d= .slice (some ⟨g,0,none⟩) qs.length p∧w.1.size<=g∧OwnQ w' g qs)->Below w.1.size w w'->wpList prog ops Q rest (a.put o.dst d) w'):
  wpList prog ops Q (o :: rest) a (w.alloc (.cells #[] 108)):=by
 have t:Below w.1.size w (w.alloc (.cells #[] 108)):=(aG _ _).alloc aE _;obtain⟨rows,n,rfl,m,G,z,D⟩:=E.srcs;refine gM y C 108 _ 4 64 underlying64 sJ rfl (by decide) w.1.size (.slice (some ⟨w.1.size,0,none⟩) 0 0) 0 [] F (MM w) rows.flatten H (by rw[mX m,n]) (G.be t) D (by omega) (by omega) (by simp) ?_;intro d w' j f _;have i:Below w.1.size w w':=⟨f.os,f.tape,f.output,aH (by simp) f.size,fun k B=>(f.block k (by simp;omega) (fun e=>by simp[Value.ownBlock] at e;omega)).trans (Below.heap_alloc w _ k B)⟩;rw[bA,iM] at j;obtain⟨q,r⟩:=EA j m n rfl (z.ke (KM.be i));exact h d w' q r i
end
section
variable {a b:World}[u:Up a b]
def QsAt.up(h:QsAt a v qs):QsAt b v qs:=h.be u.out
def OwnQ.up(h:OwnQ a g qs):OwnQ b g qs:=h.be u.out
def R4.up{d f i:Value}(h:R4 a g o d e f i)(c:g<a.1.size):R4 b g o d e f i:=
 ⟨(u.out.cell (p:=⟨g,o,none⟩) c).trans h.1,(u.out.cell (p:=⟨g,o+1,none⟩) c).trans h.2.1,(u.out.cell (p:=⟨g,o+2,none⟩) c).trans h.2.2.1,(u.out.cell (p:=⟨g,o+3,none⟩) c).trans h.2.2.2⟩
end
def R4.old{f i j:Value}(h:R4 w g o e f i j)(c:Below B w w')(d:g<B):R4 w' g o e f i j:=
 ⟨(c.cell (p:=⟨g,o,none⟩) d).trans h.1,(c.cell (p:=⟨g,o+1,none⟩) d).trans h.2.1,(c.cell (p:=⟨g,o+2,none⟩) d).trans h.2.2.1,(c.cell (p:=⟨g,o+3,none⟩) d).trans h.2.2.2⟩
def yU(w:World)(v:Value):Prop:=∀g,v.ownBlock=some g->∀cur t f,w.heap[g]? =some (.cells cur t f)->∀y∈cur.toList,NoInt y
def GrowQ(w:World)(c:Nat)(v:Value)(qs:List Rat):Prop:=(∃rows,w.ownsRow c 108 4 v qs.length rows.flatten∧rows.length=qs.length∧(∀r∈rows,r.length=4)∧QRow w rows qs)∧yU w v
def GrowQ.nil(w:World):GrowQ w c (.slice none 0 0) []:=⟨⟨[],World.ownsRow_nil _ _ _ _,rfl,(fun _ h=>by cases h),(fun i q h=>by simp at h)⟩,fun g h=>by simp[Value.ownBlock] at h⟩
def GrowQ.nums(h:GrowQ w c v qs):QsAt w v qs:=by
 obtain⟨⟨rows,d,e,f,g⟩, -⟩:=h;exact(EA d f e rfl g).1
def GrowQ.be(h:GrowQ w l v qs)(k:Below w.1.size w w'):GrowQ w' l v qs:=by
 obtain⟨⟨rows,j,n,p,q⟩,s⟩:=h;have x:∀g,v.ownBlock=some g->g<w.1.size:=fun g e=>by
  rcases j.2 with ⟨rfl,_⟩|⟨i,m,d,rfl,_,c,_⟩
  ·simp[Value.ownBlock] at e
  ·simp[Value.ownBlock] at e;subst e;exact(Array.getElem?_eq_some_iff.1 c).1
 refine⟨⟨rows,⟨j.1,?_⟩,n,p,q.ke (KM.be k)⟩,fun g e d t f c=>s g e d t f ((k.block g (x g e)).symm.trans c)⟩;rcases j.2 with h|⟨i,m,d,rfl,r,c,h⟩
 ·exact .inl h
 ·exact .inr ⟨i,m,d,rfl,r,(k.block i (Array.getElem?_eq_some_iff.1 c).1).trans c,h⟩
def GrowQ.drew(h:GrowQ w c v qs):GrowQ w.drew c v qs:=h.be (aG _ _).drew
def GrowQ.up{a b:World}[u:Up a b](h:GrowQ a c v qs):GrowQ b c v qs:=h.be u.out
def MN(n:Nat):∀y∈Builtin.zeroCells #[Value.bool false,.slice none 0 0,.bool false,.slice none 0 0] n,NoInt y:=fun y c=>by
 unfold Builtin.zeroCells at c;obtain⟨j,_,rfl⟩:=Array.mem_map.1 c;have d:(#[Value.bool false,.slice none 0 0,.bool false,.slice none 0 0]:Array Value).size=4:=rfl;rw[d];rcases(show j%4=0∨j%4=1∨j%4=2∨j%4=3 by omega) with h|h|h|h<;>rw[h]
 ·exact NoInt.bool _
 ·exact NoInt.slice _ _ _
 ·exact NoInt.bool _
 ·exact NoInt.slice _ _ _
def MO(w:World)(U:TypeId)(hG:GrowQ w R v qs)
  {E F:Bool}{l n:Option Addr}{C D s z:Nat}(hB:Bx w g [.bool E,.slice l C s,.bool F,.slice n D z] 108)(hq:NQ w (.agg #[.bool E,.slice l C s,.bool F,.slice n D z]) q)(hl:qs.length<=1073741824)(hb:R<=w.1.size):
  ∃V w',(Builtin.append_ #[64,64] U #[v,.slice (some ⟨g,0,none⟩) 1 c]).run prog w= .ok V w'∧GrowQ w' R V (qs++[q])∧Below R w w':=by
 obtain⟨⟨rows,M,h2,h3,h4⟩,hN⟩:=hG;obtain⟨i,X,ae,S,af⟩:=info_parts sJ;have Y:∀j u,[Value.bool E,.slice l C s,.bool F,.slice n D z][j]? =some u->w.cell? ((⟨g,0,none⟩:Addr).add j)=some u:=fun j u J=>by
  have:=hB.cell j J;unfold Addr.add;split
  ·rename_i W;subst W;exact this
  ·simpa using this
 have Z:∀u∈[Value.bool E,.slice l C s,.bool F,.slice n D z],NoInt u∧u.oneCell'=true:=fun u J=>by
  simp at J;rcases J with rfl|rfl|rfl|rfl
  ·exact⟨NoInt.bool _,rfl⟩
  ·exact⟨NoInt.slice _ _ _,rfl⟩
  ·exact⟨NoInt.bool _,rfl⟩
  ·exact⟨NoInt.slice _ _ _,rfl⟩
 obtain⟨V,w',H,ho,N,_,av⟩:=run_append_own_at (P:=prog) w R 64 U 108 i _ 4 64 underlying64 X ae S af rfl (by decide) v qs.length _ M ⟨g,0,none⟩ 1 c [.bool E,.slice l C s,.bool F,.slice n D z] rfl Y (fun u J=>(Z u J).2) (by unfold maxLen;omega) (by omega) hb
 have ai:KM w w':=⟨N.size,fun p k x T=>by
  obtain⟨b,o,sp⟩:=p;obtain rfl:sp=none:=World.cell?_spot T;by_cases e:v.ownBlock=some b
  ·rcases M.2 with ⟨rfl,_⟩|⟨B,K,A,rfl,_,O,_⟩
   ·simp[Value.ownBlock] at e
   ·have L:B=b:=by simpa [Value.ownBlock] using e
    subst L;rw[cell_of_row w B o A _ (0,0) O,<-Array.getElem?_toList] at T;exact absurd rfl (hN B e A _ _ O _ (dG T) k x)
  ·exact(World.cell?_of_block (N.block b (block_lt_of_cell (a:=⟨b,o,none⟩) T) (fun e'=>e e'.symm))).trans T⟩
 have aj:Below R w w':=⟨N.os,N.tape,N.output,N.size,fun k hk=>N.block k (by omega) (fun e=>by
  rcases M.2 with ⟨rfl,_⟩|⟨B,_,_,rfl,aw,_⟩
  ·simp[Value.ownBlock] at e
  ·simp[Value.ownBlock] at e;omega)⟩
 have ak:yU w' V:=by
  have ag:∀(ac:List Value) (K m:Nat),(∀y∈ac,NoInt y)->yU (w.drew.alloc (.cells (ac.toArray++[Value.bool E,.slice l C s,.bool F,.slice n D z].toArray++Builtin.zeroCells #[Value.bool false,.slice none 0 0,.bool false,.slice none 0 0] m) 108)) (.slice (some ⟨w.1.size,0,none⟩) (qs.length+1) K):=fun ac K m hv B e A t f hc=>by
   simp[Value.ownBlock] at e;subst e;have:=heap_alloc_new w.drew (.cells (ac.toArray++[Value.bool E,.slice l C s,.bool F,.slice n D z].toArray++Builtin.zeroCells #[Value.bool false,.slice none 0 0,.bool false,.slice none 0 0] m) 108);have h5:=this.symm.trans hc;simp only[Option.some.injEq,Obj.cells.injEq] at h5;rw[<-h5.1];intro y d;rw[bx5,bx5] at d;rcases List.mem_append.1 d with d|d
   ·rcases List.mem_append.1 d with d|d
    ·exact hv y d
    ·exact(Z y d).1
   ·exact MN m y (Array.mem_toList_iff.1 d)
  rcases M.2 with ⟨rfl,W⟩|⟨B,K,A,rfl,au,O,ay,ax,hs,ht⟩
  ·have I:=run_append_nil (P:=prog) w 64 U 108 i _ underlying64 X ae ⟨g,0,none⟩ 1 c [.bool E,.slice l C s,.bool F,.slice n D z] (by rw[S];rfl) Y (by decide) (by decide) (by rw[af];decide);rw[H] at I;injection I with e1 L;subst e1 L;have an:qs.length=0:=by omega
   have:=ag [] (grownCap w 1 0 108) (grownCap w 1 0 108-1) (fun _ h=>by cases h);rw[an] at this;exact this
  ·have ad:∀y∈A.toList,NoInt y:=hN B rfl A _ _ O;by_cases ao:qs.length+1<=K
   ·have I:=run_append_room (P:=prog) w 64 U 108 i underlying64 X B qs.length K A O ⟨g,0,none⟩ 1 c [.bool E,.slice l C s,.bool F,.slice n D z] (by rw[S];rfl) Y (fun u J=>(Z u J).2) ao (by rw[S,hs];simp;omega);rw[H] at I;injection I with e1 L;subst e1 L;intro g3 e ar t f hc;simp[Value.ownBlock] at e;subst e;have h7:=(setRow_heap w B A _ 108 _ O).symm.trans hc;simp only[Option.some.injEq,Obj.cells.injEq] at h7;rw[<-h7.1];intro y d;have aq:y∈A.toList.take (qs.length*i.size)++[Value.bool E,.slice l C s,.bool F,.slice n D z]++A.toList.drop (qs.length*i.size+4):=d;rcases List.mem_append.1 aq with d|d
    ·rcases List.mem_append.1 d with d|d
     ·exact ad y (lH d)
     ·exact(Z y d).1
    ·exact ad y (bxD d)
   ·have am:∀j y,(A.toList.take (qs.length*4))[j]? =some y->w.cell? ((⟨B,0,none⟩:Addr).add j)=some y:=fun j y G=>by
     have M:w.cell? ⟨B,j,none⟩=some y:=by
      rw[cell_of_row w B j A _ (0,0) O,<-Array.getElem?_toList];rw[fC] at G;split at G
      ·exact G
      ·cases G
     unfold Addr.add;split
     ·rename_i W;subst W;exact M
     ·simpa using M
    have I:=run_append_grow (P:=prog) w 64 U 108 i _ underlying64 X ae ⟨B,0,none⟩ qs.length K (A.toList.take (qs.length*4)) (by rw[S,bK];simp;omega) am ⟨g,0,none⟩ 1 c [.bool E,.slice l C s,.bool F,.slice n D z] (by rw[S];rfl) Y (by omega) (by omega) (growslice_fits (by omega) (by rw[af];omega));rw[H] at I;injection I with e1 L;subst e1 L;exact ag _ _ _ (fun y d=>ad y (lH d))
 refine⟨V,w',H,⟨⟨rows++[[.bool E,.slice l C s,.bool F,.slice n D z]],?_,by simp[h2],fun r H=> ?_,fun j x G=> ?_⟩,ak⟩,aj⟩
 ·rw[bE,byL];simpa using ho
 ·rcases List.mem_append.1 H with H|H
  ·exact h3 r H
  ·rw[List.mem_singleton.1 H];rfl
 ·rcases dE j qs.length with ah|ah
  ·rw[gA ah] at G;obtain⟨a1,a2,a3,a4,a5,a6,a7,a8,x1,x2⟩:=h4 j x G;exact⟨a1,a2,a3,a4,a5,a6,a7,a8,by rw[gA (by omega)];exact x1,x2.ke ai⟩
  ·have al:=(List.getElem?_eq_some_iff.1 G).1;rw[bE,iJ] at al;obtain rfl:j=qs.length:=by omega
   rw[fK aE,azV] at G;have ap:x=q:=by simpa using G.symm
   subst ap;exact⟨E,l,C,s,F,n,D,z,by rw[fK (by omega),h2,azV];rfl,hq.ke ai⟩
def MP{ops:Array Oper}{o:Oper}{a:Act}{K:Act->World->Prop}{Q:Exit->Act->World->Prop}{E:Prop}(B:o.guard=none){s x:Operand}
  (D:o.op= .call { callee:= .builtin .append,args:= #[s,x],argTypes:= #[64,64] })(H:a.eval s=v)(z:GrowQ w d v qs)(J:a.eval x= .slice (some ⟨g,0,none⟩) 1 c)
  {n p:Bool}{i:Option Addr}{j k:Nat}(y:Bx w g [.bool n,.slice f l j,.bool p,.slice i m k] 108)(F:NQ w (.agg #[.bool n,.slice f l j,.bool p,.slice i m k]) q)(C:qs.length<=1073741824)(A:d<=w.1.size)
  (h:∀e w',GrowQ w' d e (qs++[q])->Below d w w'->K (a.put o.dst e) w'):if Region.wanted o (yielded ops a.tmps)=true then Oper.wp prog o a w K Q else E:=by
 have I:Region.wanted o (yielded ops a.tmps)=true:=by simp[Region.wanted,B]
 rw[if_pos I];obtain⟨e,w',G,r,t⟩:=MO w o.type z y F C A (c:=c);unfold Oper.wp execOp;simp only[D,resolve,invoke,builtin,Sem.run_bind,Sem.run_pure,Result.andThen_ok,bxC,fM,aqJ,H,J,G];exact h e w' r t
