/- Laws. -/
import Derived.Test.YtjgbleapffgbcaaGreatDoorW17
set_option linter.all false
set_option maxHeartbeats 8000000
set_option maxRecDepth 99999
namespace Go.Proofs.YtjgbleapffgbcaaGreatDoor
open Sos
end Go.Proofs.YtjgbleapffgbcaaGreatDoor
namespace Go.Proofs.YtjgbleapffgbcaaGreatDoor
open Go.RowKit Sos
variable{a g l r ys:List Int}
def K1(s0 s1 q:List Int)(m:Int):List Int:=aW aV (uG (aW aV (s0.map (·*m))) (sN q s1) (-1))
inductive Ext(B:Nat):List Int->List Int->List Int->List Int->List Int->List Int->Prop
 |done (a s0 s1:List Int):Ext B a [] s0 s1 a s0
 |step {a b s0 s1 q r g s:List Int} {m c:Int} (hb:b≠[]) (h:PQRes a b B m q r) (hc:c≠0) (hr:∀n∈r,c∣n) (hn:∀n∈K1 s0 s1 q m,c∣n) (t:Ext B b (jX r c) s1 (jX (K1 s0 s1 q m) c) g s):Ext B a b s0 s1 g s
def YJ{d:Nat->Int}{L:Nat}(k:ys≠[])(o:aN ys)(b:∀i,L<=i->d i=0)(h:∀i,ys.length<=i+1->conv d (cf ys) i=0):∀i,d i=0:=by
 induction L with
 |zero=>exact fun i=>b i (dC _)
 |succ L l=>
  refine l (fun i r=> ?_);by_cases f:L+1<=i
  ·exact b i f
  ·have e:i=L:=by omega
   subst e;have c:=p5 (p:=d) (q:=cf ys) (m:=i) (n:=ys.length-1) (fun j g=>b j (by omega)) (fun j g=>bV (by omega));rw[h _ (by omega)] at c;rcases Int.mul_eq_zero.1 c.symm with a|a
   ·exact a
   ·exact absurd a ((dR k).1 o)
def YK(c:aN r)(h:∀i,cf r i=0):r=[]:=oZ c (fun a b=>by simp at b) (fun i=>by rw[h,eR])
def YL(q ys r xs:List Int)(m0:Int)(n:Nat):Bool:=(List.range n).all (fun i=>m0*cf xs i==conv (cf q) (cf ys) i+cf r i)
def oB(h:(match l.getLast? with|none=>true|some a=>a != 0)=true):aN l:=fun a b=>by
 rw[b] at h;simpa using h
def YM{B:Nat}(h:Euc B a [] g):g=a:=by
 cases h with
 |done=>rfl
 |one b=>simp at b
 |step b _ _=>simp at b
end Go.Proofs.YtjgbleapffgbcaaGreatDoor
namespace Go.Proofs.YtjgbleapffgbcaaGreatDoor
open Sos
variable{c d:Rat}{e r y:List Int}
section
variable {R:Type}[Add R][Mul R][Sub R][OfNat R 0][CR R]
def XW(p q:Nat->R){n i:Nat}(h:i<=n):conv p q i=bW (fun k=>p k*(if k<=i then q (i-k) else 0)) (n+1):=by
 obtain⟨d,rfl⟩:∃d,n=i+d:=⟨n-i,by omega⟩;rw[show i+d+1=i+1+d by omega,AA,qC (n:=d) (fun k _=>by rw[if_neg (by omega),CR.mul_zero]),CR.add_zero];exact mH (fun k a=>by rw[if_pos (by omega)])
def cx4(p q r:Nat->R)(i:Nat):conv (conv p q) r i=conv p (conv q r) i:=by
 have b:conv (conv p q) r i=bW (fun k=>bW (fun j=>p j*((if j<=k then q (k-j) else 0)*r (i-k))) (i+1)) (i+1):=by
  refine mH (fun k a=> ?_);rw[XW p q (show k<=i by omega),CR.mul_comm,<-zZ];refine mH (fun j _=> ?_);rw[CR.mul_comm (r (i-k)),CR.mul_assoc]
 rw[b,O5];refine mH (fun j l=> ?_);rw[zZ];congr 1;obtain⟨d,h⟩:∃d,i+1=j+d:=⟨i+1-j,by omega⟩;rw[h,AA,qC (n:=j) (fun k a=>by rw[if_neg (by omega),rE]),R7];have c:d=i-j+1:=by omega
 rw[c];refine mH (fun k a=> ?_);rw[if_pos (by omega),show j+k-j=k by omega,show i-(j+k)=i-j-k by omega]
end
def XY(xs ys:List Int)(y:Int)(i:Nat):cf (uG xs ys y) i=cf xs i+cf ys i*y:=by
 unfold uG;rw[qA];split
 ·rfl
 ·rw[bV (show xs.length<=i by omega),bV (show ys.length<=i by omega)];simp
def Dv(f:Nat->Int)(d:List Int):Prop:=∃(k:Int) (u:List Int),k≠0∧∀i,k*f i=conv (cf u) (cf d) i
section
variable {f g:Nat->Int}{d e:List Int}
def Dv.congr(h:Dv f d)(a:∀i,g i=f i):Dv g d:=by
 obtain⟨k,u,b,c⟩:=h;exact⟨k,u,b,fun i=>by rw[a,c]⟩
def Dv.self(d:List Int)(c:Int):Dv (fun i=>c*cf d i) d:=⟨1,[c],by decide,fun i=>by
 have h:∀k,cf [c] k=if k=0 then c else 0:=fun k=>by
  cases k with
  |zero=>rfl
  |succ k=>rw[bV (by simp)];rfl
 rw[gL h (fun _=>rfl),qE,if_pos (dC _),az5];rfl⟩
def Dv.zero(d:List Int):Dv (fun _=>0) d:=⟨1,[],by decide,fun i=>by rw[lK (fun k=>eR k)];simp⟩
def Dv.lin(h:Dv f d)(a:Dv g d)(q:List Int)(c c':Int):Dv (fun i=>c*f i+c'*conv (cf q) g i) d:=by
 obtain⟨k,u,b,n⟩:=h;obtain⟨l,v,m,hv⟩:=a;refine⟨k*l,uG (u.map (·*(l*c))) (sN q v) (k*c'),bxK b m,fun i=> ?_⟩;have e:∀j,cf (uG (u.map (·*(l*c))) (sN q v) (k*c')) j=(l*c)*cf u j+(k*c')*conv (cf q) (cf v) j:=fun j=>by
  rw[XY,CC,NZ,fD (cf u j),fD (conv _ _ _)]
 rw[gL e (fun _=>rfl),qD,eI,eI,<-n,cx4,gL (fun _=>rfl) (fun j=>(hv j).symm),rF];grind
def Dv.cancel{c:Int}(a:c≠0)(h:Dv (fun i=>c*f i) d):Dv f d:=by
 obtain⟨k,u,b,j⟩:=h;exact⟨k*c,u,bxK b a,fun i=>by rw[Int.mul_assoc];exact j i⟩
def Dv.none(h:Dv (cf r) y)(j:r.length<y.length)(o:aN y):∀i,cf r i=0:=by
 obtain⟨k,u,m,l⟩:=h;have p:y≠[]:=fun e=>by rw[e] at j;simp at j
 have n:=YJ (d:=cf u) (L:=u.length) p o (fun i c=>bV c) (fun i c=>by rw[<-l,bV (by omega)];simp);intro i;have b:=l i;rw[lK n] at b;rcases Int.mul_eq_zero.1 b with a|a
 ·exact absurd a m
 ·exact a
end
structure ExtI(x y:List Int)(D:Int)(a b s0 s1:List Int):Prop where
 c0:Dv (fun i=>D*cf a i+ -1*conv (cf s0) (cf x) i) y
 c1:Dv (fun i=>D*cf b i+ -1*conv (cf s1) (cf x) i) y
 dv:∀d,Dv (cf a) d->Dv (cf b) d->Dv (cf x) d∧Dv (cf y) d
 ne:a≠[]∨b≠[]
 ta:aN a
 tb:aN b
 t0:aN s0
 t1:aN s1
 len:(s1=[]∧a=x∧b=y∧s0.length<=1)∨(s1.length+a.length<=y.length+1∧s0.length+a.length<=y.length∧b.length<a.length)
structure ExtR(x y:List Int)(D:Int)(g s:List Int):Prop where
 c:Dv (fun i=>D*cf g i+ -1*conv (cf s) (cf x) i) y
 dx:Dv (cf x) g
 dy:Dv (cf y) g
 ne:g≠[]
 tg:aN g
 ts:aN s
 len:s.length+g.length<=y.length
structure BezRes(A B G S T:List Rat)(Kg K:Nat):Prop where
 id_:∀i,conv (cf S) (cf A) i+conv (cf T) (cf B) i=cf G i
 da:∃U:List Rat,∀i,cf A i=conv (cf U) (cf G) i
 db:∃U:List Rat,∀i,cf B i=conv (cf U) (cf G) i
 ne:G≠[]
 tg:aN G
 ts:aN S
 tt:aN T
 last:cf G (G.length-1)=1
 len:B=[]∨S.length+G.length<=B.length
 lg:G.length<=max A.length B.length
 ls:S.length<=B.length+1
 lt:T.length<=A.length+B.length
 bg:∀q∈G,RL Kg q
 bs:∀q∈S,RL K q
 bt:∀q∈T,RL K q
 bsa:∀i,i<=1000->RL K (conv (cf S) (cf A) i)
 btb:∀i,i<=1000->RL K (conv (cf T) (cf B) i)
def XL(h:c≠0):c⁻¹≠0:=fun e=>h (by have:=Rat.inv_inv c;rw[e,Rat.inv_zero] at this;exact this.symm)
def m6(h:c≠0)(k:d≠0):c*d≠0:=fun e=>(Rat.mul_eq_zero.1 e).elim h k
def uC(h:c≠0)(k:d≠0):c/d≠0:=by rw[azE];exact m6 h (XL k)
structure Rl(G:List Rat)(c:Rat)(r:List Rat)(e:List Int):Prop where
 c0:c≠0
 r_:∀i,conv (cf r) (cf G) i=c*cf e i
 tr:aN r
 te:aN e
def Rl.len{G r:List Rat}(h:Rl G c r e)(s:cf G (G.length-1)≠0)(hn:1<=G.length):(r=[]->e=[])∧(r≠[]->r.length+G.length=e.length+1):=by
 constructor
 ·rintro rfl;refine YK h.te (fun i=> ?_);have:=h.r_ i;rw[lK (fun k=>eR k)] at this;rcases Rat.mul_eq_zero.1 this.symm with a|a
  ·exact absurd a h.c0
  ·exact Rat.intCast_inj.1 a
 ·intro g;have w:=List.length_pos_iff.2 g;have u:=(dR g).1 h.tr;have f:=p5 (p:=cf r) (q:=cf G) (m:=r.length-1) (n:=G.length-1) (fun i b=>bV (by omega)) (fun i b=>bV (by omega));rw[h.r_] at f;have v:cf e (r.length-1+(G.length-1))≠0:=fun d=>by
   rw[d,aq4,dU] at f;exact m6 u s f.symm
  have l:r.length-1+(G.length-1)<e.length:=by
   rcases dE (r.length-1+(G.length-1)) e.length with a|a
   ·exact a
   ·exact absurd (bV a) v
  have t:e≠[]:=fun d=>by rw[d] at l;simp at l
  have x:¬r.length+(G.length-1)<e.length:=fun a=>by
   have o:=(dR t).1 h.te;have j:=rG (p:=cf r) (q:=cf G) (m:=r.length) (n:=G.length) (fun i b=>bV b) (fun i b=>bV b) (i:=e.length-1) (by omega);rw[h.r_] at j;exact m6 h.c0 (gJ o) j
  omega
end Go.Proofs.YtjgbleapffgbcaaGreatDoor
namespace Go.Proofs.YtjgbleapffgbcaaGreatDoor
open Go.RowKit Sos Tryz
variable{w:World}
def dxU:cL [48]=some 0:=by decide
def dxV:cW 0=[48]:=tL dxU
def VS(a:List (List UInt8)):(aU a).length=a.length:=cH _
def RatAt.int{s a:Bool}{u b:Value}{n:Int}(c:IntAt w (.agg #[.bool s,u]) n)(d:IntAt w (.agg #[.bool a,b]) 0):RatAt w (.agg #[.bool s,u,.bool a,b]) (n:Rat):=
 RatAt.of c d rfl (fV.2 rfl)
def tO:nl (Int.natAbs 0)<=17592186044416:=by rw[show Int.natAbs 0=0 from rfl,dO];exact dC _
def UV(n:Int):bS (n:Rat)=0:=fV.2 rfl
def BZ(n:Int)(f:Value)(w:World)(hn:IntAt w f n):
  Calls prog 46 #[f] w (iF w (n:Rat)):=by
 obtain⟨d,a,c,b,rfl⟩:=hn.form;have h:Bx ((w.alloc (.cells #[.bool d,.slice a c b] 60)).alloc (.cells #[.bool false,.slice none 0 0,.bool false,.slice none 0 0] 76)) (w.1.size) [.bool d,.slice a c b] 60:=(Bx.newAt w [.bool d,.slice a c b] 60 (w.1.size) (by simp)).alloc (.cells #[.bool false,.slice none 0 0,.bool false,.slice none 0 0] 76);have R:Bx ((w.alloc (.cells #[.bool d,.slice a c b] 60)).alloc (.cells #[.bool false,.slice none 0 0,.bool false,.slice none 0 0] 76)) (w.1.size+1) [.bool false,.slice none 0 0,.bool false,.slice none 0 0] 76:=Bx.newAt (w.alloc (.cells #[.bool d,.slice a c b] 60)) [.bool false,.slice none 0 0,.bool false,.slice none 0 0] 76 (w.1.size+1) (by simp);have g:Below w.1.size w ((w.alloc (.cells #[.bool d,.slice a c b] 60)).alloc (.cells #[.bool false,.slice none 0 0,.bool false,.slice none 0 0] 76)):=((aG _ _).alloc (by simp) _).alloc (by simp<;>omega) _;go_enter func46,ntmps46;go_wp2_with fail;have i:=hn.be g;have e:=((aG w.1.size w).alloc aE (.cells #[.bool d,.slice a c b] 60)).alloc (by simp) (.cells #[.bool d,.slice a c b,.bool false,.slice none 0 0] 76);exact aM (v:= .agg #[.bool d,.slice a c b,.bool false,.slice none 0 0]) (by simp[results,results46,go_sem]) rfl ⟨_,rfl,RatAt.int (hn.be e) (IntAt.zero _),e⟩
def cqY(x y:Int)(vx vy:Value)(w:World)(G:RatAt w vx (x:Rat))(H:RatAt w vy (y:Rat))(ac:nl x.natAbs+nl y.natAbs<=17592186044416):
  Calls prog 45 #[vx,vy] w (iF w ((x*y:Int):Rat)):=by
 obtain⟨s,A,k,c,U,I,Q,M,rfl⟩:=G.form;obtain⟨t,C,l,e,Z,K,T,O,rfl⟩:=H.form;obtain⟨W,P,a,X,Y,R⟩:=gE w [.bool s,.slice A k c,.bool U,.slice I Q M] 76 [.bool t,.slice C l e,.bool Z,.slice K T O] 76 [.bool false,.slice none 0 0,.bool false,.slice none 0 0] 76;have j:=aa X.g4 (aa Y.g4 R.g4);go_enter func45,ntmps45;go_wp2_with fail;(try rw[P]);clear P;have f:IntAt W (.agg #[.bool s,.slice A k c]) x:=(G.be a).num;have h:IntAt W (.agg #[.bool U,.slice I Q M]) 0:=by have:=(G.be a).den;rw[UV] at this;exact this
 have g:IntAt W (.agg #[.bool t,.slice C l e]) y:=(H.be a).num;have i:IntAt W (.agg #[.bool Z,.slice K T O]) 0:=by have:=(H.be a).den;rw[UV] at this;exact this
 refine(g9 x _ _ f (by omega)).mono ?_;rintro e1 w1 ⟨rfl,p⟩;replace X:=X.be p;replace Y:=Y.be p;replace R:=R.be p;replace j:=aa X.k4 (aa Y.k4 R.g4);replace b:=Keep.be p;replace f:=f.ke b;replace h:=h.ke b;replace g:=g.ke b;replace i:=i.ke b;replace a:=aC a p;by_cases E:x=0
 ·have d:decide (x=0)=true:=by simpa using E
  rw[d];have z:x*y=0:=by rw[E,bxB]
  have o:=aB z;clear d z E;go_wp2_with fail;obtain⟨L,m,R,a,b,n⟩:=R.put4 a (by omega) (.bool false) (.slice none 0 0) (.bool false) (.slice none 0 0) rfl rfl;replace X:=n X (by omega);replace Y:=n Y (by omega);rw[m];clear m;replace j:=aa X.k4 (aa Y.k4 R.k4);exact aM (v:= .agg #[.bool false,.slice none 0 0,.bool false,.slice none 0 0]) (by simp[results,results45,go_sem,R.k4]) rfl ⟨_,rfl,RatAt.of (IntAt.zero _) (IntAt.zero _) (by rw[o.out];rfl) (by rw[o.out];rfl),a⟩
 ·have d:decide (x=0)=false:=by simpa using E
  rw[d];clear d;go_wp2_with fail;refine(g9 y _ _ g (by omega)).mono ?_;rintro e2 w2 ⟨rfl,q⟩;replace X:=X.be q;replace Y:=Y.be q;replace R:=R.be q;replace j:=aa X.k4 (aa Y.k4 R.g4);replace b:=Keep.be q;replace f:=f.ke b;replace h:=h.ke b;replace g:=g.ke b;replace i:=i.ke b;replace a:=aC a q;by_cases F:y=0
  ·have d:decide (y=0)=true:=by simpa using F
   rw[d];have z:x*y=0:=by rw[F,Int.mul_zero]
   have o:=aB z;clear d z F;go_wp2_with fail;obtain⟨L,m,R,a,b,n⟩:=R.put4 a (by omega) (.bool false) (.slice none 0 0) (.bool false) (.slice none 0 0) rfl rfl;replace X:=n X (by omega);replace Y:=n Y (by omega);rw[m];clear m;replace j:=aa X.k4 (aa Y.k4 R.k4);exact aM (v:= .agg #[.bool false,.slice none 0 0,.bool false,.slice none 0 0]) (by simp[results,results45,go_sem,R.k4]) rfl ⟨_,rfl,RatAt.of (IntAt.zero _) (IntAt.zero _) (by rw[o.out];rfl) (by rw[o.out];rfl),a⟩
  ·have d:decide (y=0)=false:=by simpa using F
   rw[d];clear d;go_wp2_with fail;refine(g9 0 _ _ h tO).mono ?_;rintro e3 w3 ⟨rfl,r⟩;replace X:=X.be r;replace Y:=Y.be r;replace R:=R.be r;replace j:=aa X.k4 (aa Y.k4 R.g4);replace b:=Keep.be r;replace f:=f.ke b;replace h:=h.ke b;replace g:=g.ke b;replace i:=i.ke b;replace a:=aC a r;have d:decide ((0:Int)=0)=true:=rfl;rw[d];clear d;go_wp2_with fail;refine(g9 0 _ _ i tO).mono ?_;rintro e4 w4 ⟨rfl,u⟩;replace X:=X.be u;replace Y:=Y.be u;replace R:=R.be u;replace j:=aa X.k4 (aa Y.k4 R.g4);replace b:=Keep.be u;replace f:=f.ke b;replace h:=h.ke b;replace g:=g.ke b;replace i:=i.ke b;replace a:=aC a u;have d:decide ((0:Int)=0)=true:=rfl;rw[d];clear d;go_wp2_with fail;refine(jB x y _ _ _ f g ac).mono ?_;rintro e5 w5 ⟨v5,rfl,B,D⟩;obtain⟨V,J,S,N,rfl⟩:=B.form;replace X:=X.be D;replace Y:=Y.be D;replace R:=R.be D;replace j:=aa X.k4 (aa Y.k4 R.g4);replace a:=aC a D;go_wp2_with fail;obtain⟨L,m,R,a,b,n⟩:=R.put4 a (by omega) (.bool V) (.slice J S N) (.bool false) (.slice none 0 0) rfl rfl;replace X:=n X (by omega);replace Y:=n Y (by omega);replace B:=B.ke b;rw[m];clear m;replace j:=aa X.k4 (aa Y.k4 R.k4);exact aM (v:= .agg #[.bool V,.slice J S N,.bool false,.slice none 0 0]) (by simp[results,results45,go_sem,R.k4]) rfl ⟨_,rfl,RatAt.int B (IntAt.zero _),a⟩
def Mg.one{b f:Nat}(h:Bx w b [.int .u32 (f:Int)] 190)(e:f≠0)(i:f<4294967296):Mg w (.slice (some ⟨b,0,none⟩) 1 1) f:=
 ⟨[f],Ds.own (es:=[]) h (fun d g=>by rw[List.mem_singleton.1 g];exact i) 1 aE,fun a c=>by simp at c;rw[<-c];exact e,by simp[nv]⟩
end Go.Proofs.YtjgbleapffgbcaaGreatDoor
namespace Go.Proofs.YtjgbleapffgbcaaGreatDoor
open Sos Lib
def tn(j:Nat):Nat:=if j<=8 then 10^(8-j) else 0
end Go.Proofs.YtjgbleapffgbcaaGreatDoor
namespace Go.Proofs.YtjgbleapffgbcaaGreatDoor
open Go.RowKit Sos
variable{w w':World}{c e f i v:Value}{B g n o:Nat}{a b:List Nat}
def Mg.grown{k:Option Nat}(h:Mg w v n)(f:w.grownBy w' k)(t:∀g,k=some g->v.ownBlock≠some g):Mg w' v n:=by
 obtain⟨l,⟨A,c,rfl,q,r,h⟩,m,o⟩:=h;refine⟨l,⟨A,c,rfl,q,r,?_⟩,m,o⟩;rcases h with h|⟨b,rfl,j,p⟩
 ·exact .inl h
 ·refine .inr ⟨b,rfl,aZ j f.size,fun i d s=> ?_⟩;exact(World.cell?_of_block (w:=w) (w':=w') (a:=⟨b,i,none⟩) (f.block b j (fun e=>t b e.symm (by simp[Value.ownBlock])))).trans (p i d s)
def PtAt(w:World)(B:Nat)(v:Value)(a:List Nat):Prop:=w.ownsRow B 190 1 v a.length (U a)
def PtAt.lt(h:PtAt w B v a):∀g,v.ownBlock=some g->B<=g∧g<w.1.size:=World.ownsRow.lt h
def PtAt.be(h:PtAt w B v a)(b:Below w.1.size w w'):PtAt w' B v a:=by
 refine World.ownsRow.kept h (rL b none) ?_;cases v.ownBlock with
 |none=>exact .inl rfl
 |some g=>exact .inr (by simp)
def PtAt.more{r:Nat}{o:Obj}(k:w'.ownsRow B 190 1 c (b.length+1) (U b++[.int .u32 (r:Int)]))(a:(w.alloc o).grownBy w' v.ownBlock)(d:c.ownBlock=v.ownBlock∨c.ownBlock=some (w.alloc o).1.size):
  PtAt w' B c (b++[r])∧TxtTo w v w' c:=by
 refine⟨by unfold PtAt;rw[dA,show U (b++[r])=U b++[.int .u32 (r:Int)] by unfold U;rw[aq7];rfl];exact k,⟨a.os,a.tape,a.output,aH (by simp) a.size,fun i f j=>(a.block i (by simp;omega) j).trans (Below.heap_alloc w o i f)⟩,fun g e=> ?_⟩;rcases d with h|h
 ·left;rw[<-h];exact e
 ·right;rw[h] at e;simp at e;omega
abbrev R4(w:World)(b o:Nat)(c d e f:Value):Prop:=w.cell? ⟨b,o,none⟩=some c∧w.cell? ⟨b,o+1,none⟩=some d∧w.cell? ⟨b,o+2,none⟩=some e∧w.cell? ⟨b,o+3,none⟩=some f
def QRow(w:World)(rows:List (List Value))(qs:List Rat):Prop:=∀(i:Nat) (q:Rat),qs[i]? =some q->∃s A l c f d e c',rows[i]? =some [Value.bool s,Value.slice A l c,Value.bool f,Value.slice d e c']∧NQ w (.agg #[.bool s,.slice A l c,.bool f,.slice d e c']) q
def KM.put{p:Addr}(f:w.cell? p=some c)(e:NoInt c)(v:Value):KM w (w.setCell p v):=
 ⟨by simp,fun q k x d=>by
  rw[World.cell?_setCell_other _ _ _ _ ?_,d];rintro rfl;rw[f] at d;injection d with d;exact absurd d (e _ _)⟩
section
variable {w w':World}{b:Nat}{qs:List Rat}{v:Value}{rows:List (List Value)}
def QRow.ke(h:QRow w rows qs)(g:KM w w'):QRow w' rows qs:=fun i q hi=>by
 obtain⟨s,A,l,c,k,d,j,c',e,f⟩:=h i q hi;exact⟨s,A,l,c,k,d,j,c',e,f.ke g⟩
def QRow.take(h:QRow w rows qs)(m:Nat):QRow w rows (qs.take m):=fun i q hi=>by
 rw[fC] at hi;split at hi
 ·exact h i q hi
 ·cases hi
def Rw.src{k:Nat}{t:TypeId}(i:Rw w b k rows t)(d:0<k)(hn:n<=rows.length):Src w (some ⟨b,0,none⟩) (rows.take n).flatten:=by
 have g:∀r∈rows.take n,r.length=k:=fun r h=>i.2 r (lH h);refine .inr ⟨b,0,rfl,fun j u l=> ?_⟩;have p:j<n*k:=by
  have:=(List.getElem?_eq_some_iff.1 l).1;rw[mX g,bK,y8 hn] at this;exact this
 have m:j/k<n:=by rw[Nat.div_lt_iff_lt_mul d];exact p
 obtain⟨r,c⟩:∃r,(rows.take n)[j/k]? =some r:=⟨_,aR (by rw[bK];omega)⟩;have f:=mW g c (dI j d);have e:j/k*k+j%k=j:=by rw[dN];exact iD j k
 rw[e,l] at f;rw[fC,if_pos m] at c;have:=i.cell (j%k) c f.symm;rw[e] at this;rw[bA];exact this
end
section
variable {w:World}{ops:Array Oper}{rest:List Oper}{o:Oper}{a:Act}{Q:Exit->Act->World->Prop}
end
section
variable {a b:World}[u:Up a b]
def R4.up{d:Value}(h:R4 a g o d e f i)(c:g<a.1.size):R4 b g o d e f i:=
 ⟨(u.out.cell (p:=⟨g,o,none⟩) c).trans h.1,(u.out.cell (p:=⟨g,o+1,none⟩) c).trans h.2.1,(u.out.cell (p:=⟨g,o+2,none⟩) c).trans h.2.2.1,(u.out.cell (p:=⟨g,o+3,none⟩) c).trans h.2.2.2⟩
end
def R4.old{j:Value}(h:R4 w g o e f i j)(c:Below B w w')(d:g<B):R4 w' g o e f i j:=
 ⟨(c.cell (p:=⟨g,o,none⟩) d).trans h.1,(c.cell (p:=⟨g,o+1,none⟩) d).trans h.2.1,(c.cell (p:=⟨g,o+2,none⟩) d).trans h.2.2.1,(c.cell (p:=⟨g,o+3,none⟩) d).trans h.2.2.2⟩
