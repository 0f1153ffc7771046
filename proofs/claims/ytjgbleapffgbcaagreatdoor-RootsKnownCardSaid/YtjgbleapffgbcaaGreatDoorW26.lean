/- Laws. -/
import Derived.Test.YtjgbleapffgbcaaGreatDoorW23
set_option linter.all false
set_option maxHeartbeats 8000000
set_option maxRecDepth 99999
namespace Go.Proofs.YtjgbleapffgbcaaGreatDoor
open Go.RowKit Sos
variable{B K:Nat}{a b:List Int}{c x:Rat}{C:List (List Rat)}{v:Value}{f:Bool}
def ChT.last{b:Rat}(h:ChT B a b [] c C):C=[]:=by
 cases h with
 |done=>rfl
 |step d=>exact absurd rfl d
def ChT.split{g:Rat}(h:ChT B a g b c C)(d:b≠[]):∃r' f C2,C=aT c b :: C2∧ChT B b c r' f C2∧r'.length<b.length∧(∀Q R,DivQ (aT g a) (aT c b) Q R->aW aV (oA [] (-1) R)=aT f r')∧cf (aT c b) (b.length-1)≠0:=by
 cases h with
 |done=>exact absurd rfl d
 |step d h e m l k j n hn t=>
  refine⟨_,_,_,rfl,t,by rw[l];exact h.r_lt,fun Q R i=>CS d h e m k j i,?_⟩;rw[dS];exact m6 e.2.1 (gJ ((dR d).1 e.2.2))
def ChT.trim{e:Rat}(h:ChT B a e b c C):aN (aT c b):=by
 cases h with
 |done=>exact fun x f=>by simp[aT] at f
 |step i h d m l k j g hn t=>exact CQ (.inl d.2.1) d.2.2
def ChT.nums{d:Rat}(h:ChT B a d b c C)(e:∀X∈C,∀q∈X,RL K q):∀q∈aT c b,RL K q:=by
 cases h with
 |done=>exact fun q f=>by simp[aT] at f
 |step j h g n m l k i hn t=>exact e _ iC
def REnd(w:World)(v:Value)(f:Bool)(x:Rat):Prop:=∃s1 a e c h b g d,v= .agg #[.bool f,.bool s1,.slice a e c,.bool h,.slice b g d]∧NQ w (.agg #[.bool s1,.slice a e c,.bool h,.slice b g d]) x
def REnd.be{w w':World}(h:REnd w v f x)(g:Below w.1.size w w'):REnd w' v f x:=by
 obtain⟨k,a,i,c,l,b,j,d,e,h⟩:=h;exact⟨k,a,i,c,l,b,j,d,e,h.be g⟩
def REnd.up{a b:World}[u:Up a b](h:REnd a v f x):REnd b v f x:=h.be u.out
def L4{A:List Rat}(h:∀q∈A,RL K q)(a:1<=K):RL (4*K+1) (jF A):=by
 unfold jF;exact bU (wW (K:=K+K) (KN h (lV h (iG a) _) a _) (bU rY (by omega))) (by omega)
end Go.Proofs.YtjgbleapffgbcaaGreatDoor
namespace Go.Proofs.YtjgbleapffgbcaaGreatDoor
open Sos
variable{K n:Nat}{s w:List Int}
def ExQ.mem{V:Rat->Nat}{s:Rat->Int}{a b:Rat}{l:List (Rat×Rat)}(h:ExQ K V s a b l):a<b->∀p∈l,p.1=p.2∧s p.1=0∨p.1<p.2∧V p.1=V p.2+1∧s p.1≠0∧s p.2≠0:=by
 induction h with
 |none h=>exact fun _ p c=>by cases c
 |hit h d=>exact fun _ p c=>by rw[List.mem_singleton.1 c];exact .inl ⟨rfl,d⟩
 |one h d f=>exact fun e p c=>by rw[List.mem_singleton.1 c];exact .inr ⟨e,h,f,d⟩
 |split h j k _ _ g i=>
  intro e p c;rcases List.mem_append.1 c with c|c
  ·exact g (by grind) p c
  ·exact i (by grind) p c
def cqF(n:Nat):(2:Rat)^n=p2 n:=by
 induction n with
 |zero=>rfl
 |succ n a=>rw[azH,a,jQ,uP]
def cqG{x y W:Rat}{M:Nat}(h:RL K x)(s:RL K y)(r:RL M W)(f:0<W):y-x<=W*2^(64*(M+K+K+1))∧∀j i,j<=64*(M+K+K+1)->i<=2^j->RL (8*K+2*M+8) (azB x (y-x) i j):=by
 have g:=JM s h;refine⟨?_,fun j i q p=>bU (cxB (K:=K+K+1) (bU h (by omega)) g p (m:=M+K+K+1) q) (by omega)⟩;have c:=ax3 g;have l:(1:Rat)<=W*p2 (64*M):=by
  have d:=(yJ (n:=(W.den:Int)) (k:=M) r.2).2;rw[DJ] at d;have u:W*((W.den:Int):Rat)=((W.num:Int):Rat):=by
   have c:(W.num:Rat)/((W.den:Int):Rat)=W:=by rw[<-Rat.divInt_eq_div];exact Rat.num_divInt_den W
   have o:=gW (a:=(W.num:Rat)) (b:=((W.den:Int):Rat)) (fun e=>by have:=pP (n:=(W.den:Int)) (by have:=W.den_pos;omega);grind);rwa [c] at o
  have v:(1:Rat)<=((W.num:Int):Rat):=pP (pK f);have w:=Rat.mul_le_mul_of_nonneg_left d (az6 f);grind
 rw[cqF,show 64*(M+K+K+1)=64*M+64*(K+K+1) by omega,jQ,<-azC];have z:=jZ (64*(K+K+1));have t:=Rat.mul_le_mul_of_nonneg_right l (show(0:Rat)<=p2 (64*(K+K+1)) by grind);grind
def eT(s:List Int):Int:=((cf s (s.length-1)).natAbs:Int)
def V9(s:List Int):Rat:=1/2/(eT s:Rat)
def RA(s:List Int)(N:Nat)(p:Rat×Rat):Rat×Rat:=azN (fun z=>aP s 0 z) (V9 s) N p.1 p.2
def rT(s:List Int)(h:Rat):Rat:=(((h*(eT s:Rat)).floor:Int):Rat)/(eT s:Rat)
def kQ(s:List Int)(N:Nat)(p:Rat×Rat):Option Rat:=if (RA s N p).1<=rT s (RA s N p).2∧aP s 0 (rT s (RA s N p).2)=0 then some (rT s (RA s N p).2) else none
structure RrP(s:List Int)(N:Nat)(p:Rat×Rat):Prop where
 k1:RL 1500000 p.1
 k2:RL 1500000 p.2
 fu:p.2-p.1<=V9 s*2^N
 pr:∀j i,j<=N->i<=2^j->RL 12000400 (azB p.1 (p.2-p.1) i j)
def cz2(s:List Int)(c:List (List Int))(n:Nat)(l:List (Rat×Rat)):Prop:=ExQ 1000000000 (fun x=>aY 0 ((s :: c).map (fun a=>aP a 0 x))) (fun x=>aP s 0 x) (((-((2:Int)^n):Int)):Rat) ((((2:Int)^n:Int)):Rat) l∧(∀p∈l,∀N,N=64*(152+1500000+1500000+1)->RrP s N p)∧l.length<=8
def czB(A R:List Rat):Prop:=∃w s c n l N,Prp A w∧CnZ w s c∧bC s=1∧Pw (jF (cE s)) n∧n<=40000∧cz2 s c n l∧N=64*(152+1500000+1500000+1)∧R=l.filterMap (kQ s N)
def czC(a:s≠[])(ts:aN s):0<eT s:=by
 have:=(dR a).1 ts;unfold eT;omega
def cz3(a:Sz s):nl (eT s).natAbs<=150:=by
 unfold eT;rw[dD];exact iU a.nums _
def cz6(d:0<eT s):(((1:Int):Rat))/((eT s*2^1:Int):Rat)=V9 s∧0<V9 s:=by
 have f:=pP d;unfold V9;have e:((eT s*2^1:Int):Rat)=(eT s:Rat)*2:=by rw[eJ];rfl
 rw[e];generalize (eT s:Rat)=x at *;have a:(1/2:Rat)/x*x=1/2:=gW (by grind);refine⟨?_,?_⟩
 ·have b:(((1:Int):Rat)/(x*2))*(x*2)=((1:Int):Rat):=gW (by grind);have c:((1:Int):Rat)=1:=rfl;rw[c] at b⊢;generalize (1:Rat)/(x*2)=u at *;generalize (1/2:Rat)/x=v at *;have:(u-v)*x=0:=by grind
  rcases Rat.mul_eq_zero.1 this with k|k
  ·grind
  ·grind
 ·generalize (1/2:Rat)/x=v at *;by_cases k:0<v
  ·exact k
  ·have:=cA (show 0<= -v by grind) (show 0<=x by grind);rw[Rat.neg_mul,a] at this;grind
def czD(b:Sz s)(a:0<eT s):RL 152 (V9 s):=by
 rw[<-(cz6 a).1];refine pM (aH (cJ (m:=1) (by unfold BN;decide)) (by decide)) ?_ (by decide);have:=gT (eT s) (2^1) 150 1 (cz3 b) (cJ (m:=1) (by unfold BN;decide));omega
def cqH{c:List (List Int)}(b:CnZ w s c)(v:aN w)(hn:n<=40000):∃l,ExK 1000000000 (fun _ _=>True) (fun x=>aY 0 ((s :: c).map (fun a=>aP a 0 x))) (fun x=>aP s 0 x) (((-((2:Int)^n):Int)):Rat) ((((2:Int)^n:Int)):Rat) l∧l.length<=1048576∧cz2 s c n l:=by
 obtain⟨l,d,m,o⟩:=ax7 b v hn;have e:=czC b.1.sq.ne b.1.sq.ts;refine⟨l,d.exk,by omega,d,fun p u N q=> ?_,o⟩;obtain⟨f,g⟩:=m p u;obtain⟨h,k⟩:=cqG f g (czD b.2.2.1 e) (cz6 e).2;subst q;exact⟨f,g,h,fun j i t r=>bU (k j i t r) (by decide)⟩
def cqI(c:Sz s):∃n,n<=40000∧Pw (jF (cE s)) n:=by
 have a:=L4 (CU c.nums (by decide)) (by decide);obtain⟨n,hn,b⟩:=ax2 (64*601) (ax3 (bU a (by decide)));exact⟨n,by omega,b⟩
def czE{q:Rat}(h:RL K q):nl (q.floor).natAbs<=K:=by
 rw[Rat.floor_def];exact aH (cK (Int.natAbs_ediv_le_natAbs _ _)) h.1
def czF(a:Sz s):RL 150 (eT s:Rat):=⟨by rw[Rat.num_intCast];exact cz3 a,by rw[Rat.den_intCast];exact aH (cJ (m:=1) (by unfold BN;decide)) (by decide)⟩
def cz1{h:Rat}(a:Sz s)(c:RL K h):RL (K+150) (h*(eT s:Rat))∧RL (K+150) (rT s h):=by
 have b:RL (K+150) (h*(eT s:Rat)):=o6 c (czF a);exact⟨b,pM (czE b) (aH (cz3 a) (by omega)) (by omega)⟩
def czS(x y:Rat):0<=(x-y).num.sign↔y<=x:=by
 rcases iY (x-y) with h|h|h
 ·rw[(fS _).2 h];exact⟨fun k=>absurd k (by decide),fun k=>by grind⟩
 ·rw[h];exact⟨fun k=>by grind,fun k=>by decide⟩
 ·rw[(fS _).1 h];exact⟨fun _=>by grind,fun _=>by decide⟩
end Go.Proofs.YtjgbleapffgbcaaGreatDoor
namespace Go.Proofs.YtjgbleapffgbcaaGreatDoor
open Go.RowKit Sos
section
variable (a b:List (List UInt8))(va vb:Value)(w:World)(ha:StrsAt w va a)(hb':StrsAt w vb b)(hla:a.length<=1000)(hlb:b.length<=1000)(hca:∀l∈a,l.length<=1073741824)(hcb:∀l∈b,l.length<=1073741824)(K:Nat)(hKa:∀q∈aU a,RL K q)(hKb:∀q∈aU b,RL K q)(hK:K<=1048576)
include ha hb' hla hlb hca hcb hKa hKb hK
end
section
variable (a b:List (List UInt8))(va vb:Value)(w:World)(ha:StrsAt w va a)(hb':StrsAt w vb b)(hla:a.length<=1000)(hlb:b.length<=1000)(hca:∀l∈a,l.length<=1073741824)(hcb:∀l∈b,l.length<=1073741824)(K:Nat)(hKa:∀q∈aU a,RL K q)(hKb:∀q∈aU b,RL K q)(hK1:1<=K)(hK:K<=1048576)
include ha hb' hla hlb hca hcb hKa hKb hK1 hK
end
end Go.Proofs.YtjgbleapffgbcaaGreatDoor
namespace Go.Proofs.YtjgbleapffgbcaaGreatDoor
open Sos
variable{a b c d e:List Rat}{B:Nat}{f g p p' q s w:List Int}
def Cop(a b:List Rat):Prop:=∃u v:List Rat,∀x,aI u x*aI a x+aI v x*aI b x=1
def Cop.symm(h:Cop a b):Cop b a:=by
 obtain⟨u,v,h⟩:=h;exact⟨v,u,fun x=>by have:=h x;grind⟩
def Cop.dv(h:Cop e b)(k:DvE (aI b) d):Cop e d:=by
 obtain⟨u,v,h⟩:=h;obtain⟨q,k⟩:=k;exact⟨u,fG v q,fun x=>by have:=h x;rw[fY];rw[k] at this;grind⟩
def Cop.mul(h:Cop e a)(k:Cop e b)(j:∀x,aI c x=aI a x*aI b x):Cop e c:=by
 obtain⟨u,v,h⟩:=h;obtain⟨d,f,k⟩:=k;refine⟨j0 (fG u (j0 (fG d e) (fG f b))) (fG (fG v d) a),fG v f,fun x=> ?_⟩;have g:=h x;have i:=k x;rw[lG,fY,lG,fY,fY,fY,fY,fY,j];have l:(aI u x*aI e x+aI v x*aI a x)*(aI d x*aI e x+aI f x*aI b x)=1:=by rw[g,i,aqP]
 grind
def Cop.const{k:Rat}(b:k≠0)(a:∀x,aI c x=k):Cop e c:=⟨[],[1/k],fun x=>by
 rw[a];show 0*aI e x+(0*x+1/k)*k=1
 have:1/k*k=1:=gW b;grind⟩
structure Gc(f r:List Rat):Prop where
 dv:DvE (aI f) r
 dd:DvE (bM f) r
 bz:∃u v:List Rat,∀x,aI r x=aI u x*aI f x+aI v x*bM f x
inductive Rds:List Rat->List (List Rat)->Prop
 |stop {r:List Rat} {k:Rat} (hk:k≠0) (h:∀x,aI r x=k):Rds r []
 |step {r r2 b:List Rat} {l:List (List Rat)} (h:Gc r r2) (hr:∀x,aI r x=aI b x*aI r2 x) (h0:∃x,aI r x≠0) (t:Rds r2 l):Rds r (b :: l)
def o9{a b:List Int}(h:Euc B a b g):aN a->aN b->aN g:=by
 induction h with
 |done a=>exact fun h _=>h
 |one d=>
  intro _ _ a c;obtain rfl:(1:Int)=a:=by simpa using c
  decide
 |step d h t e=>exact fun _ f=>e f (Q5 h.r_trim)
def y3(c:bC f=1)(a:∀i,cf f i=conv (cf s) (cf g) i):bC s=1:=by
 have h:bC s∣bC f:=CM (fun n hn=>by
  obtain⟨j,b,rfl⟩:=List.mem_iff_getElem.1 hn;rw[<-fZ b,a];unfold conv
  exact YN (fun k _=>Int.dvd_mul_of_dvd_left (WT (fun n h=>CL h) k)))
 rw[c] at h;exact Nat.dvd_one.1 h
def y4(a b:List Int):List Int:=(List.range (a.length+b.length)).map (fun i=>conv (cf a) (cf b) i)
def dy8(a b:List Int)(i:Nat):cf (y4 a b) i=conv (cf a) (cf b) i:=by
 by_cases d:i<a.length+b.length
 ·unfold y4;rw[fZ (by rw[cH,bxZ];exact d),List.getElem_map,List.getElem_range]
 ·rw[bV (by unfold y4;rw[cH,bxZ];omega),rG (fun j c=>bV c) (fun j c=>bV c) (by omega)]
structure DvW(w p:List Int):Prop where
 ne:p≠[]
 tr:aN p
 pr:bC p=1
 len:p.length<=w.length
 out:∃q,∀i,cf w i=conv (cf p) (cf q) i
def DvW.quo{c Q:List Int}(h:DvW w p)(b:Q≠[])(k:aN Q)(d:c≠[])(l:aN c)(j:bC c=1)(n:Q.length+c.length=p.length+1)(a:∀i,cf p i=conv (cf Q) (cf c) i):DvW w Q∧DvW w c:=by
 obtain⟨q,e⟩:=h.out;have o:=List.length_pos_iff.2 b;have r:=List.length_pos_iff.2 d;have m:=h.len;have f:∀i,cf w i=conv (cf Q) (cf (y4 c q)) i:=fun i=>by
  rw[e,gL a (fun _=>rfl),cx4];exact gL (fun _=>rfl) (fun i=>(dy8 c q i).symm) i
 have g:∀i,cf w i=conv (cf c) (cf (y4 Q q)) i:=fun i=>by
  rw[e,gL (fun i=>(a i).trans (sO _ _ i)) (fun _=>rfl),cx4];exact gL (fun _=>rfl) (fun i=>(dy8 Q q i).symm) i
 exact⟨⟨b,k,y3 h.pr a,by omega,_,f⟩,⟨d,l,j,by omega,_,g⟩⟩
def DvW.nums{K N:Nat}(h:DvW w p)(e:w≠[])(f:aN w)(b:∀n∈w,nl n.natAbs<=K)(c:w.length<=N)(a:N<=1000):∀n∈p,nl n.natAbs<=K+2*N*(K+1)+1:=by
 obtain⟨q,d⟩:=h.out;exact cx8 e f b d h.len c a
def dV(a:List Int)(x:Rat):aI (aT 1 a) x=aX a x:=rfl
def dY(h:∀i,cf f i=conv (cf s) (cf g) i)(x:Rat):aX f x=aX s x*aX g x:=by
 have:=sH (A:=f) (Q:=s) (B:=g) (C:=[]) (m:=1) (fun i=>by rw[eR,az5,h];omega) x;rw[bxS,DS] at this;grind
def Aso(p p':List Int):Prop:=∃c:Rat,c≠0∧∀x,aX p x=c*aX p' x
def Aso.symm(h:Aso p p'):Aso p' p:=by
 obtain⟨c,b,h⟩:=h;refine⟨1/c,?_,fun x=> ?_⟩
 ·have:=gW (a:=1) b;intro e;rw[e,aqQ] at this;exact absurd this (by decide)
 ·rw[h,<-azC,gW b,azF]
def ez0(b:g≠[])(c:aN g):∃x,aI (aT 1 g) x≠0:=by
 apply bz0;intro h;have a:∀x,aI (aT 1 g) x=0:=fun x=>bz0 (fun k=>h ⟨x,k⟩);have:=DQ a (g.length-1);rw[dS,azF] at this;exact gJ ((dR b).1 c) this
def Aso.co{c:Rat}(h:∀x,aX p x=c*aX p' x)(i:Nat):((cf p i:Int):Rat)=c*((cf p' i:Int):Rat):=by
 have:=LL (a:=aT 1 p) (b:=(aT 1 p').map (fun y=>c*y)) (fun x=>by rw[iI];exact h x) i;rwa [dS,mG (fun y=>c*y) (dU _),dS,azF,azF] at this
def Aso.len(h:Aso p p')(a:p≠[])(g:aN p)(b:p'≠[])(i:aN p'):p.length=p'.length:=by
 obtain⟨c,d,h⟩:=h;have e:=gJ ((dR a).1 g);have f:=gJ ((dR b).1 i);have j:=List.length_pos_iff.2 a;have m:=List.length_pos_iff.2 b;rcases bzH p.length p'.length with k|k|k
 ·exfalso;have:=Aso.co h (p'.length-1);rw[bV (l:=p) (by omega),aq4] at this;exact m6 d f this.symm
 ·exact k
 ·exfalso;have:=Aso.co h (p.length-1);rw[bV (l:=p') (by omega),aq4,dU] at this;exact e this
structure Pp(p:List Int):Prop where
 ne:p≠[]
 tr:aN p
 pr:bC p=1
inductive RfO(B:Nat):List Int->List Int->List Int->List (List Int)->Prop
 |last {r a g:List Int} (h1:1<r.length) (pr:Pp r) (pa:Pp a) (pg:Pp g) (h:Euc B r (aS (bB r)) g) (ha:∀i,cf r i=conv (cf a) (cf g) i) (hg:g.length=1):RfO B r a g [a]
 |step {r a g b g2 e:List Int} {es:List (List Int)} (h1:1<r.length) (pr:Pp r) (pa:Pp a) (pg:Pp g) (pe:Pp e) (h:Euc B r (aS (bB r)) g) (ha:∀i,cf r i=conv (cf a) (cf g) i) (he:∀i,cf a i=conv (cf e) (cf b) i) (t:RfO B g b g2 es):RfO B r a g (e :: es)
section
variable {B:Nat}{r a g:List Int}{es:List (List Int)}
def RfO.facts(h:RfO B r a g es):1<r.length∧Pp r∧Pp a∧Pp g∧Euc B r (aS (bB r)) g∧∀i,cf r i=conv (cf a) (cf g) i:=by
 cases h with
 |last b f d e h c k=>exact⟨b,f,d,e,h,c⟩
 |step b f d e l h c j t=>exact⟨b,f,d,e,h,c⟩
end
def dy5{c:List Int}(f:Pp p)(i:Pp q)(h:pO B p q c):Pp c∧Dv (cf p) c∧Dv (cf q) c∧∀d,DvE (aX p) d->DvE (aX q) d->DvE (aX c) d:=by
 unfold pO at h;rw[XC f.pr,XC i.pr] at h;split at h
 ·have b:=XA h i.pr (.inr f.pr);exact⟨⟨(fun e=>by rw[e] at b;cases b),o9 h i.tr f.tr,b⟩,(JS h).2,(JS h).1,fun d j k=>axV h f.tr d k j⟩
 ·have b:=XA h f.pr (.inr i.pr);exact⟨⟨(fun e=>by rw[e] at b;cases b),o9 h f.tr i.tr,b⟩,(JS h).1,(JS h).2,fun d j k=>axV h i.tr d j k⟩
end Go.Proofs.YtjgbleapffgbcaaGreatDoor
namespace Go.Proofs.YtjgbleapffgbcaaGreatDoor
open Go.RowKit Sos
def DvW.pp{w p:List Int}(h:DvW w p):Pp p:=⟨h.ne,h.tr,h.pr⟩
end Go.Proofs.YtjgbleapffgbcaaGreatDoor
namespace Go.Proofs.YtjgbleapffgbcaaGreatDoor
open Sos
end Go.Proofs.YtjgbleapffgbcaaGreatDoor
namespace Go.Proofs.YtjgbleapffgbcaaGreatDoor
open Go.RowKit Sos
variable{a g r w:List Int}
def RfO.quoW(d:DvW w r)(c:Pp a)(b:Pp g)(e:∀i,cf r i=conv (cf a) (cf g) i):DvW w a∧DvW w g:=
 d.quo c.ne c.tr b.ne b.tr b.pr (by have:=(K7 c.tr d.tr b.tr b.ne e).2 c.ne;omega) e
def DvW.refl(h:Pp w):DvW w w:=⟨h.ne,h.tr,h.pr,aE,[1],fun i=>(CO _ i).symm⟩
def RfO.all{B:Nat}{es:List (List Int)}(h:RfO B r a g es):DvW w r->∀e∈es,DvW w e:=by
 induction h with
 |last l p i j h c q=>intro b e d;rw[List.mem_singleton.1 d];exact(RfO.quoW b i j c).1
 |step l p i j o h c d t m=>
  intro b x f;obtain⟨k,dg⟩:=RfO.quoW b i j c;obtain⟨-, -,n, -⟩:=t.facts;rcases List.mem_cons.1 f with rfl|f
  ·exact(RfO.quoW k o n d).1
  ·exact m dg x f
end Go.Proofs.YtjgbleapffgbcaaGreatDoor
namespace Go.Proofs.YtjgbleapffgbcaaGreatDoor
open Sos
variable{A:List Rat}
def dyI(c:Rat)(f:Nat->Rat)(i:Nat):conv (cf [c]) f i=c*f i:=by
 rw[gL (p':=fun k=>if k=0 then c else 0) (q':=f) (fun k=>by cases k<;>simp[cf]) (fun _=>rfl),qE,if_pos (dC i)];rfl
def dyJ{a b x:Rat}(d:x≠0)(h:a=b*x):a/x=b:=by
 have f:=gW (a:=a) d;have e:(a/x-b)*x=0:=by grind
 rcases Rat.mul_eq_zero.1 e with c|c
 ·grind
 ·exact absurd c d
def dyK{K:Nat}(d:∀q∈A,RL K q):∃D,ComDen A D (max 1 (A.length*K)):=by
 induction A with
 |nil=>exact⟨1,by decide,(fun q b=>by cases b),aH (cJ (m:=1) (by unfold BN;decide)) (Nat.le_max_left _ _)⟩
 |cons q A e=>
  have b:=(d q (iC ..)).2;have k:=q.den_pos;by_cases h:A=[]
  ·subst h;exact⟨(q.den:Int),by omega,fun x a=>by rw[List.mem_singleton.1 a];exact Int.dvd_refl _,by rw[dD,iJ,aqD];omega⟩
  ·obtain⟨D,c⟩:=e (fun q b=>d q (j8 _ b));have i:Nat.lcm D.natAbs q.den≠0:=Nat.lcm_ne_zero (by have:=c.pos;omega) q.den_nz;have g:=List.length_pos_iff.2 h;have hn:=c.nl_;have f:1<=K:=xR (d q (iC ..));have j:=aqK g f;refine⟨((Nat.lcm D.natAbs q.den:Nat):Int),by omega,fun x a=> ?_,?_⟩
   ·rcases List.mem_cons.1 a with rfl|a
    ·exact Int.ofNat_dvd.2 (Nat.dvd_lcm_right _ _)
    ·exact Int.ofNat_dvd.2 (bzF (Int.ofNat_dvd_left.1 (c.dvd x a)) (Nat.dvd_lcm_left _ _))
   ·rw[dD,eG,aq2];have:=VK D.natAbs q.den;omega
def exC{N M:List Int}{x y:Int}(D:0<x)(E:0<y)(P:aN N)(d:N≠[])(O:aN M)(K:M≠[])(A:N.length=M.length)(h:∀i,cf N i*x=cf M i*y):aS N=aS M:=by
 have R:=nI P d;have z2:=nI O K;have L:=xZ R;have p2:=xZ z2;have I:=lW N;have J:=lW M;have H:(aS N).length=(aS M).length:=by rw[dF,dF,A]
 obtain⟨a,l⟩:∃a:Int,(bC N:Int)*x=a:=⟨_,rfl⟩;obtain⟨b,o⟩:∃b:Int,(bC M:Int)*y=b:=⟨_,rfl⟩;have u:0<a:=by rw[<-l];exact Int.mul_pos (by omega) D
 have S:0<b:=by rw[<-o];exact Int.mul_pos (by omega) E
 have t:∀i,cf (aS N) i*a=cf (aS M) i*b:=fun i=>by
  rw[<-l,<-o,<-Int.mul_assoc,<-Int.mul_assoc,I,J];exact h i
 have G:∀i,((cf (aS N) i:Int):Rat)*a=((cf (aS M) i:Int):Rat)*b:=fun i=>by
  rw[<-eJ,<-eJ,t]
 have m:=gJ (show a≠0 by omega);have e:=gW (a:=(b:Rat)) m
 obtain⟨q, -,C⟩:=D7 (xs:=aS N) (g:=aS M) (Q:=[(b:Rat)/a]) p2 (fun i=>by
  rw[dyI];have c:(((cf (aS N) i:Int):Rat)-(b:Rat)/a*((cf (aS M) i:Int):Rat))*a=0:=by have:=G i;grind
  rcases Rat.mul_eq_zero.1 c with f|f
  ·grind
  ·exact absurd f m)
 have hn:(b:Rat)/a=((cf q 0:Int):Rat):=C 0;generalize cf q 0=n at *;have B:n*a=b:=by
  rw[hn,<-eJ] at e;exact Rat.intCast_inj.1 e
 have T:0<n:=by
  rcases azO 0 n with k|k
  ·exact k
  ·have:=eH k (fP u);rw[bxB] at this;omega
 have r:∀i,cf (aS N) i=n*cf (aS M) i:=fun i=>by
  have s:=t i;rw[<-B] at s;refine Int.eq_of_mul_eq_mul_right (show a≠0 by omega) ?_;rw[s,Int.mul_left_comm,Int.mul_assoc]
 have p:n.natAbs∣bC (aS N):=CM (fun z F=>by
  obtain⟨j,w,rfl⟩:=List.mem_iff_getElem.1 F;rw[<-fZ w,r];exact Int.dvd_mul_of_dvd_left (Int.natAbs_dvd.2 (Int.dvd_refl n)))
 rw[L] at p;have d:n=1:=by have:=Nat.dvd_one.1 p;omega
 refine bzO H (fun j v c=> ?_);rw[<-fZ v,<-fZ c,r,d,az5]
def exD{D a:Int}{K d:Nat}(h:ComDen A D K)(b:ComDen A a d)(t:aN A)(c:A≠[]):aS (cC A D)=aS (cC A a):=
 exC b.pos h.pos (oO h.pos h.dvd t) (fun e=>c ((kS A D).1 e)) (oO b.pos b.dvd t) (fun e=>c ((kS A a).1 e)) (by rw[oN,oN]) (fun i=>by
  have f:=JC A D h.dvd i;have g:=JC A a b.dvd i;refine Rat.intCast_inj.1 ?_;rw[eJ,eJ,f,g];grind)
end Go.Proofs.YtjgbleapffgbcaaGreatDoor
namespace Go.Proofs.YtjgbleapffgbcaaGreatDoor
open Go.RowKit Sos Tryz
variable{B K a c f g i k o:Nat}{A b d:Option Addr}{l:List (List UInt8×List UInt8)}{cs r:List Value}{u u0 u1 v:Value}{R S e t t':TypeId}{W w w' w1:World}{x y:Rat}{s1 z:Bool}{n:Int}
def DD(w:World)(v:Value):Prop:=∀g,v.ownBlock=some g->∀cur t f,w.heap[g]? =some (.cells cur t f)->∀y∈cur.toList,NoInt y
def GrowD(w:World)(base:Nat)(e:TypeId)(k:Nat)(v:Value)(rows:List (List Value)):Prop:=w.ownsRow base e k v rows.length rows.flatten∧(∀r∈rows,r.length=k)∧DD w v
section
variable {w w':World}{base:Nat}{e:TypeId}{k:Nat}{v:Value}{rows:List (List Value)}
def GrowD.nil:GrowD w base e k (.slice none 0 0) []:=⟨World.ownsRow_nil _ _ _ _,(fun _ h=>by cases h),fun g h=>by simp[Value.ownBlock] at h⟩
def GrowD.lt(h:GrowD w base e k v rows):∀g,v.ownBlock=some g->base<=g∧g<w.1.size:=fun g b=>by
 rcases h.1.2 with ⟨rfl,_⟩|⟨i,f,cur,rfl,c,d,_⟩
 ·simp[Value.ownBlock] at b
 ·simp[Value.ownBlock] at b;subst b;exact⟨c,(Array.getElem?_eq_some_iff.1 d).1⟩
def GrowD.kept(h:GrowD w base e k v rows)(l:∀g,v.ownBlock=some g->w'.heap[g]? =w.heap[g]?):GrowD w' base e k v rows:=by
 obtain⟨j,n,q⟩:=h;refine⟨⟨j.1,?_⟩,n,fun g d b t f c=>q g d b t f ((l g d).symm.trans c)⟩;rcases j.2 with h|⟨i,m,b,rfl,p,c,h⟩
 ·exact .inl h
 ·exact .inr ⟨i,m,b,rfl,p,(l i (by simp[Value.ownBlock])).trans c,h⟩
def GrowD.be(h:GrowD w base e k v rows)(c:Below w.1.size w w'):GrowD w' base e k v rows:=h.kept (fun g b=>c.block g (h.lt g b).2)
def GrowD.up{a b:World}[u:Up a b](h:GrowD a base e k v rows):GrowD b base e k v rows:=h.be u.out
def GrowD.form(h:GrowD w base e k v rows):∃A c,v= .slice A rows.length c∧rows.length<=c:=by
 rcases h.1.2 with ⟨rfl,b⟩|⟨i,d,g,rfl,j,l,f,_⟩
 ·exact⟨none,0,by rw[b],by rw[b];exact aE⟩
 ·exact⟨_,d,rfl,f⟩
def GrowD.at_{l:Nat}(h:GrowD w base e k (.slice A l c) rows)(hi:rows[i]? =some r):∃b,A=some ⟨b,0,none⟩∧base<=b∧b<w.1.size∧∀(j:Nat) (u:Value),r[j]? =some u->w.cell? ⟨b,i*k+j,none⟩=some u:=by
 obtain⟨q,g,B⟩:=h;have C:=(List.getElem?_eq_some_iff.1 hi).1;rcases q.2 with ⟨_,z⟩|⟨f,y,p,hv,s,m,D,E,F,x⟩
 ·omega
 ·simp only[Value.slice.injEq] at hv;refine⟨f,hv.1,s,(Array.getElem?_eq_some_iff.1 m).1,fun j u n=> ?_⟩;have t:j<k:=by rw[<-g r (dG hi)];exact(List.getElem?_eq_some_iff.1 n).1
  rw[cell_of_row w f _ p e (0,0) m,<-Array.getElem?_toList];have d:=mW g hi t;rw[n,<-x,fC] at d;split at d
  ·exact d
  ·cases d
end
def LA(w:World)(t N e:TypeId)(k O:Nat)(z:Value)(W:Tryz.prog.underlying t=some (.slice e))(hi:(Tryz.prog.info? e).map (fun i=>(i.zero,i.size,i.bytes))=some (some z,k,O))(aw:z.cells.size=k)(hz:∀n,∀y∈Builtin.zeroCells z.cells n,NoInt y)(hk:0<k)(aj:O<=1024)
  {base:Nat}{rows:List (List Value)}(hG:GrowD w base e k v rows)(hB:Bx w g r t')(H:r.length=k)(U:∀u∈r,NoInt u∧u.oneCell'=true)(hl:rows.length<=1073741824)(hb:base<=w.1.size):
  ∃E w',(Builtin.append_ #[t,t] N #[v,.slice (some ⟨g,0,none⟩) 1 c]).run prog w= .ok E w'∧GrowD w' base e k E (rows++[r])∧Keep w w'∧w.grownBy w' v.ownBlock∧(E.ownBlock=v.ownBlock∨E.ownBlock=some w.1.size):=by
 obtain⟨F,h3,hN⟩:=hG;obtain⟨i,hi,ac,I,ad⟩:=info_parts hi;have af:(rows.length+1)*O<=140737488355328:=aH (aqK (show rows.length+1<=1073741825 by omega) aj) (by decide);have T:∀j u,r[j]? =some u->w.cell? ((⟨g,0,none⟩:Addr).add j)=some u:=fun j u M=>by
  have:=hB.cell j M;unfold Addr.add;split
  ·rename_i K;subst K;exact this
  ·simpa using this
 obtain⟨E,w',V,ho,S,_,ai⟩:=run_append_own_at (P:=prog) w base t N e i z k O W hi ac I ad aw hk v rows.length _ F ⟨g,0,none⟩ 1 c r (by rw[H,aqD]) T (fun u M=>(U u M).2) (by unfold maxLen;omega) af hb;have an:Keep w w':=fun x n D=>by
  obtain⟨A,c',hv,L,au,aq⟩:=D;refine⟨A,c',hv,L,?_,aq.mono S.size⟩;rcases au with h|⟨b,ax,rfl,ag,al⟩
  ·exact .inl h
  ·refine .inr ⟨b,ax,rfl,aZ ag S.size,fun j G=> ?_⟩;have Z:=al j G;by_cases R:v.ownBlock=some b
   ·rcases F.2 with ⟨rfl,_⟩|⟨p,q,l,rfl,_,C,_⟩
    ·simp[Value.ownBlock] at R
    ·have B:p=b:=by simpa [Value.ownBlock] using R
     subst B;rw[cell_of_row w p _ l _ (0,0) C,<-Array.getElem?_toList] at Z;exact absurd rfl (hN p R l _ _ C _ (dG Z) _ _)
   ·exact(World.cell?_of_block (S.block b ag (fun e'=>R e'.symm))).trans Z
 have am:DD w' E:=by
  have ae:∀(X:List Value) (q m:Nat),(∀y∈X,NoInt y)->DD (w.drew.alloc (.cells (X.toArray++r.toArray++Builtin.zeroCells z.cells m) e)) (.slice (some ⟨w.1.size,0,none⟩) (rows.length+1) q):=fun X q m hv p J l t f L=>by
   simp[Value.ownBlock] at J;subst J;have:=heap_alloc_new w.drew (.cells (X.toArray++r.toArray++Builtin.zeroCells z.cells m) e);have h5:=this.symm.trans L;simp only[Option.some.injEq,Obj.cells.injEq] at h5;rw[<-h5.1];intro y d;rw[bx5,bx5] at d;rcases List.mem_append.1 d with d|d
   ·rcases List.mem_append.1 d with d|d
    ·exact hv y d
    ·exact(U y d).1
   ·exact hz m y (Array.mem_toList_iff.1 d)
  rcases F.2 with ⟨rfl,K⟩|⟨p,q,l,rfl,az,C,ap,a0,hs,a1⟩
  ·have s:=run_append_nil (P:=prog) w t N e i z W hi ac ⟨g,0,none⟩ 1 c r (by rw[I,H,aqD]) T (by decide) (by decide) (by rw[ad];omega);rw[V] at s;injection s with e1 B;subst e1 B;have:=ae [] (grownCap w 1 0 e) (grownCap w 1 0 e-1) (fun _ h=>by cases h);rw[K] at this;simpa using this
  ·have Y:∀y∈l.toList,NoInt y:=hN p rfl l _ _ C;by_cases ah:rows.length+1<=q
   ·have s:=run_append_room (P:=prog) w t N e i W hi p rows.length q l C ⟨g,0,none⟩ 1 c r (by rw[I,H,aqD]) T (fun u M=>(U u M).2) ah (by
     rw[I,hs,H];have:=dK k ah;rw[aqA,aqD] at this;exact this)
    rw[V] at s;injection s with e1 B;subst e1 B;intro g3 J ay t f L;simp[Value.ownBlock] at J;subst J;have h7:=(setRow_heap w p l _ e _ C).symm.trans L;simp only[Option.some.injEq,Obj.cells.injEq] at h7;rw[<-h7.1];intro y d;have av:y∈l.toList.take (rows.length*i.size)++r++l.toList.drop (rows.length*i.size+r.length):=d;rcases List.mem_append.1 av with d|d
    ·rcases List.mem_append.1 d with d|d
     ·exact Y y (lH d)
     ·exact(U y d).1
    ·exact Y y (bxD d)
   ·have ar:∀j y,(l.toList.take (rows.length*k))[j]? =some y->w.cell? ((⟨p,0,none⟩:Addr).add j)=some y:=fun j y G=>by
     have F:w.cell? ⟨p,j,none⟩=some y:=by
      rw[cell_of_row w p j l _ (0,0) C,<-Array.getElem?_toList];rw[fC] at G;split at G
      ·exact G
      ·cases G
     unfold Addr.add;split
     ·rename_i K;subst K;exact F
     ·simpa using F
    have ao:(l.toList.take (rows.length*k)).length=rows.length*i.size:=by
     have ak:l.toList.length=q*k:=hs;rw[I,bK,ak];exact y8 (dK _ ap)
    have s:=run_append_grow (P:=prog) w t N e i z W hi ac ⟨p,0,none⟩ rows.length q (l.toList.take (rows.length*k)) ao ar ⟨g,0,none⟩ 1 c r (by rw[I,H,aqD]) T (by omega) (by omega) (growslice_fits (by omega) (by rw[ad];exact af));rw[V] at s;injection s with e1 B;subst e1 B;have:=ae (l.toList.take (rows.length*k)) (grownCap w (rows.length+1) q e) (grownCap w (rows.length+1) q e-(rows.length+1)) (fun y d=>Y y (lH d));simpa using this
 refine⟨E,w',V,⟨?_,fun x D=> ?_,am⟩,an,S,ai⟩
 ·rw[dA,byL];simpa using ho
 ·rcases List.mem_append.1 D with D|D
  ·exact h3 x D
  ·rw[List.mem_singleton.1 D];exact H
section
variable {ops:Array Oper}{rest:List Oper}{o:Oper}{a:Act}{Q:Exit->Act->World->Prop}{w:World}
def yE(D:o.guard=none){s x:Operand}(H:o.op= .call { callee:= .builtin .append,args:= #[s,x],argTypes:= #[t,t] })(e:TypeId)(k d:Nat)(z:Value)(M:Tryz.prog.underlying t=some (.slice e))(hi:(Tryz.prog.info? e).map (fun i=>(i.zero,i.size,i.bytes))=some (some z,k,d))(P:z.cells.size=k)(O:∀n,∀y∈Builtin.zeroCells z.cells n,NoInt y)(E:0<k)(C:d<=1024)
  {base:Nat}{rows:List (List Value)}(L:a.eval s=v)(q:GrowD w base e k v rows)(N:a.eval x= .slice (some ⟨g,0,none⟩) 1 c)(p:Bx w g r R)(I:r.length=k)(G:∀u∈r,NoInt u∧u.oneCell'=true)(F:rows.length<=1073741824)(B:base<=w.1.size)
  (h:∀b w',GrowD w' base e k b (rows++[r])->Keep w w'->w.grownBy w' v.ownBlock->(b.ownBlock=v.ownBlock∨b.ownBlock=some w.1.size)->wpList prog ops Q rest (a.put o.dst b) w'):
  wpList prog ops Q (o :: rest) a w:=by
 obtain⟨b,w',J,f,j,l,m⟩:=LA w t o.type e k d z M hi P O E C q p I G F B (c:=c);refine wpList_plain D fun K A=> ?_;unfold Oper.wp execOp;simp only[H,resolve,invoke,builtin,Sem.run_bind,Sem.run_pure,Result.andThen_ok,bxC,fM,aqJ,L,N,J];exact A _ _ (h b w' f j l m)
def LB{K:Act->World->Prop}{E:Prop}(C:o.guard=none){s x:Operand}(H:o.op= .call { callee:= .builtin .append,args:= #[s,x],argTypes:= #[t,t] })(e:TypeId)(k d:Nat)(z:Value)(M:Tryz.prog.underlying t=some (.slice e))(hi:(Tryz.prog.info? e).map (fun i=>(i.zero,i.size,i.bytes))=some (some z,k,d))(R:z.cells.size=k)(P:∀n,∀y∈Builtin.zeroCells z.cells n,NoInt y)(D:0<k)(B:d<=1024)
  {base:Nat}{rows:List (List Value)}(L:a.eval s=v)(q:GrowD w base e k v rows)(O:a.eval x= .slice (some ⟨g,0,none⟩) 1 c)(p:Bx w g r S)(I:r.length=k)(G:∀u∈r,NoInt u∧u.oneCell'=true)(F:rows.length<=1073741824)(A:base<=w.1.size)
  (h:∀b w',GrowD w' base e k b (rows++[r])->Keep w w'->w.grownBy w' v.ownBlock->(b.ownBlock=v.ownBlock∨b.ownBlock=some w.1.size)->K (a.put o.dst b) w'):if Region.wanted o (yielded ops a.tmps)=true then Oper.wp prog o a w K Q else E:=by
 have N:Region.wanted o (yielded ops a.tmps)=true:=by simp[Region.wanted,C]
 rw[if_pos N];obtain⟨b,w',J,f,j,l,m⟩:=LA w t o.type e k d z M hi R P D B q p I G F A (c:=c);unfold Oper.wp execOp;simp only[H,resolve,invoke,builtin,Sem.run_bind,Sem.run_pure,Result.andThen_ok,bxC,fM,aqJ,L,O,J];exact h b w' f j l m
end
def GrowD.left{base:Nat}{rows:List (List Value)}(h:GrowD w base e k v rows)(b:w.grownBy w' v.ownBlock)(c:base<=w.1.size):Below base w w':=⟨b.os,b.tape,b.output,b.size,fun k d=>b.block k (by omega) (fun e=>by have:=(h.lt k e.symm).1;omega)⟩
def ZS(x y:Rat):(x+y)*(((1:Int):Rat)/((2:Int):Rat))=(x+y)/2:=by
 have a:((1:Int):Rat)=1:=rfl;have c:((2:Int):Rat)=2:=rfl;rw[a,c];grind
def ZT:(((1:Int):Rat)/((2:Int):Rat)).den≠1:=by rw[<-Rat.divInt_eq_div];decide
def ZU:(((1:Int):Rat)/((2:Int):Rat)).num≠0:=by rw[<-Rat.divInt_eq_div];decide
def SpanAt(w:World)(v:Value)(x y:Rat):Prop:=∃s1 a k f o c l h p d m i q e n j,v= .agg #[.bool s1,.slice a k f,.bool o,.slice c l h,.bool p,.slice d m i,.bool q,.slice e n j]∧RatAt w (.agg #[.bool s1,.slice a k f,.bool o,.slice c l h]) x∧RatAt w (.agg #[.bool p,.slice d m i,.bool q,.slice e n j]) y
def uN(K:Nat)(D:Rat->Rat->Prop):Prop:=∀x y,D x y->RL K x->RL K y->∀W u v,Glob W->RatAt W u x->RatAt W v y->Calls prog 63 #[u,v] W (iF W (x+y))
def ZV(d:10*K+40<=aJ):uN K y7:=fun x y e f i W u v c h a=>IZ x y u v W c h a e.2 K f i d
def ZW(D:Rat->Rat->Prop)(x y:Rat)(v:Value)(w:World)(a:Glob w)(hv:SpanAt w v x y)(K:Nat)(r:RL K x)(q:RL K y)(h1:1<=K)(ag:K<=1073741824)(I:uN K D)(J:D x y):
  Calls prog 98 #[v] w (iF w ((x+y)/2)):=by
 obtain⟨Y,j,N,s,Z,k,O,t,s3,l,P,A,s4,n,Q,B,rfl,hx,hy⟩:=hv;have L:=fun W a h d=>I x y J r q W (.agg #[.bool Y,.slice j N s,.bool Z,.slice k O t]) (.agg #[.bool s3,.slice l P A,.bool s4,.slice n Q B]) a h d;clear I J;have U:nl (1:Int).natAbs<=1:=cJ (by decide);have V:nl (2:Int).natAbs<=1:=cJ (by decide);have M:=fun W u v a h d=>I3 1 2 u v W a h d 1 U V (by unfold aJ;decide);have i:=fun W u v a h d=>UT (x+y) (((1:Int):Rat)/((2:Int):Rat)) u v W a h d (fun e=>absurd e.2 ZT) ZU (2*K+2) (bU (wW r q) (by omega)) (bU (pM U V (mC 1)) (by omega)) (by unfold aJ;omega);rw[ZS] at i;unfold iF at L M i;unfold iF;generalize (x+y)/2=m at *;generalize x+y=z at *;generalize ((1:Int):Rat)/((2:Int):Rat)=ah at *;obtain⟨W,G,c,X,R⟩:=eL w [.bool Y,.slice j N s,.bool Z,.slice k O t,.bool s3,.slice l P A,.bool s4,.slice n Q B] 85 [.bool false,.slice none 0 0,.bool false,.slice none 0 0] 76;have cM:=aa X.g8 R.g4;go_enter func98,ntmps98;go_wp2_with fail;(try rw[G]);clear G;refine(L _ (a.be c) (hx.be c) (hy.be c)).mono ?_;rintro e5 w5 ⟨v5,rfl,h5,ac⟩;have:=St.mk ac;go_wp2_with fail;refine(lL 1 _ (by decide) (by decide)).mono ?_;rintro F w6 ⟨v6,rfl,h6,f⟩;have:=St.mk f;go_wp2_with fail;refine(lL 2 _ (by decide) (by decide)).mono ?_;rintro e7 w7 ⟨v7,rfl,h7,ad⟩;have:=St.mk ad;go_wp2_with fail;refine(M _ _ _ (a.be c).up h6.up h7).mono ?_;rintro e8 w8 ⟨v8,rfl,h8,ae⟩;have:=St.mk ae;go_wp2_with fail;refine(i _ _ _ (a.be c).up h5.up h8).mono ?_;rintro e9 w9 ⟨v9,rfl,H,af⟩;obtain⟨s5,o,S,C,s6,p,T,E,rfl⟩:=H.form;have:=St.mk af;replace R:=R.up (b:=w9);have cR:=R.g4;go_wp2_with fail;obtain⟨W6,F,R6,f,hk,ff⟩:=R.put4 (bJ (b:=w9) c) (by omega) (.bool s5) (.slice o S C) (.bool s6) (.slice p T E) rfl rfl;rw[F];exact aM (v:= .agg #[.bool s5,.slice o S C,.bool s6,.slice p T E]) (by simp[results,results98,go_sem,R6.k4]) rfl ⟨_,rfl,H.ke hk,f⟩
def ZX(x y:Rat)(v:Value)(w:World)(a:Glob w)(hv:SpanAt w v x y)(K:Nat)(S:RL K x)(Q:RL K y)(L:K<=1073741824):
  Calls prog 52 #[v] w fun e w'=>e= .returned (.agg #[.string ⟨(cW x).toArray⟩,.string ⟨(cW y).toArray⟩])∧Below w.1.size w w':=by
 obtain⟨A,i,s,m,B,j,t,n,C,k,u,o,D,l,z,p,rfl,q,r⟩:=hv;have U:=fun W a h=>I4 x (.agg #[.bool A,.slice i s m,.bool B,.slice j t n]) W a h K S L;have V:=fun W a h=>I4 y (.agg #[.bool C,.slice k u o,.bool D,.slice l z p]) W a h K Q L;generalize (cW x).toArray=N at *;generalize (cW y).toArray=O at *;obtain⟨W,I,c,X,R⟩:=eL w [.bool A,.slice i s m,.bool B,.slice j t n,.bool C,.slice k u o,.bool D,.slice l z p] 85 [.string ⟨#[]⟩,.string ⟨#[]⟩] 38;have cM:=aa X.g8 R.g2;go_enter func52,ntmps52;go_wp2_with fail;(try rw[I]);clear I;replace q:=q.be c;replace r:=r.be c;have M:w.1.size+1≠w.1.size:=by omega
 go_region_held3 (fun w'=>C8 w' w.1.size (.bool A) (.slice i s m) (.bool B) (.slice j t n) (.bool C) (.slice k u o) (.bool D) (.slice l z p)) (first|(with_reducible exact X.up.k8)|(with_reducible exact((G.far 0 _ M).far 1 _ M).k8))
  (first
   |(go_at_call 51;first|(with_reducible refine(U _ (a.be c).up q.up).mono ?_;rintro e5 E ⟨rfl,Y⟩;have:=St.mk Y;have d:=R.up (b:=E);have G:=X.up (b:=E);have T:=d.g2;have J:=bJ (b:=E) c)|(with_reducible refine(V _ (a.be c).up r.up).mono ?_;rintro H F ⟨rfl,f⟩;have:=St.mk f;have d:=R.up (b:=F);have G:=X.up (b:=F);have T:=d.g2;have J:=bJ (b:=F) c)))
 all_goals (
  go_wp2_with fail;obtain⟨Z,H,P,f,hk,ff⟩:=d.put2 J (by omega) (.string ⟨N⟩) (.string ⟨O⟩) rfl rfl;rw[H];exact aM (v:= .agg #[.string ⟨N⟩,.string ⟨O⟩]) (by simp[results,results52,go_sem,P.k2]) rfl ⟨rfl,by first|exact f|exact f.drew⟩)
def PoAt(w:World)(v:Value)(x:Rat)(n:Int)(z:Bool):Prop:=∃s1 a f d i c h e,v= .agg #[.bool s1,.slice a f d,.bool i,.slice c h e,.int .i64 n,.bool z]∧RatAt w (.agg #[.bool s1,.slice a f d,.bool i,.slice c h e]) x
def Bx.put6{b:Nat}(h:Bx W b cs t)(H:Below B w W)(a:B<=b)(v0 v1 v2 v3 v4 v5:Value){e f i j l:Value}{k:Int}(I:cs=[e,f,i,j,.int .i64 k,l])(hn:(cS (some e)&&(cS (some f)&&(cS (some i)&&(cS (some j)&&cS (some l)))))=true):
  ∃d,(((((W.setCell ⟨b,0,none⟩ v0).setCell ⟨b,1,none⟩ v1).setCell ⟨b,2,none⟩ v2).setCell ⟨b,3,none⟩ v3).setCell ⟨b,4,none⟩ v4).setCell ⟨b,5,none⟩ v5=d∧Bx d b [v0,v1,v2,v3,v4,v5] t∧Below B w d∧Keep W d∧∀{g:Nat} {cs:List Value} {t:TypeId},Bx W g cs t->b≠g->Bx d g cs t:=by
 subst I;simp only[az7] at hn;obtain⟨P,rfl,C,n,J,v⟩:=h.put1 H a 0 v0 hn.1;obtain⟨Q,rfl,D,o,K,x⟩:=C.put1 n a 1 v1 hn.2.1;obtain⟨R,rfl,E,q,L,y⟩:=D.put1 o a 2 v2 hn.2.2.1;obtain⟨S,rfl,m,r,M,z⟩:=E.put1 q a 3 v3 hn.2.2.2.1;have s:=r.setCell (p:=⟨b,4,none⟩) a v4;have N:=Keep.puti (m.cell 4 rfl) v4;have F:=m.set 4 v4;obtain⟨T,rfl,G,u,O,A⟩:=F.put1 s a 5 v5 hn.2.2.2.2;exact⟨_,rfl,G,u,((((J.trans K).trans L).trans M).trans N).trans O,fun k c=>A ((z (y (x (v k c) c) c) c).far 4 v4 c) c⟩
section
variable {w:World}{b g:Nat}{v0 v1 v2 v3 v4 v5:Value}
def qV(a:b≠g)(h:w.cell? ⟨g,o,none⟩=some u):((((((w.setCell ⟨b,0,none⟩ v0).setCell ⟨b,1,none⟩ v1).setCell ⟨b,2,none⟩ v2).setCell ⟨b,3,none⟩ v3).setCell ⟨b,4,none⟩ v4).setCell ⟨b,5,none⟩ v5).cell? ⟨g,o,none⟩=some u:=by
 exact(aL _ _ _ _ _ _ a).trans ((aL _ _ _ _ _ _ a).trans ((aL _ _ _ _ _ _ a).trans ((aL _ _ _ _ _ _ a).trans ((aL _ _ _ _ _ _ a).trans ((aL _ _ _ _ _ _ a).trans h)))))
def ZY(a:b≠g){u2 u3:Value}(h:C4 w g u0 u1 u2 u3):C4 ((((((w.setCell ⟨b,0,none⟩ v0).setCell ⟨b,1,none⟩ v1).setCell ⟨b,2,none⟩ v2).setCell ⟨b,3,none⟩ v3).setCell ⟨b,4,none⟩ v4).setCell ⟨b,5,none⟩ v5) g u0 u1 u2 u3:=⟨qV a h.1,qV a h.2.1,qV a h.2.2.1,qV a h.2.2.2⟩
def ZZ(a:b≠g)(h:C2 w g u0 u1):C2 ((((((w.setCell ⟨b,0,none⟩ v0).setCell ⟨b,1,none⟩ v1).setCell ⟨b,2,none⟩ v2).setCell ⟨b,3,none⟩ v3).setCell ⟨b,4,none⟩ v4).setCell ⟨b,5,none⟩ v5) g u0 u1:=⟨qV a h.1,qV a h.2⟩
end
def ax0(s:List Int)(x:Rat):decide (fE s x.num x.den=0)=decide (aP s 0 x=0):=by
 unfold aP;rw[if_pos rfl];exact decide_eq_decide.2 (by rw[Int.sign_eq_zero_iff_zero])
def ax1(s:List Int)(c:List (List Int))(B E:Nat)(x:Rat)(vc vr vx:Value)(w:World)(H:Bx w E [vc,vr] 132)(hv:WsAt w B 64 vc (s :: c))(y:RatAt w vx x)(an:(s :: c).length<=1024)(K:Nat)(J:∀a∈s :: c,a≠[]∧a.length<=65∧∀n∈a,nl n.natAbs<=K)(C:RL K x)(ac:140*K+10<=17592186044416):
  Calls prog 95 #[.pointer (some ⟨E,0,none⟩),vx] w fun e w'=>∃v',e= .returned v'∧PoAt w' v' x (aY 0 ((s :: c).map (fun a=>aP a 0 x)):Nat) (decide (aP s 0 x=0))∧Below w.1.size w w':=by
 obtain⟨r,d,o,k,t,f,q,m,rfl⟩:=y.form;obtain⟨A,Q,rfl,hc⟩:=hv.form;obtain⟨j,u0,rfl,ae,hu,ah⟩:=hv.at_ (i:=0) (l:=s) rfl;obtain⟨N,P,rfl,ap⟩:=ah.form;have aq:(0:Int)<((s :: c).length:Int):=by rw[eG];omega
 have z:=J s (iC ..);have af:=fun W h G=>BV (s :: c) B 0 x (.slice (some ⟨j,0,none⟩) (s :: c).length Q) (.agg #[.bool r,.slice d o k,.bool t,.slice f q m,.int .i64 0]) W h G (by decide) an K J C ac;have ad:=fun W h G=>CB s x (.slice N s.length P) (.agg #[.bool r,.slice d o k,.bool t,.slice f q m]) W h G K z.2.2 C z.2.1 ac;have O:=xK (ns:=s) (a:=x.num) (b:=x.den) (T:=BN^K) (fun n h=>mS (z.2.2 n h)) (mS C.1) (mS C.2);have aj:nl (fE s x.num x.den).natAbs<=K*65+1:=by
  refine cJ (jI O.1 (aZ (xL (by omega)).1 (cO (by decide) ?_)));have:=eV K z.2.1;omega
 have ag:=fun W u h=>g9 (fE s x.num x.den) u W h (by omega);rw[ax0] at ag;have ao:=H.lt;unfold eO at af;unfold dW at ad;generalize (aY 0 ((s :: c).map (fun a=>aP a 0 x)):Nat)=V at *;generalize decide (aP s 0 x=0)=Z at *;generalize fE s x.num x.den=au at *;clear J z O aj C;have ar:0<(s :: c).length:=by rw[eG];omega
 generalize (s :: c).length=n at *;obtain⟨W,U,I,X,R⟩:=eL w [.bool r,.slice d o k,.bool t,.slice f q m] 76 [.bool false,.slice none 0 0,.bool false,.slice none 0 0,.int .i64 0,.bool false] 135;have cM:=aa X.g4 R.g6;go_enter func95,ntmps95;go_wp2_with fail;(try rw[U]);clear U;have:=St.mk I;have n1:w.1.size+1≠w.1.size:=by omega
 have n2:w.1.size+1≠E:=by omega
 have n3:w.1.size+1≠j:=by omega
 go_region_held3 (fun w'=>C4 w' w.1.size (.bool r) (.slice d o k) (.bool t) (.slice f q m)∧C2 w' E (.slice (some ⟨j,0,none⟩) n Q) vr∧w'.cell? ⟨j,0,none⟩=some (.slice N s.length P))
  (first
   |(with_reducible exact⟨X.up.k4,H.up.k2,((Up.out (a:=w)).cell (p:=⟨j,0,none⟩) ae).trans hu⟩)
   |(with_reducible exact⟨ZY n1 X.up.k4,ZZ n2 H.up.k2,qV n3 (((Up.out (a:=w)).cell (p:=⟨j,0,none⟩) ae).trans hu)⟩))
  (first
   |(go_at_call 142;refine(af _ hv.up (EndAt.of y.up)).mono ?_;rintro e5 L ⟨rfl,al⟩;have:=St.mk al;have D:=R.up (b:=L);have ak:=D.g6;have Y:=bJ (b:=L) I;have ai:=y.up (b:=L))
   |(go_at_call 49;refine(ad _ ah.up y.up).mono ?_;rintro S w6 ⟨v6,rfl,h6,F⟩;have:=St.mk F)
   |(go_at_call 50;refine(ag _ _ h6.up).mono ?_;rintro e7 M ⟨rfl,am⟩;have:=St.mk am;have D:=R.up (b:=M);have ak:=D.g6;have Y:=bJ (b:=M) I;have ai:=y.up (b:=M)))
 all_goals (
  go_wp2_with fail;obtain⟨W6,S,R6,F,hk,ff⟩:=D.put6 Y (by omega) (.bool r) (.slice d o k) (.bool t) (.slice f q m) (.int .i64 (V:Int)) (.bool Z) rfl rfl;rw[S];exact aM (v:= .agg #[.bool r,.slice d o k,.bool t,.slice f q m,.int .i64 (V:Int),.bool Z]) (by simp[results,results95,go_sem,R6.k6]) rfl ⟨_,rfl,⟨_,_,_,_,_,_,_,_,rfl,ai.ke hk⟩,by first|exact F|exact F.drew⟩)
structure Fr(gb:Nat)(v:Value)(w w':World):Prop where
 be:Below gb w w'
 ke:Keep w w'
 block:∀k,gb<k->k<w.1.size->v.ownBlock≠some k->w'.heap[k]? =w.heap[k]?
def OwnTo(w:World)(v v':Value):Prop:=∀g,v'.ownBlock=some g->v.ownBlock=some g∨w.1.size<=g
def Fr.of(h:Below w.1.size w w')(b:a<=w.1.size):Fr a v w w':=⟨h.mono b,Keep.be h,fun k _ c _=>h.block k c⟩
def Fr.trans{i:Value}{j:World}(h:Fr a v w w1)(b:Fr a i w1 j)(l:OwnTo w v i):Fr a v w j:=
 ⟨h.be.trans b.be,h.ke.trans b.ke,fun k c d f=>(b.block k c (aZ d h.be.size) (fun e=>by
  rcases l k e with g|g
  ·exact f g
  ·omega)).trans (h.block k c d f)⟩
def OwnTo.trans{b c:Value}(h:OwnTo w v b)(d:OwnTo w1 b c)(f:w.1.size<=w1.1.size):OwnTo w v c:=fun g e=>by
 rcases d g e with a|a
 ·exact h g a
 ·exact .inr (aH f a)
def Bx.fr(h:Bx w g cs t)(b:Fr a v w w')(c:a<g)(hv:v.ownBlock≠some g):Bx w' g cs t:=(b.block g c h.lt hv).trans h
def SpRow(w:World)(rows:List (List Value))(l:List (Rat×Rat)):Prop:=rows.length=l.length∧∀(i:Nat) (p:Rat×Rat),l[i]? =some p->∃s1 a k f q b m g r c n h s d o j,rows[i]? =some [Value.bool s1,.slice a k f,.bool q,.slice b m g,.bool r,.slice c n h,.bool s,.slice d o j]∧RatAt w (.agg #[.bool s1,.slice a k f,.bool q,.slice b m g]) p.1∧RatAt w (.agg #[.bool r,.slice c n h,.bool s,.slice d o j]) p.2
def SpRow.ke{rows:List (List Value)}{l:List (Rat×Rat)}(h:SpRow w rows l)(a:Keep w w'):SpRow w' rows l:=⟨h.1,fun i p q=>by
 obtain⟨s1,b,r,g,v,c,s,j,y,d,t,k,z,f,u,m,e,n,o⟩:=h.2 i p q;exact⟨s1,b,r,g,v,c,s,j,y,d,t,k,z,f,u,m,e,n.ke a,o.ke a⟩⟩
def RowSp(w:World)(a:Nat)(v:Value)(l:List (Rat×Rat)):Prop:=∃rows,GrowD w a 85 8 v rows∧SpRow w rows l
def RowSp.be{l:List (Rat×Rat)}(h:RowSp w a v l)(b:Below w.1.size w w'):RowSp w' a v l:=by
 obtain⟨f,c,d⟩:=h;exact⟨f,c.be b,d.ke (Keep.be b)⟩
def RowSp.lt{l:List (Rat×Rat)}(h:RowSp w a v l):∀g,v.ownBlock=some g->a<=g∧g<w.1.size:=by
 obtain⟨d,b,c⟩:=h;exact b.lt
def RowSp.nil(w:World)(a:Nat):RowSp w a (.slice none 0 0) []:=⟨[],GrowD.nil,rfl,fun i p h=>by simp at h⟩
def RowSp.form{l:List (Rat×Rat)}(h:RowSp w a v l):∃A c,v= .slice A l.length c∧l.length<=c:=by
 obtain⟨f,b,d⟩:=h;rw[<-d.1];exact b.form
def L6:(Tryz.prog.info? 85).map (fun i=>(i.zero,i.size,i.bytes))=some (some (.agg #[.bool false,.slice none 0 0,.bool false,.slice none 0 0,.bool false,.slice none 0 0,.bool false,.slice none 0 0]),8,128):=by kernel_rfl
def yB(n:Nat):∀y∈Builtin.zeroCells (Value.agg #[.bool false,.slice none 0 0,.bool false,.slice none 0 0,.bool false,.slice none 0 0,.bool false,.slice none 0 0]).cells n,NoInt y:=fun y b=>by
 unfold Builtin.zeroCells at b;obtain⟨j,_,rfl⟩:=Array.mem_map.1 b;have a:(Value.agg #[.bool false,.slice none 0 0,.bool false,.slice none 0 0,.bool false,.slice none 0 0,.bool false,.slice none 0 0]).cells= #[Value.bool false,.slice none 0 0,.bool false,.slice none 0 0,.bool false,.slice none 0 0,.bool false,.slice none 0 0]:=rfl;rw[a];have a:(#[Value.bool false,.slice none 0 0,.bool false,.slice none 0 0,.bool false,.slice none 0 0,.bool false,.slice none 0 0]:Array Value).size=8:=rfl;rw[a];rcases(show j%8=0∨j%8=1∨j%8=2∨j%8=3∨j%8=4∨j%8=5∨j%8=6∨j%8=7 by omega) with h|h|h|h|h|h|h|h<;>rw[h]
 ·exact NoInt.bool _
 ·exact NoInt.slice _ _ _
 ·exact NoInt.bool _
 ·exact NoInt.slice _ _ _
 ·exact NoInt.bool _
 ·exact NoInt.slice _ _ _
 ·exact NoInt.bool _
 ·exact NoInt.slice _ _ _
def Bx.grown{a:Option Nat}(h:Bx w g cs t)(b:w.grownBy w' a)(c:a≠some g):Bx w' g cs t:=(b.block g h.lt (fun e=>c e.symm)).trans h
def L7{d:World}{vc vr b:Value}{rows:List (List Value)}{q:List (Rat×Rat)}{Q R S:Bool}{s t u v:Option Addr}{L M N O C E F:Nat}
  (l:Below w.1.size w W)(ai:a<w.1.size)(P:Bx W a [vc,vr] 132)(ah:∃A k c,vr= .slice A k c)(hG:GrowD W (a+1) 85 8 vr rows)(hS:SpRow W rows q)(hx:RatAt W (.agg #[.bool s1,.slice s L B,.bool Q,.slice t M C]) x)(hy:RatAt W (.agg #[.bool R,.slice u N E,.bool S,.slice v O F]) y)
  (H:GrowD d (a+1) 85 8 b (rows++[[.bool s1,.slice s L B,.bool Q,.slice t M C,.bool R,.slice u N E,.bool S,.slice v O F]]))(j:Keep W d)(f:W.grownBy d vr.ownBlock)(ho:b.ownBlock=vr.ownBlock∨b.ownBlock=some W.1.size):
  Bx (d.setCell ⟨a,1,none⟩ b) a [vc,b] 132∧RowSp (d.setCell ⟨a,1,none⟩ b) (a+1) b (q++[(x,y)])∧Fr a vr w (d.setCell ⟨a,1,none⟩ b)∧OwnTo w vr b:=by
 have af:vr.ownBlock≠some a:=fun e=>by have:=(hG.lt a e).1;omega
 have z:=P.grown f af;obtain⟨A,k,c,rfl⟩:=ah;have o:Keep d (d.setCell ⟨a,1,none⟩ b):=Keep.put (z.cell 1 rfl) (NoInt.slice _ _ _) b;have J:∀k,k≠a->(d.setCell ⟨a,1,none⟩ b).heap[k]? =d.heap[k]? :=fun k j=>Below.heap_setCell d ⟨a,1,none⟩ b k j;have aj:(d.setCell ⟨a,1,none⟩ b).1.size=d.1.size:=by simp[World.setCell]
 refine⟨z.set 1 b,⟨_,H.kept (fun g e=>J g (by have:=(H.lt g e).1;omega)),?_⟩,⟨?_,((Keep.be l).trans j).trans o,fun k G r h3=> ?_⟩,fun g e=> ?_⟩
 ·have m:=hS.ke (j.trans o);refine⟨by rw[dA,dA,m.1];rfl,fun i p n=> ?_⟩;rcases dE i q.length with I|I
  ·rw[gA I] at n;obtain⟨t1,T,l1,Z,t2,U,l2,d2,t3,X,l3,d3,t4,Y,l4,d4,e,G,r⟩:=m.2 i p n;exact⟨t1,T,l1,Z,t2,U,l2,d2,t3,X,l3,d3,t4,Y,l4,d4,by rw[gA (by have:=m.1;omega)];exact e,G,r⟩
  ·have ae:=(List.getElem?_eq_some_iff.1 n).1;rw[dA,iJ] at ae;obtain rfl:i=q.length:=by omega
   rw[fK aE,azV] at n;have ag:(x,y)=p:=by simpa using n
   subst ag;exact⟨_,_,_,_,_,_,_,_,_,_,_,_,_,_,_,_,by rw[fK (by have:=m.1;omega),m.1,azV];rfl,hx.ke (j.trans o),hy.ke (j.trans o)⟩
 ·have ac:Below a w W:=l.mono (by omega);have ad:Below a W d:=⟨f.os,f.tape,f.output,f.size,fun k j=>f.block k (by have:=l.size;omega) (fun e=>by have:=(hG.lt k e.symm).1;omega)⟩;exact(ac.trans ad).setCell (p:=⟨a,1,none⟩) aE b
 ·rw[J k (by omega),f.block k (by have:=l.size;omega) (fun e=>h3 e.symm)];exact l.block k r
 ·rcases ho with h|h
  ·exact .inl (by rw[<-h];exact e)
  ·rw[h] at e;injection e with e;exact .inr (by have:=l.size;omega)
def yC(wb w:World)(vc vr:Value)(a:List (Rat×Rat))(e:Ending)(w':World):Prop:=∃v',e= .returned (.tuple #[])∧Bx w' wb.1.size [vc,v'] 132∧RowSp w' (wb.1.size+1) v' a∧Fr wb.1.size vr w w'∧OwnTo w vr v'
def PoAt.of{i:Bool}{a:Option Addr}{d:Nat}(h:RatAt w (.agg #[.bool s1,.slice a f c,.bool i,.slice b g d]) x):PoAt w (.agg #[.bool s1,.slice a f c,.bool i,.slice b g d,.int .i64 n,.bool z]) x n z:=⟨_,_,_,_,_,_,_,_,rfl,h⟩
def SpanAt.of{o p q:Bool}{a c:Option Addr}{l m n j:Nat}(h:RatAt w (.agg #[.bool s1,.slice a k f,.bool o,.slice b l g]) x)(r:RatAt w (.agg #[.bool p,.slice c m i,.bool q,.slice d n j]) y):SpanAt w (.agg #[.bool s1,.slice a k f,.bool o,.slice b l g,.bool p,.slice c m i,.bool q,.slice d n j]) x y:=⟨_,_,_,_,_,_,_,_,_,_,_,_,_,_,_,_,rfl,h,r⟩
def PoAt.ke(h:PoAt w v x n z)(a:Keep w w'):PoAt w' v x n z:=by
 obtain⟨j,b,g,d,k,c,i,f,rfl,h⟩:=h;exact⟨_,_,_,_,_,_,_,_,rfl,h.ke a⟩
def GrowD.form3{rows:List (List Value)}(h:GrowD w a e k v rows):∃A n c,v= .slice A n c:=by
 obtain⟨A,c,e, -⟩:=h.form;exact⟨A,_,c,e⟩
def yD(s1 o p q:Bool)(b c d f:Option Addr)(k g l h m i n j:Nat):∀u∈[Value.bool s1,.slice b k g,.bool o,.slice c l h,.bool p,.slice d m i,.bool q,.slice f n j],NoInt u∧u.oneCell'=true:=fun u a=>by
 simp at a;rcases a with rfl|rfl|rfl|rfl|rfl|rfl|rfl|rfl
 ·exact⟨NoInt.bool _,rfl⟩
 ·exact⟨NoInt.slice _ _ _,rfl⟩
 ·exact⟨NoInt.bool _,rfl⟩
 ·exact⟨NoInt.slice _ _ _,rfl⟩
 ·exact⟨NoInt.bool _,rfl⟩
 ·exact⟨NoInt.slice _ _ _,rfl⟩
 ·exact⟨NoInt.bool _,rfl⟩
 ·exact⟨NoInt.slice _ _ _,rfl⟩
section
variable {V:Rat->Nat}{sg:Rat->Int}{K:Nat}{D:Rat->Rat->Prop}{wb:World}{vc:Value}(hG:Glob wb)(hA:uN K D)(hV:∀x,V x<=1024)(hK1:1<=K)(hK2:K<=1073741824)
 (hat:∀(x:Rat) (W:World) (vr vx:Value),Bx W wb.1.size [vc,vr] 132->Below wb.1.size wb W->RatAt W vx x->RL K x->Calls prog 95 #[.pointer (some ⟨wb.1.size,0,none⟩),vx] W fun e w'=>∃v',e= .returned v'∧PoAt w' v' x (V x) (decide (sg x=0))∧Below W.1.size W w')
include hG hA hV hK1 hK2 hat
def ZR{a b:Rat}{l:List (Rat×Rat)}(h:ExK K D V sg a b l):RL K a->RL K b->∀(T:List (Rat×Rat)) (vr va vb:Value) (w:World),Bx w wb.1.size [vc,vr] 132->Below wb.1.size wb w->RowSp w (wb.1.size+1) vr T->PoAt w va a (V a) (decide (sg a=0))->PoAt w vb b (V b) (decide (sg b=0))->T.length+l.length<=1048576->
  Calls prog 94 #[.pointer (some ⟨wb.1.size,0,none⟩),va,vb] w (yC wb w vc vr (T++l)):=by
 induction h with
 | @none a b h=>
  intro ka kb T vr va vb w P al k i f hl;obtain⟨I,r,E,z,J,s,F,A,rfl,i⟩:=i;obtain⟨L,t,G,B,M,y,H,C,rfl,f⟩:=f;have bi:=hV a;have ap:=hV b;have Q:=P.lt;rw[fH];have hn:((V a:Nat):Int)-((V b:Nat):Int)<=0:=by omega
  generalize decide (sg a=0)=za at *;generalize decide (sg b=0)=zb at *;generalize V a=R at *;generalize V b=S at *;clear hat;obtain⟨W,n,c,X,Y⟩:=eL w [.bool I,.slice r E z,.bool J,.slice s F A,.int .i64 (R:Int),.bool za] 135 [.bool L,.slice t G B,.bool M,.slice y H C,.int .i64 (S:Int),.bool zb] 135;have cM:=aa X.g6 Y.g6;go_enter func94,ntmps94;go_wp2_with fail;(try rw[n]);clear n;exact aM (v:= .tuple #[]) (by simp[results,results94,go_sem]) rfl ⟨vr,rfl,P.be c,k.be c,Fr.of c (iE Q),fun g e=> .inl e⟩
 | @hit a b h ai=>
  intro ka kb T vr va vb w P al k i f hl;obtain⟨I,r,E,z,J,s,F,A,rfl,i⟩:=i;obtain⟨L,t,G,B,M,y,H,C,rfl,f⟩:=f;have ap:=hV b;have Q:=P.lt;have p:=k.lt;obtain⟨U,ac,ah⟩:=k;obtain⟨Ar,cr,rfl,bk⟩:=ac.form;have hN:((V a:Nat):Int)-((V b:Nat):Int)=1:=by omega
  clear h;have a0:=ah.1;have a1:U.length<=1073741824:=by omega
  clear a0;have am:decide (sg b=0)=true:=decide_eq_true ai;rw[am];clear am ai;generalize decide (sg a=0)=za at *;generalize V a=R at *;generalize V b=S at *;clear hat;obtain⟨W,n,c,X,Y⟩:=eL w [.bool I,.slice r E z,.bool J,.slice s F A,.int .i64 (R:Int),.bool za] 135 [.bool L,.slice t G B,.bool M,.slice y H C,.int .i64 (S:Int),.bool true] 135;have cM:=aa X.g6 Y.g6;go_enter func94,ntmps94;go_wp2_with fail;(try rw[n]);clear n;have:=St.mk c;have aq:(Value.slice Ar U.length cr).ownBlock≠some w.1.size:=fun e=>by have:=(p _ e).2;omega
  have ad:(Value.slice Ar U.length cr).ownBlock≠some (w.1.size+1):=fun e=>by have:=(p _ e).2;omega
  have ao:(Value.slice Ar U.length cr).ownBlock≠some wb.1.size:=fun e=>by have:=(p _ e).1;omega
  have n1:wb.1.size≠w.1.size:=by omega
  have n2:wb.1.size≠w.1.size+1:=by omega
  have cP:=(P.up (b:=W.drew)).k2;have a9:=(P.up (b:=W)).cell 1 rfl;have dP:=fun o:Obj=>((P.up (b:=W.drew)).alloc o).cell 1 rfl;have l1:wb.1.size<W.1.size:=(P.up (b:=W)).lt;have l2:wb.1.size≠W.1.size:=bxQ l1;have l3:W.1.size≠wb.1.size:=Nat.ne_of_gt l1;have cX:=X.k6;have cY:=Y.k6;have aw:=X.lt;have ax:=Y.lt;have bn:=bxQ aw;have bo:=bxQ ax
  go_region_law (first
    |(refine LB (by rfl) (by rfl) 85 8 128 _ underlying81 L6 rfl yB (by decide) (by decide) (by rfl) ac.up (by rfl) (Bx.new _ _ _) rfl (yD _ _ _ _ _ _ _ _ _ _ _ _ _ _ _ _) a1 (by have:=c.size;simp;omega) ?_;intro v9 w9 ag av O az;obtain⟨A9,L9,m9,rfl⟩:=ag.form3;have X9:=Bx.grown X.up O aq;have Y9:=Bx.grown Y.up O ad;have P9:=Bx.grown P.up O ao;have c9:=P9.g2;have bf:=X9.k6;have bg:=Y9.k6;have SP:=L7 (Up.out (a:=w)) Q P.up ⟨_,_,_,rfl⟩ ac.up (ah.ke (Keep.be (Up.out (a:=w)))) f.up f.up ag av O az))
  all_goals (
   go_wp2_with fail;obtain⟨z1,z2,z3,z4⟩:=SP;exact aM (v:= .tuple #[]) (by simp[results,results94,go_sem]) rfl ⟨_,rfl,z1,z2,z3,z4⟩)
 | @one a b h ai a2=>
  intro ka kb T vr va vb w P al k i f hl;obtain⟨I,r,E,z,J,s,F,A,rfl,i⟩:=i;obtain⟨L,t,G,B,M,y,H,C,rfl,f⟩:=f;have ap:=hV b;have Q:=P.lt;have p:=k.lt;obtain⟨U,ac,ah⟩:=k;obtain⟨Ar,cr,rfl,bk⟩:=ac.form;have hN:((V a:Nat):Int)-((V b:Nat):Int)=1:=by omega
  clear h;have a0:=ah.1;have a1:U.length<=1073741824:=by omega
  clear a0;have am:decide (sg b=0)=false:=decide_eq_false ai;have a5:decide (sg a=0)=false:=decide_eq_false a2;rw[am,a5];clear am ai a5 a2;generalize V a=R at *;generalize V b=S at *;clear hat;obtain⟨W,n,c,X,Y⟩:=eL w [.bool I,.slice r E z,.bool J,.slice s F A,.int .i64 (R:Int),.bool false] 135 [.bool L,.slice t G B,.bool M,.slice y H C,.int .i64 (S:Int),.bool false] 135;have cM:=aa X.g6 Y.g6;go_enter func94,ntmps94;go_wp2_with fail;(try rw[n]);clear n;have:=St.mk c;have aq:(Value.slice Ar U.length cr).ownBlock≠some w.1.size:=fun e=>by have:=(p _ e).2;omega
  have ad:(Value.slice Ar U.length cr).ownBlock≠some (w.1.size+1):=fun e=>by have:=(p _ e).2;omega
  have ao:(Value.slice Ar U.length cr).ownBlock≠some wb.1.size:=fun e=>by have:=(p _ e).1;omega
  have n1:wb.1.size≠w.1.size:=by omega
  have n2:wb.1.size≠w.1.size+1:=by omega
  have cP:=(P.up (b:=W.drew)).k2;have a9:=(P.up (b:=W)).cell 1 rfl;have dP:=fun o:Obj=>((P.up (b:=W.drew)).alloc o).cell 1 rfl;have l1:wb.1.size<W.1.size:=(P.up (b:=W)).lt;have l2:wb.1.size≠W.1.size:=bxQ l1;have l3:W.1.size≠wb.1.size:=Nat.ne_of_gt l1;have cX:=X.k6;have cY:=Y.k6;have aw:=X.lt;have ax:=Y.lt;have bn:=bxQ aw;have bo:=bxQ ax
  go_region_law (first
    |(refine LB (by rfl) (by rfl) 85 8 128 _ underlying81 L6 rfl yB (by decide) (by decide) (by rfl) ac.up (by rfl) (Bx.new _ _ _) rfl (yD _ _ _ _ _ _ _ _ _ _ _ _ _ _ _ _) a1 (by have:=c.size;simp;omega) ?_;intro v9 w9 ag av O az;obtain⟨A9,L9,m9,rfl⟩:=ag.form3;have X9:=Bx.grown X.up O aq;have Y9:=Bx.grown Y.up O ad;have P9:=Bx.grown P.up O ao;have c9:=P9.g2;have bf:=X9.k6;have bg:=Y9.k6;have SP:=L7 (Up.out (a:=w)) Q P.up ⟨_,_,_,rfl⟩ ac.up (ah.ke (Keep.be (Up.out (a:=w)))) i.up f.up ag av O az))
  all_goals (
   go_wp2_with fail;obtain⟨z1,z2,z3,z4⟩:=SP;exact aM (v:= .tuple #[]) (by simp[results,results94,go_sem]) rfl ⟨_,rfl,z1,z2,z3,z4⟩)
 | @split a b l m h h' hd hk bm hm a6 a7=>
  intro ka kb T vr va vb w P al k i f hl;obtain⟨I,r,E,z,J,s,F,A,rfl,i⟩:=i;obtain⟨L,t,G,B,M,y,H,C,rfl,f⟩:=f;have bi:=hV a;have ap:=hV b;have Q:=P.lt;have p:=k.lt;have ay:=fun W hG h=>ZW D a b (.agg #[.bool I,.slice r E z,.bool J,.slice s F A,.bool L,.slice t G B,.bool M,.slice y H C]) W hG h K ka kb hK1 hK2 hA hd;have a3:=fun W vx P c h=>hat ((a+b)/2) W vr vx P c h hk;have i1:=fun vm W P c k h1 h2=>a6 ka hk T vr (.agg #[.bool I,.slice r E z,.bool J,.slice s F A,.int .i64 (V a:Int),.bool (decide (sg a=0))]) vm W P c k h1 h2 (by rw[dA] at hl;omega);have i2:=fun v1 vm W P c k h1 h2=>a7 hk kb (T++l) v1 vm (.agg #[.bool L,.slice t G B,.bool M,.slice y H C,.int .i64 (V b:Int),.bool (decide (sg b=0))]) W P c k h1 h2 (by rw[dA] at hl⊢;omega);have bh:¬((V a:Nat):Int)-((V b:Nat):Int)<=0:=by omega
  have hZ:((V a:Nat):Int)-((V b:Nat):Int)=1->decide (sg a=0)=true∧decide (sg b=0)=false:=fun e=>⟨decide_eq_true (h' (by omega)).2,decide_eq_false (h' (by omega)).1⟩;have a4:Glob w:=hG.be al;have ae:=fun (W':World) (u:Below w.1.size w W')=>al.trans (u.mono (iE Q));rw[<-eK];unfold iF at ay;unfold yC at i1 i2;unfold yC;clear a6 a7 hat hV h h' hl hk bm hm ka kb hG hA hd;generalize (a+b)/2=a8 at *;generalize decide (sg a=0)=za at *;generalize decide (sg b=0)=zb at *;generalize decide (sg a8=0)=zm at *;generalize V a=R at *;generalize V b=S at *;generalize V a8=nm at *;obtain⟨N,hN⟩:∃N:Int,(R:Int)-(S:Int)=N:=⟨_,rfl⟩;rw[hN] at hZ bh;have bq:IntKind.i64.wrap N=N:=IntWalk.i64_in _ ⟨by omega,by omega⟩;have bp: -1024<=N∧N<=1024:=by omega
  have ad:vr.ownBlock≠some (w.1.size+1):=fun e=>by have:=(p _ e).2;omega
  by_cases an:N=1
  ·obtain⟨rfl,rfl⟩:=hZ an;subst an;clear hZ;obtain⟨W,n,c,X,Y⟩:=eL w [.bool I,.slice r E z,.bool J,.slice s F A,.int .i64 (R:Int),.bool true] 135 [.bool L,.slice t G B,.bool M,.slice y H C,.int .i64 (S:Int),.bool false] 135;have cM:=aa X.g6 Y.g6;go_enter func94,ntmps94;go_wp2_with fail;(try rw[n]);clear n;have bj:=c.size;have:=St.mk c;refine(ay _ (a4.be c) (SpanAt.of i.up f.up)).mono ?_;rintro e5 w5 ⟨v5,rfl,h5,aj⟩;have:=St.mk aj;obtain⟨s5,A5,k5,c5,s6,A6,k6,c6,rfl⟩:=h5.form;have ba:=aa (X.up (b:=w5)).k6 (Y.up (b:=w5)).k6;go_wp2_with fail;refine(a3 _ _ P.up (ae _ (Up.out (a:=w))) h5).mono ?_;rintro e6 w6 ⟨v6,rfl,h6,ak⟩;have:=St.mk ak;obtain⟨s7,A7,k7,c7,s8,A8,k8,c8,rfl,h7⟩:=h6;obtain⟨q,e7,au,Z⟩:=bI w6 [.bool s7,.slice A7 k7 c7,.bool s8,.slice A8 k8 c8,.int .i64 (nm:Int),.bool zm] 135;have:=St.mk au;have d:=Up.out (a:=w) (b:=q);have X7:=X.up (b:=q);have Y7:=Y.up (b:=q);have bb:=aa X7.k6 (aa Y7.k6 Z.k6);have s6:=ak.size;have s5:=aj.size;go_wp2_with fail;(try rw[e7]);(try clear e7);refine(i1 _ q (P.be d) (ae _ d) (k.be d) (PoAt.of (i.be d)) (PoAt.of h7.up)).mono ?_;rintro e8 w8 ⟨v8,rfl,P8,R8,j,O8⟩;have ar:vr.ownBlock≠some w6.1.size:=fun e=>by have:=(p _ e).2;omega
   have Y8:=Y7.fr j (by omega) ad;have Z8:=Z.fr j (by omega) ar;have bc:=aa Y8.k6 Z8.k6;go_wp2_with fail;refine(i2 v8 _ w8 P8 ((ae _ d).trans j.be) R8 (PoAt.of ((h7.up (b:=q)).ke j.ke)) (PoAt.of ((f.be d).ke j.ke))).mono ?_;rintro e9 w9 ⟨v9,rfl,P9,R9,F9,O9⟩;have af:OwnTo w vr v8:=fun g e=>(O8 g e).imp id (fun h=>aH d.size h);go_wp2_with fail;exact bodyPost_end (v:= .tuple #[]) (by simp[results,results94,go_sem]) rfl ⟨v9,rfl,P9,R9,((Fr.of d (iE Q)).trans j (fun g e=> .inl e)).trans F9 af,af.trans O9 (aH d.size j.be.size)⟩
  ·have q1:(N==1)=false:=by simpa using an
   clear hZ an;obtain⟨W,n,c,X,Y⟩:=eL w [.bool I,.slice r E z,.bool J,.slice s F A,.int .i64 (R:Int),.bool za] 135 [.bool L,.slice t G B,.bool M,.slice y H C,.int .i64 (S:Int),.bool zb] 135;have cM:=aa X.g6 Y.g6;go_enter func94,ntmps94;go_wp2_with fail;(try rw[n]);clear n;have bj:=c.size;have:=St.mk c;refine(ay _ (a4.be c) (SpanAt.of i.up f.up)).mono ?_;rintro e5 w5 ⟨v5,rfl,h5,aj⟩;have:=St.mk aj;obtain⟨s5,A5,k5,c5,s6,A6,k6,c6,rfl⟩:=h5.form;have ba:=aa (X.up (b:=w5)).k6 (Y.up (b:=w5)).k6;go_wp2_with fail;refine(a3 _ _ P.up (ae _ (Up.out (a:=w))) h5).mono ?_;rintro e6 w6 ⟨v6,rfl,h6,ak⟩;have:=St.mk ak;obtain⟨s7,A7,k7,c7,s8,A8,k8,c8,rfl,h7⟩:=h6;obtain⟨q,e7,au,Z⟩:=bI w6 [.bool s7,.slice A7 k7 c7,.bool s8,.slice A8 k8 c8,.int .i64 (nm:Int),.bool zm] 135;have:=St.mk au;have d:=Up.out (a:=w) (b:=q);have X7:=X.up (b:=q);have Y7:=Y.up (b:=q);have bb:=aa X7.k6 (aa Y7.k6 Z.k6);have s6:=ak.size;have s5:=aj.size;go_wp2_with fail;(try rw[e7]);(try clear e7);refine(i1 _ q (P.be d) (ae _ d) (k.be d) (PoAt.of (i.be d)) (PoAt.of h7.up)).mono ?_;rintro e8 w8 ⟨v8,rfl,P8,R8,j,O8⟩;have ar:vr.ownBlock≠some w6.1.size:=fun e=>by have:=(p _ e).2;omega
   have Y8:=Y7.fr j (by omega) ad;have Z8:=Z.fr j (by omega) ar;have bc:=aa Y8.k6 Z8.k6;go_wp2_with fail;refine(i2 v8 _ w8 P8 ((ae _ d).trans j.be) R8 (PoAt.of ((h7.up (b:=q)).ke j.ke)) (PoAt.of ((f.be d).ke j.ke))).mono ?_;rintro e9 w9 ⟨v9,rfl,P9,R9,F9,O9⟩;have af:OwnTo w vr v8:=fun g e=>(O8 g e).imp id (fun h=>aH d.size h);go_wp2_with fail;exact bodyPost_end (v:= .tuple #[]) (by simp[results,results94,go_sem]) rfl ⟨v9,rfl,P9,R9,((Fr.of d (iE Q)).trans j (fun g e=> .inl e)).trans F9 af,af.trans O9 (aH d.size j.be.size)⟩
end
def ay7(j:Nat):nl ((2:Int)^j).natAbs<=j/64+1:=by
 rw[Int.natAbs_pow]
 exact cJ (by
  have e:BN^(j/64+1)=2^(64*(j/64+1)):=by rw[azL];rfl
  rw[e];exact by9 (by decide) (by omega))
def uW(h:nl n.natAbs<=K)(a:1<=K):RL K (n:Rat):=⟨by rw[Rat.num_intCast];exact h,by rw[Rat.den_intCast];exact aH (cJ (m:=1) (by unfold BN;decide)) a⟩
def LU(x y:Rat):(x-y).num.sign<0↔x<y:=by
 rcases iY (x-y) with h|h|h
 ·rw[(fS _).2 h];exact⟨fun _=>by grind,fun _=>by decide⟩
 ·rw[h];exact⟨fun k=>absurd k (by decide),fun k=>by grind⟩
 ·rw[(fS _).1 h];exact⟨fun k=>absurd k (by decide),fun k=>by grind⟩
def Bx.old(h:Bx w g cs t)(a:Below B w w')(b:g<B):Bx w' g cs t:=(a.block g b).trans h
def PoAt.upp{a b:World}[u:Up a b](h:PoAt a v x n z):PoAt b v x n z:=h.ke (Keep.be u.out)
def DT(w:World)(P:List (Rat×Rat)->Prop)(e:Ending)(w':World):Prop:=∃a b l,e= .returned a∧P l∧RowSp w' b a l∧Below w.1.size w w'
def ay8(s:List Int)(b:Rat)(n K:Nat)(P:List (Rat×Rat)->Prop)(v u:Value)(w:World)(Q:Glob w)(hv:WholeAt w v s)(hu:RatAt w u b)(ts:aN s)(h0:s≠[])(Y:Sz s)(am:Pw b n)(hn:n<=40000)(kb:RL 110079 b)(av:110079<=K)(aw:K<=1073741824)(D:Rat->Rat->Prop)(hA:uN K D)
  (al:∀c,StT 110079 s (aS (bB s)) c->∃l,ExK K D (fun x=>aY 0 ((s :: c).map (fun a=>aP a 0 x))) (fun x=>aP s 0 x) (((-((2:Int)^n):Int)):Rat) ((((2:Int)^n:Int)):Rat) l∧l.length<=1048576∧P l):
  Calls prog 42 #[v,u] w (DT w P):=by
 obtain⟨A,c,rfl,hc⟩:=hv.form;obtain⟨s1,H,Z,J,s2,I,k2,L,rfl⟩:=hu.form;have ad:=fun W Q h=>KE s (.slice A s.length c) W Q h ts h0 Y;have td:=Q5 (lE ts);have kd:∀n∈aS (bB s),nl n.natAbs<=110079:=fun n hn=>by
  obtain⟨K,hK,av,aw, -⟩:=Y.ex;exact aH (gU (pL hK (by have:=Y.1;omega)) n hn) (by omega)
 have ld:(aS (bB s)).length=s.length-1:=by rw[dF,lZ]
 have ak:∀c,StT 110079 s (aS (bB s)) c->(s :: c).length<=8∧∀a∈s :: c,a≠[]∧a.length<=65∧∀n∈a,nl n.natAbs<=110079:=fun c h=>by
  have B:=h.len;have h7:=Y.1;refine⟨by rw[eG];omega,fun a ha=> ?_⟩;rcases List.mem_cons.1 ha with rfl|ha
  ·exact⟨h0,by omega,fun n hn=>aH (Y.nums n hn) (by omega)⟩
  ·obtain⟨e1,M,e3,e4⟩:=h.mem td kd a ha;exact⟨e1,by omega,e4⟩
 unfold y6 at ad;unfold DT;clear td kd ld;obtain⟨W,eW,d,X⟩:=bI w [.bool s1,.slice H Z J,.bool s2,.slice I k2 L] 76;have cM:=X.g4;go_enter func42,ntmps42;go_wp2_with fail;(try rw[eW]);clear eW;refine(lL 1 _ (by decide) (by decide)).mono ?_;rintro e1 w1 ⟨v1,rfl,B,af⟩;obtain⟨m,f,i,g,rfl⟩:=B.form;obtain⟨w2,M,ax,G⟩:=bI w1 [.bool m,.slice f i g] 60;have p:=aC af ax;have bv:=X.lt;have bw:=af.size;have bx:w.1.size<w1.1.size:=by omega
 replace X:=X.be p;replace d:=aC d p;have au:IntBx w2 w1.1.size ((2:Int)^0):=⟨_,_,_,_,G,B.be ax⟩;clear G B;go_wp2_with fail;(try rw[M]);(try clear M);generalize w1.1.size=O at *;go_loopg [] n (fun k wr=>∃j,Hid (j+k=n)∧IntBx wr O ((2:Int)^j)∧Bx wr w.1.size [.bool s1,.slice H Z J,.bool s2,.slice I k2 L] 76∧Below w.1.size w wr)
 case atStart=>exact⟨0,by unfold Hid;omega,au,X,d⟩
 case round=>
  clear au X d;obtain⟨j,HJ,⟨m,f,i,g,G,V⟩,X,d⟩:=hrel;generalize wr=wy at *;have bz:j<=n:=by have:=HJ.out;omega
  have kp:nl ((2:Int)^j).natAbs<=700:=aH (ay7 j) (by omega);have U:=fun W v h h'=>BY (((2:Int)^j:Int):Rat) b v (.agg #[.bool s1,.slice H Z J,.bool s2,.slice I k2 L]) W h h' 110079 (uW (aH kp (by decide)) (by decide)) kb (by decide);have ae:=fun W h=>BZ ((2:Int)^j) (.agg #[.bool m,.slice f i g]) W h;obtain⟨S,hS⟩:∃S,((((2:Int)^j:Int):Rat)-b).num.sign=S:=⟨_,rfl⟩;have R:=LU (((2:Int)^j:Int):Rat) b;rw[hS] at R U;unfold eO at U;unfold iF at ae;have aj:=hu.be d;have bu:=Q.be d;have b3:=hv.be d;have:=d;cases gk with
  |succ k=>
   have b1:S<0:=R.2 (am.2 j (by have:=HJ.out;omega));clear R hS ad al ak;have an:∀W,IntAt W (.agg #[.bool m,.slice f i g]) ((2:Int)^j)->Calls prog 41 #[.agg #[.bool m,.slice f i g],.int .u64 1] W (dW W ((2:Int)^j*2^1)):=fun W h=>YZ ((2:Int)^j) 1 (.agg #[.bool m,.slice f i g]) W h (by decide) (by omega);have M:(2:Int)^j*2^1=2^(j+1):=by rw[gR];rfl
   rw[M] at an;unfold dW at an;go_wp2_with fail
   go_region_held3 (fun t=>C2 t O (.bool m) (.slice f i g)∧C4 t w.1.size (.bool s1) (.slice H Z J) (.bool s2) (.slice I k2 L)) (with_reducible exact⟨G.up.k2,X.up.k4⟩)
    (first
     |(go_at_call 46;refine(ae _ V.up).mono ?_;rintro e4 w4 ⟨v4,rfl,h4,ag⟩;have:=St.mk ag)
     |(go_at_call 48;refine(U _ _ h4.up aj.up).mono ?_;rintro e5 o ⟨rfl,ah⟩;have:=St.mk ah))
   all_goals (
    have y:=G.up (b:=o);have X5:=X.up (b:=o);have a6:=aa y.g2 X5.k4;have q:=bJ (b:=o) d;go_wp2_with fail;refine(an _ (V.up (b:=o))).mono ?_;rintro e6 e ⟨v6,rfl,C,r⟩;obtain⟨s6,A6,k6,c6,rfl⟩:=C.form;have z:=y.be r;have X6:=X5.be r;have bp:=aa z.g2 X6.k4;have T:=aC q r;go_wp2_with fail;obtain⟨W7,N,G7,ai,hk,ff⟩:=z.put2 T (by omega) (.bool s6) (.slice A6 k6 c6) rfl rfl;rw[N];clear N;go_roundg k
    case rel=>exact⟨j+1,by have:=HJ.out;unfold Hid;omega,⟨_,_,_,_,G7,C.ke hk⟩,ff X6 (by omega),ai⟩
    case measure=>omega)
  |zero=>
   obtain rfl:j=n:=HJ.out;have b2:¬S<0:=fun h=>by have:=R.1 h;have:=am.1;grind
   clear R hS;go_wp2_with fail
   go_region_held3 (fun t=>C2 t O (.bool m) (.slice f i g)∧C4 t w.1.size (.bool s1) (.slice H Z J) (.bool s2) (.slice I k2 L)) (with_reducible exact⟨G.up.k2,X.up.k4⟩)
    (first
     |(go_at_call 46;refine(ae _ V.up).mono ?_;rintro e4 w4 ⟨v4,rfl,h4,ag⟩;have:=St.mk ag)
     |(go_at_call 48;refine(U _ _ h4.up aj.up).mono ?_;rintro e5 o ⟨rfl,ah⟩;have:=St.mk ah))
   all_goals (
    have y:=G.up (b:=o);have q:=bJ (b:=o) d;have a6:=y.k2;have ay:=V.up (b:=o);clear ae U G X V aj;go_wp2_with fail;refine(ad _ (Q.be q) (hv.be q)).mono ?_;rintro e6 e ⟨v6,c,rfl,C,hT,r⟩;have z:=y.be r;have az:=ay.be r;have T:=aC q r;obtain⟨b0,E⟩:=ak c hT;obtain⟨l,a3,hl,hP⟩:=al c hT;have aq:=aB a3;have HP:=aB hP;replace E:=fun a h=>(⟨(E a h).1,(E a h).2.1,fun n hn=>aH ((E a h).2.2 n hn) av⟩:a≠[]∧a.length<=65∧∀n∈a,nl n.natAbs<=K);clear a3 hP;obtain⟨Ac,cc,rfl, -⟩:=C.form;clear ad al ak hT;have bj:O<e.1.size:=z.lt;have a0:=fun W h=>sQ ((2:Int)^j) (.agg #[.bool m,.slice f i g]) W h (aH kp (by decide));have a1:=fun W v h=>BZ (-((2:Int)^j)) v W h;have a2:=fun W h=>BZ ((2:Int)^j) (.agg #[.bool m,.slice f i g]) W h;have kn:RL K ((-((2:Int)^j):Int):Rat):=uW (by rw[azJ];exact aH kp (by omega)) (by omega);have kq:RL K (((2:Int)^j:Int):Rat):=uW (aH kp (by omega)) (by omega);have ac:=fun (x:Rat) (W:World) (vr F:Value) (P:Bx W e.1.size [.slice Ac (s :: c).length cc,vr] 132) (d:Below e.1.size e W) (h:RatAt W F x) (hk:RL K x)=>ax1 s c o.1.size e.1.size x (.slice Ac (s :: c).length cc) vr F W P (C.be d) h (by omega) K E hk (by omega);have hV:∀x:Rat,aY 0 ((s :: c).map (fun a=>aP a 0 x))<=1024:=fun x=>by have:=qR ((s :: c).map (fun a=>aP a 0 x)) 0;rw[cH] at this;omega
    have ao:=fun va vb W P p hR B h2=>ZR (wb:=e) (vc:= .slice Ac (s :: c).length cc) (Q.be T) hA hV (by omega) aw ac aq.out kn kq [] (.slice none 0 0) va vb W P p hR B h2 (by rw[azS];omega);have ba:=fun W F P p h=>ac ((-((2:Int)^j):Int):Rat) W (.slice none 0 0) F P p h kn;have bb:=fun W F P p h=>ac (((2:Int)^j:Int):Rat) W (.slice none 0 0) F P p h kq;rw[iM] at ao;unfold yC at ao;unfold dW at a0;unfold iF at a1 a2;clear ac aq hV E kb am kn kq C y ay;generalize (s :: c).length=nc at *;generalize aY 0 ((s :: c).map (fun a=>aP a 0 ((-((2:Int)^j):Int):Rat)))=Vn at *;generalize aY 0 ((s :: c).map (fun a=>aP a 0 (((2:Int)^j:Int):Rat)))=Vp at *;generalize decide (aP s 0 ((-((2:Int)^j):Int):Rat)=0)=Zn at *;generalize decide (aP s 0 (((2:Int)^j:Int):Rat)=0)=Zp at *;generalize ((-((2:Int)^j):Int):Rat)=xn at *;generalize (((2:Int)^j:Int):Rat)=xp at *;generalize (-((2:Int)^j))=pn at *;go_wp2_with fail;obtain⟨w7,N,ai,P⟩:=bI e [.slice Ac nc cc,.slice none 0 0] 132;rw[N];clear N;have:=St.mk ai;have cP:=P.g2
    go_region_held3 (fun t=>C2 t O (.bool m) (.slice f i g)) (first|(with_reducible exact z.up.k2)|(with_reducible exact G9.k2))
     (first
      |(go_at_call 88;refine(a0 _ az.up).mono ?_;rintro e8 w8 ⟨v8,rfl,h8,bh⟩;have:=St.mk bh)
      |(go_at_call 46;first|(with_reducible refine(a2 _ az.up).mono ?_;rintro e9 w9 ⟨v9,rfl,h9,bi⟩;have:=St.mk bi)|(with_reducible refine(a1 _ _ h8.up).mono ?_;rintro bq b8 ⟨b4,rfl,a7,bc⟩;have:=St.mk bc))
      |(go_at_call 95;first|(with_reducible refine(bb _ _ P.up (Up.out (a:=e)) h9.up).mono ?_;rintro br b9 ⟨b5,rfl,a8,bf⟩;have:=St.mk bf)|(with_reducible refine(ba _ _ P.up (Up.out (a:=e)) a7.up).mono ?_;rintro bs ca ⟨b6,rfl,a9,bg⟩;have:=St.mk bg))
      |(go_at_call 94;refine(ao _ _ _ P.up (Up.out (a:=e)) (RowSp.nil _ _) (a9.upp) (a8.upp)).mono ?_;rintro bt cb ⟨b7,rfl,a5,ar,ap,bm⟩;have G9:=Bx.old z.up ap.be bj;have a4:=(Up.out (a:=e)).trans ap.be;have bn:=a5.k2;obtain⟨bk,bo,rfl, -⟩:=ar.form))
    all_goals (
     go_wp2;go_ret;exact⟨_,_,l,rfl,HP.out,ar,aC T a4⟩))
def jG(p:List UInt8×List UInt8):List Value:=[.string ⟨p.1.toArray⟩,.string ⟨p.2.toArray⟩]
def IvsAt(w:World)(v:Value)(l:List (List UInt8×List UInt8)):Prop:=∃A c,v= .slice A l.length c∧l.length<=c∧(l=[]∨∃b,A=some ⟨b,0,none⟩∧b<w.1.size∧∀(i:Nat) (p:List UInt8×List UInt8),l[i]? =some p->w.cell? ⟨b,i*2,none⟩=some (.string ⟨p.1.toArray⟩)∧w.cell? ⟨b,i*2+1,none⟩=some (.string ⟨p.2.toArray⟩))
def IvsAt.be(h:IvsAt w v l)(a:Below w.1.size w w'):IvsAt w' v l:=by
 obtain⟨A,c,hv,g,h⟩:=h;refine⟨A,c,hv,g,?_⟩;rcases h with h|⟨b,e,d,f⟩
 ·exact .inl h
 ·exact .inr ⟨b,e,aZ d a.size,fun i p h=>⟨(a.cell (p:=⟨b,i*2,none⟩) d).trans (f i p h).1,(a.cell (p:=⟨b,i*2+1,none⟩) d).trans (f i p h).2⟩⟩
def IvsAt.form(h:IvsAt w v l):∃A c,v= .slice A l.length c∧l.length<=c:=by
 obtain⟨A,c,hv,a,_⟩:=h;exact⟨A,c,hv,a⟩
def IvsAt.at_{n:Nat}(h:IvsAt w (.slice A n c) l){p:List UInt8×List UInt8}(hi:l[i]? =some p):∃b,A=some ⟨b,0,none⟩∧b<w.1.size∧w.cell? ⟨b,i*2,none⟩=some (.string ⟨p.1.toArray⟩)∧w.cell? ⟨b,i*2+1,none⟩=some (.string ⟨p.2.toArray⟩):=by
 obtain⟨f,g,e,j,h⟩:=h;simp only[Value.slice.injEq] at e;obtain⟨rfl,rfl,rfl⟩:=e;rcases h with rfl|⟨b,e,d,a⟩
 ·simp at hi
 ·exact⟨b,e,d,(a i p hi).1,(a i p hi).2⟩
def GrowD.ivs(h:GrowD w g 38 2 v (l.map jG)):IvsAt w v l:=by
 obtain⟨A,c,rfl,d⟩:=h.form;rw[cH] at d;refine⟨A,c,by rw[cH],d,?_⟩;cases l with
 |nil=>exact .inl rfl
 |cons m l=>
  obtain⟨b,e, -,k, -⟩:=h.at_ (i:=0) (r:=jG m) rfl;refine .inr ⟨b,e,k,fun i p j=> ?_⟩;obtain⟨n,a, -, -,f⟩:=h.at_ (i:=i) (r:=jG p) (by rw[iK,j];rfl);rw[e] at a;simp only[Option.some.injEq,Addr.mk.injEq] at a;obtain⟨rfl,_⟩:=a;exact⟨f 0 _ rfl,f 1 _ rfl⟩
def IvsAt.built(w:World)(l:List (List UInt8×List UInt8))(t:TypeId):IvsAt (w.alloc (.cells (l.map jG).flatten.toArray t)) (.slice (some ⟨w.1.size,0,none⟩) l.length l.length) l:=by
 refine⟨_,_,rfl,aE,.inr ⟨w.1.size,rfl,by simp,fun i p e=> ?_⟩⟩;have B:=Bx.new w (l.map jG).flatten t;have b:∀r∈l.map jG,r.length=2:=fun r a=>by
  obtain⟨q, -,rfl⟩:=List.mem_map.1 a;rfl
 have a:(l.map jG)[i]? =some (jG p):=by rw[iK,e];rfl
 have c:=mW b a (j:=0) (by decide);have d:=mW b a (j:=1) (by decide);exact⟨B.cell (i*2) c,B.cell (i*2+1) d⟩
def LP(a:List (List UInt8×List UInt8))(l m:Value)(w:World)(g:IvsAt w l a)(h:IvsAt w m a)(F:a.length<=1073741824):
  Calls prog 24 #[l,m] w fun e w'=>e= .returned (.bool true)∧Below w.1.size w w':=by
 obtain⟨A,c,rfl,B⟩:=g.form;obtain⟨r,u,rfl,C⟩:=h.form;go_enter func24,ntmps24;go_wp2_with fail;go_loopg [5] a.length (fun k i wr=>∃j,Hid (j+k=a.length)∧i= .int .i64 j∧Below w.1.size w wr)
 case atStart=>exact⟨0,by unfold Hid;omega,rfl,aG _ _⟩
 case round=>
  obtain⟨j,d,rfl,b⟩:=hrel;generalize wr=K at *;have D:(0:Int)<=(j:Int):=by omega
  cases gk with
  |zero=>
   have o:j=a.length:=d.out;subst o;go_wp2;go_ret;exact⟨rfl,b⟩
  |succ k=>
   have q:j<a.length:=by have:=d.out;omega
   have E:(j:Int)<(a.length:Int):=by omega
   obtain⟨p,f⟩:∃p,a[j]? =some p:=⟨_,aR q⟩;obtain⟨s,rfl,G,v,x⟩:=(g.be b).at_ f;obtain⟨t,rfl,H,y,z⟩:=(h.be b).at_ f;have n:=b.drew;generalize (⟨p.1.toArray⟩:ByteArray)=I at *;generalize (⟨p.2.toArray⟩:ByteArray)=J at *;clear f;go_wp2_with fail;go_region
   all_goals (
    go_wp2;go_roundg k
    case rel=>exact⟨j+1,by have:=d.out;unfold Hid;omega,by go_num,n⟩
    case measure=>omega)
def LQ:(Tryz.prog.info? 38).map (fun i=>(i.zero,i.size,i.bytes))=some (some (.agg #[.string ⟨#[]⟩,.string ⟨#[]⟩]),2,32):=by kernel_rfl
def LR(n:Nat):∀y∈Builtin.zeroCells (Value.agg #[.string ⟨#[]⟩,.string ⟨#[]⟩]).cells n,NoInt y:=fun y b=>by
 unfold Builtin.zeroCells at b;obtain⟨j,_,rfl⟩:=Array.mem_map.1 b;have a:(Value.agg #[.string ⟨#[]⟩,.string ⟨#[]⟩]).cells= #[Value.string ⟨#[]⟩,.string ⟨#[]⟩]:=rfl;rw[a];have a:(#[Value.string ⟨#[]⟩,.string ⟨#[]⟩]:Array Value).size=2:=rfl;rw[a];rcases(show j%2=0∨j%2=1 by omega) with h|h<;>rw[h]
 ·exact NoInt.string _
 ·exact NoInt.string _
def RowSp.get{z:Nat}{n:Nat}{l:List (Rat×Rat)}(h:RowSp w z (.slice A n c) l){p:Rat×Rat}(hi:l[i]? =some p):∃b s1 d r k v f s m x g t o y j u q,A=some ⟨b,0,none⟩∧b<w.1.size∧
  (w.cell? ⟨b,i*8,none⟩=some (.bool s1)∧w.cell? ⟨b,i*8+1,none⟩=some (.slice d r k)∧w.cell? ⟨b,i*8+2,none⟩=some (.bool v)∧w.cell? ⟨b,i*8+3,none⟩=some (.slice f s m)∧w.cell? ⟨b,i*8+4,none⟩=some (.bool x)∧w.cell? ⟨b,i*8+5,none⟩=some (.slice g t o)∧w.cell? ⟨b,i*8+6,none⟩=some (.bool y)∧w.cell? ⟨b,i*8+7,none⟩=some (.slice j u q))∧
  SpanAt w (.agg #[.bool s1,.slice d r k,.bool v,.slice f s m,.bool x,.slice g t o,.bool y,.slice j u q]) p.1 p.2:=by
 obtain⟨H,C,D⟩:=h;obtain⟨s1,d,r,k,v,f,s,m,x,g,t,o,y,j,u,q,e,F,G⟩:=D.2 i p hi;obtain⟨b,B, -,E,a⟩:=C.at_ e;exact⟨b,s1,d,r,k,v,f,s,m,x,g,t,o,y,j,u,q,B,E,⟨a 0 _ rfl,a 1 _ rfl,a 2 _ rfl,a 3 _ rfl,a 4 _ rfl,a 5 _ rfl,a 6 _ rfl,a 7 _ rfl⟩,SpanAt.of F G⟩
def SpanAt.be(h:SpanAt w v x y)(a:Below w.1.size w w'):SpanAt w' v x y:=by
 obtain⟨q,d,m,i,r,e,n,j,s,f,o,k,t,g,p,l,rfl,b,c⟩:=h;exact SpanAt.of (b.be a) (c.be a)
def m8(p:Rat×Rat):List UInt8×List UInt8:=(cW p.1,cW p.2)
def exX{A:List Rat}(c:∀q∈A,RL 1 q)(e:A.length<=7)(t:aN A)(D:Int)(B:Nat)(d:ComDen A D B):∀n∈aS (cC A D),nl n.natAbs<=9:=by
 by_cases a:A=[]
 ·subst a;exact fun n hn=>by cases hn
 obtain⟨E,b⟩:=dyK c;rw[exD d b t a];exact gU (fun n hn=>aH (sA _ E 1 _ c b.nl_ n hn) (by omega))
def exY(d:List (List UInt8))(O n K:Nat)(P:List (Rat×Rat)->Prop)(v:Value)(w:World)(g:Glob w)(hv:StrsAt w v d)(hl:d.length<=7)(hs:∀l∈d,l.length<=1073741824)(af:∀q∈aU d,RL O q)(bn:O<=16)(ar:aN (aU d)->∀D B,ComDen (aU d) D B->∀n∈aS (cC (aU d) D),nl n.natAbs<=9)(ad:vl d=true->d≠[]->Pw (jF (aU d)) n)(hn:n<=40000)(a9:110079<=K)(aq:K<=1073741824)(DA:Rat->Rat->Prop)(hA:uN K DA)(J:∀l,P l->l.length<=1048576∧∀p∈l,RL K p.1∧RL K p.2)
  (V:∀w s c,Prp (aU d) w->CnZ w s c->∃l,ExK K DA (fun x=>aY 0 ((s :: c).map (fun a=>aP a 0 x))) (fun x=>aP s 0 x) (((-((2:Int)^n):Int)):Rat) ((((2:Int)^n:Int)):Rat) l∧P l):
  Calls prog 11 #[v] w fun e w'=>∃v' l,e= .returned (.tuple #[v',.int .i64 (dM d)])∧(dM d=0->P l)∧(dM d≠0->l=[])∧IvsAt w' v' (l.map m8)∧Below w.1.size w w':=by
 obtain⟨A,c,rfl,hc⟩:=hv.form;have C:=fun W g h=>dyQ d O (.slice A d.length c) W g h hl hs af (by omega);have a3:(aU d).length=d.length:=cH _;have U:=uL d;unfold XS at C;obtain⟨E,hE⟩:∃E,dM d=E:=⟨_,rfl⟩;rw[hE] at C U⊢;clear hE;go_enter func11,ntmps11;go_wp2_with fail;refine(C _ g hv).mono ?_;rintro e1 w1 ⟨H,k1,I,bw,rfl,⟨s2,N,k2,Q,rfl⟩,ac,f⟩;obtain⟨w2,r,ah,F⟩:=bI w1 [.bool s2,.slice N k2 Q] 60;replace f:=aC f ah;rcases U with ⟨rfl,L,h0⟩|⟨rfl, -⟩|⟨rfl, -, -⟩;rotate_left
 ·skip;clear ac C V J;go_wp2_with fail;(try rw[r]);(try clear r);go_ret2;exact⟨_,[],rfl,fun h=>absurd h (by decide),fun _=>rfl,⟨_,_,rfl,aE,.inl rfl⟩,f⟩
 ·skip;clear ac C V J;go_wp2_with fail;(try rw[r]);(try clear r);go_ret2;exact⟨_,[],rfl,fun h=>absurd h (by decide),fun _=>rfl,⟨_,_,rfl,aE,.inl rfl⟩,f⟩
 replace ad:=ad L h0;obtain⟨D, -, -,y,m, -⟩:=ac rfl;replace m:=m.be ah;have a1:(cC (aU d) D).length=d.length:=by rw[oN,a3]
 have Y:cC (aU d) D≠[]:=fun e=>h0 (bX (by rw[<-a1,e];rfl));have ae:=oO y.pos y.dvd (pJ L).2.2;have Z:=sA _ D O _ af y.nl_;have al:=uE y (pJ L).2.2;have a2:=nM al;have ay:=czJ al ae Y;have an:=(IY Z (by omega)).1;have ao:=ar (pJ L).2.2 D _ y;have a6:(aS (cC (aU d) D)).length<=7:=by rw[dF];omega
 obtain⟨A8,c8,e8, -⟩:=m.form;simp only[Value.slice.injEq] at e8;obtain⟨rfl,rfl,rfl⟩:=e8;have a4:=fun W g h=>dxZ (cC (aU d) D) _ (.slice H (cC (aU d) D).length I) W g h ae Y (by omega) Z (by omega) ao;have T:=fun W g h=>UK (cC (aU d) D) (.slice H (cC (aU d) D).length I) W g h Y ae _ Z (by omega) (by omega) (by omega);rw[ay] at T an
 have aj:=fun s u u' W g h h' (o:Sqp 24057 (aS (cC (aU d) D)) s) (M:Sz s)=>ay8 s (jF (aU d)) n K P u u' W g h h' o.ts o.ne M ad hn (bU an (by omega)) a9 aq DA hA (fun c hc=>by
  obtain⟨l,h1,h2⟩:=V _ s c a2 ⟨⟨o.mono (by decide),hc⟩,o,M,a6,ao⟩;exact⟨l,h1,(J l h2).1,h2⟩)
 unfold iF at T;unfold DT at aj;clear C ac y a1 Y ae Z al a2 ay an V ad af a3 h0 L F ah ao a6 ar hs;generalize cC (aU d) D=ns at *;generalize jF (aU d)=bq at *;go_wp2_with fail;(try rw[r]);(try clear r);refine(a4 _ (g.be f) m).mono ?_;rintro e3 w3 ⟨v3,s,rfl,S,o,M,au⟩;replace m:=m.be au;replace f:=aC f au;have a0:=fun u' W g h h'=>aj s v3 u' W g h h' o M;clear aj a4;go_wp2_with fail;refine(T _ (g.be f) m).mono ?_;rintro e4 w4 ⟨v4,rfl,h4,av⟩;replace S:=S.be av;replace f:=aC f av;go_wp2_with fail;refine(a0 _ _ (g.be f) S h4).mono ?_;rintro e5 w5 ⟨v5,bk,l,rfl,ag,h5,ba⟩;obtain⟨bu,bg⟩:=J l ag;have a7:=aB ag;clear ag J;replace f:=aC f ba;obtain⟨A5,c5,rfl,bp⟩:=h5.form;clear a0 T o M S h4 m;go_wp2_with fail;go_loopg [7,25] l.length (fun k vf i wr=>∃j,Hid (j+k=l.length)∧i= .int .i64 j∧GrowD wr w5.1.size 38 2 vf (((l.take j).map m8).map jG)∧Below w5.1.size w5 wr)
 case atStart=>exact⟨0,by unfold Hid;omega,rfl,GrowD.nil,aG _ _⟩
 case round=>
  obtain⟨j,HJ,rfl,z,G⟩:=hrel;generalize wr=wy at *;have br:(0:Int)<=(j:Int):=by omega
  have ax:=aC f G;obtain⟨Af,nf,bm,rfl⟩:=z.form3;cases gk with
  |zero=>
   have hj:j=l.length:=HJ.out;subst hj;rw[aq9] at z;have hI:=z.ivs;clear z;go_wp2;go_ret2;exact⟨_,rfl,l,a7.out,hI,ax⟩
  |succ k=>
   have bf:j<l.length:=by have:=HJ.out;omega
   have bs:(j:Int)<(l.length:Int):=by omega
   obtain⟨p,hp⟩:∃p,l[j]? =some p:=⟨_,aR bf⟩;obtain⟨b,s1,H,k1,I,s2,N,k2,Q,s3,A3,k3,c3,s4,A4,k4,c4,rfl,bo,U,bi⟩:=(h5.be G).get hp;have ak:=bg p (dG hp);have a5:=fun W g h=>ZX p.1 p.2 (.agg #[.bool s1,.slice H k1 I,.bool s2,.slice N k2 Q,.bool s3,.slice A3 k3 c3,.bool s4,.slice A4 k4 c4]) W g h K ak.1 ak.2 aq;have a8:Hid (((l.take (j+1)).map m8).map jG=((l.take j).map m8).map jG++[[.string ⟨(cW p.1).toArray⟩,.string ⟨(cW p.2).toArray⟩]]):=by
    unfold Hid;rw[Q9,hp,aqO,aq7,aq7];rfl
   have bb:(((l.take j).map m8).map jG).length<=1073741824:=by rw[cH,cH,bK];omega
   generalize ((l.take j).map m8).map jG=R at *;generalize (⟨(cW p.1).toArray⟩:ByteArray)=tx at *;generalize (⟨(cW p.2).toArray⟩:ByteArray)=ty at *;clear hp ak;obtain⟨w6,e6,t,X⟩:=bI wy [.bool s1,.slice H k1 I,.bool s2,.slice N k2 Q,.bool s3,.slice A3 k3 c3,.bool s4,.slice A4 k4 c4] 85;have cX:=X.k8;go_wp2_with fail;(try rw[e6]);(try clear e6);refine(a5 _ ((g.be ax).be t) (bi.be t)).mono ?_;rintro e7 w7 ⟨rfl,ai⟩;have aw:Below w7.1.size w7 (w7.alloc (.cells #[.string tx,.string ty] 38)):=(aG _ _).alloc aE _;have az:=((z.be t).be ai).be aw;have am:=((aC G t).trans (ai.mono (aH G.size t.size))).trans (aw.mono (aH G.size (aH t.size ai.size)));have XB:=Bx.new w7 [.string tx,.string ty] 38;have bh:∀u∈[Value.string tx,.string ty],NoInt u∧u.oneCell'=true:=fun u hu=>by
    simp at hu;rcases hu with rfl|rfl
    ·exact⟨NoInt.string _,rfl⟩
    ·exact⟨NoInt.string _,rfl⟩
   clear z a5 X cX U;go_wp2_with (at_builtin;refine yE rfl rfl 38 2 32 _ underlying31 LQ rfl LR (by decide) (by decide) rfl az rfl XB rfl bh bb am.size ?_;intro v8 w8 ap bt bc bv);have bj:=am.trans (az.left bc am.size);rw[<-a8.out] at ap;go_roundg k
   case rel=>exact⟨j+1,by have:=HJ.out;unfold Hid;omega,by go_num,ap,bj⟩
   case measure=>omega
def LT(b:List (List UInt8))(n K:Nat)(P:List (Rat×Rat)->Prop)(v:Value)(w:World)(m:Glob w)(hv:StrsAt w v b)(d:b.length<=7)(i:∀l∈b,l.length<=6)(y:vl b=true->b≠[]->Pw (jF (aU b)) n)(hn:n<=1000)(o:110079<=K)(r:K<=1073741824)(f:Rat->Rat->Prop)(k:uN K f)(t:∀l,P l->l.length<=1048576∧∀p∈l,RL K p.1∧RL K p.2)
  (u:∀w s c,Prp (aU b) w->CnZ w s c->∃l,ExK K f (fun x=>aY 0 ((s :: c).map (fun a=>aP a 0 x))) (fun x=>aP s 0 x) (((-((2:Int)^n):Int)):Rat) ((((2:Int)^n:Int)):Rat) l∧P l):
  Calls prog 11 #[v] w fun e w'=>∃j l,e= .returned (.tuple #[j,.int .i64 (dM b)])∧(dM b=0->P l)∧(dM b≠0->l=[])∧IvsAt w' j (l.map m8)∧Below w.1.size w w':=
 have g:∀q∈aU b,RL 1 q:=pI (fun l d=>aH (i l d) (by decide))
 exY b 1 n K P v w m hv d (fun l h=>aH (i l h) (by decide)) g (by decide) (exX g (by rw[VS];exact d)) y (by omega) o r f k t u
def pS(s:List Int)(x y:Rat)(N:Int):Bool:=if x<y then decide (aP s 0 x*aP s 0 y<0)&&decide (N=1) else decide (x=y)&&decide (aP s 0 x=0)
def Bx.put8{b:Nat}{m n o p q r s:Value}(h:Bx W b [m,n,o,p,q,r,s,u] t)(N:Below B w W)(a:B<=b)(d e f g i j k l:Value)(hn:(cS (some m)&&(cS (some n)&&(cS (some o)&&(cS (some p)&&(cS (some q)&&(cS (some r)&&(cS (some s)&&cS (some u))))))))=true):
  ∃c,(((((((W.setCell ⟨b,0,none⟩ d).setCell ⟨b,1,none⟩ e).setCell ⟨b,2,none⟩ f).setCell ⟨b,3,none⟩ g).setCell ⟨b,4,none⟩ i).setCell ⟨b,5,none⟩ j).setCell ⟨b,6,none⟩ k).setCell ⟨b,7,none⟩ l=c∧Bx c b [d,e,f,g,i,j,k,l] t∧Below B w c∧Keep W c:=by
 simp only[az7] at hn;obtain⟨X,rfl,F,v,O,f1⟩:=h.put1 N a 0 d hn.1;obtain⟨Y,rfl,G,x,P,f2⟩:=F.put1 v a 1 e hn.2.1;obtain⟨Z,rfl,H,y,Q,f3⟩:=G.put1 x a 2 f hn.2.2.1;obtain⟨W4,rfl,I,z,R,f4⟩:=H.put1 y a 3 g hn.2.2.2.1;obtain⟨W5,rfl,J,A,S,f5⟩:=I.put1 z a 4 i hn.2.2.2.2.1;obtain⟨W6,rfl,K,C,T,f6⟩:=J.put1 A a 5 j hn.2.2.2.2.2.1;obtain⟨W7,rfl,L,D,U,f7⟩:=K.put1 C a 6 k hn.2.2.2.2.2.2.1;obtain⟨W8,rfl,M,E,V,f8⟩:=L.put1 D a 7 l hn.2.2.2.2.2.2.2;exact⟨_,rfl,M,E,((((((O.trans P).trans Q).trans R).trans S).trans T).trans U).trans V⟩
def ayB{s:List Int}{z:Rat}(f:∀n∈s,nl n.natAbs<=K)(c:RL K z)(e:s.length<=65):nl (fE s z.num z.den).natAbs<=K*65+1:=by
 have d:=xK (ns:=s) (a:=z.num) (b:=z.den) (T:=BN^K) (fun n h=>mS (f n h)) (mS c.1) (mS c.2);refine cJ (jI d.1 (aZ (xL (by omega)).1 (cO (by decide) ?_)));have:=eV K e;omega
end Go.Proofs.YtjgbleapffgbcaaGreatDoor
namespace Go.Proofs.YtjgbleapffgbcaaGreatDoor
open Sos
def IsoAt(s:List Int)(c:List (List Int))(a b:Rat):Prop:=a=b∧aP s 0 a=0∨a<b∧aP s 0 a≠0∧aP s 0 b≠0∧fF s c 0 a 0 b=1
section
variable {A:List Rat}{w s:List Int}{c:List (List Int)}{L a b:Rat}
def CnZ.kd(d:CnZ w s c):∀n∈aS (bB s),nl n.natAbs<=110079:=fun n hn=>aH (gU (pL d.2.2.1.nums (by have:=d.2.2.1.1;omega)) n hn) (by decide)
def IsoAt.ok(e:Prp A w)(d:CnZ w s c)(h:IsoAt s c a b):pS s a b (fF s c 0 a 0 b)=true:=by
 unfold pS;rcases h with ⟨rfl,h⟩|⟨h,f,g,hn⟩
 ·rw[if_neg (by grind),decide_eq_true rfl,decide_eq_true h];rfl
 ·rw[if_pos h,decide_eq_true hn,decide_eq_true (ay6 d.1 e.2.1 d.kd f g hn)];rfl
def cxY{K:Nat}{l:List (Rat×Rat)}(h:ExQ K (fun x=>aY 0 ((s :: c).map (fun a=>aP a 0 x))) (fun x=>aP s 0 x) a b l):a<b->∀p∈l,IsoAt s c p.1 p.2∧a<=p.1∧p.2<=b:=by
 induction h with
 |none h=>exact fun _ p d=>by cases d
 |hit h g=>exact fun e p d=>by rw[List.mem_singleton.1 d];exact⟨.inl ⟨rfl,g⟩,az6 e,byB⟩
 |one h g m=>exact fun e p d=>by rw[List.mem_singleton.1 d];exact⟨.inr ⟨e,m,g,by have k:=h;unfold fF;dsimp only at k⊢;omega⟩,byB,byB⟩
 |split h q r _ _ n o=>
  intro e p d;rcases List.mem_append.1 d with d|d
  ·obtain⟨f,i,j⟩:=n (by grind) p d;exact⟨f,i,by grind⟩
  ·obtain⟨f,i,j⟩:=o (by grind) p d;exact⟨f,by grind,j⟩
def cxZ(u:Prp A w)(e:CnZ w s c)(B:0<L):∀(n:Nat) (a b:Rat),IsoAt s c a b->b-a<=L*2^n->IsoAt s c (azN (fun z=>aP s 0 z) L n a b).1 (azN (fun z=>aP s 0 z) L n a b).2∧a<=(azN (fun z=>aP s 0 z) L n a b).1∧(azN (fun z=>aP s 0 z) L n a b).2<=b∧(azN (fun z=>aP s 0 z) L n a b).2-(azN (fun z=>aP s 0 z) L n a b).1<=L:=by
 have x:=e.2.2.1.1;have y:∀n∈s,nl n.natAbs<=110079:=fun n hn=>aH (e.2.2.1.nums n hn) (by decide);intro n;induction n with
 |zero=>
  intro a b h j;have:=bqF j;rw[byW this];exact⟨h,byB,byB,by grind⟩
 |succ n o=>
  intro a b h j;by_cases f:L<b-a
  ·rcases h with ⟨rfl, -⟩|⟨C,m,v,hn⟩
   ·exfalso;grind
   ·obtain⟨r,t⟩:=cxA j;by_cases d:aP s 0 ((a+b)/2)=0
    ·rw[bq0 f d];exact⟨.inl ⟨rfl,d⟩,by show a<=(a+b)/2;grind,by show(a+b)/2<=b;grind,by show(a+b)/2-(a+b)/2<=L;grind⟩
    ·rcases bqI e.1 u.2.1 x y e.kd (show a<(a+b)/2 by grind) (show(a+b)/2<b by grind) m d hn with ⟨g,i⟩|⟨-,g,i⟩
     ·rw[bq2 f d i];obtain⟨k,p,q,l⟩:=o a ((a+b)/2) (.inr ⟨by grind,m,d,g⟩) r;exact⟨k,p,by grind,l⟩
     ·rw[bq1 f d i];obtain⟨k,p,q,l⟩:=o ((a+b)/2) b (.inr ⟨by grind,d,v,g⟩) t;exact⟨k,by grind,q,l⟩
  ·rw[byW f];exact⟨h,byB,byB,by grind⟩
end
def Cop.congr{a b c d:List Rat}(h:Cop a b)(e:∀x,aI c x=aI a x)(f:∀x,aI d x=aI b x):Cop c d:=by
 obtain⟨u,v,k⟩:=h;exact⟨u,v,fun x=>by rw[e,f];exact k x⟩
def dZ:List (List Int)->Nat->Rat->Rat
 |[],_,_=>1
 |e :: es,n,x=>aX e x^n*dZ es (n+1) x
end Go.Proofs.YtjgbleapffgbcaaGreatDoor
namespace Go.Proofs.YtjgbleapffgbcaaGreatDoor
open Go.RowKit Sos
end Go.Proofs.YtjgbleapffgbcaaGreatDoor
namespace Go.Proofs.YtjgbleapffgbcaaGreatDoor
open Sos
section
variable {G:List Rat}{g s:List Int}{r0 r1 s0 s1:List Rat}
end
