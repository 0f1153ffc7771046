/- Laws. -/
import Derived.Test.YtjgbleapffgbcaaGreatDoorW26
set_option linter.all false
set_option maxHeartbeats 8000000
set_option maxRecDepth 99999
namespace Go.Proofs.YtjgbleapffgbcaaGreatDoor
open Sos
variable{A B O P f:List Rat}{K L N n r:Nat}{k lead q:Rat}{rest:List (List Rat)}
def QF(A:List Rat)(K:Nat):Prop:=∃(f:Nat->Int) (D:Int),0<D∧nl D.natAbs<=K∧(∀i,nl (f i).natAbs<=K)∧∀i,cf A i*(D:Rat)=((f i:Int):Rat)
def QF.mono(h:QF A K)(a:K<=L):QF A L:=by
 obtain⟨f,D,b,c,d,e⟩:=h;exact⟨f,D,b,aH c a,fun i=>aH (d i) a,e⟩
def QF.nums(h:QF A K)(a:1<=K):∀q∈A,RL K q:=fun q b=>by
 obtain⟨f,D,g,c,d,e⟩:=h;obtain⟨i,hi,rfl⟩:=List.mem_iff_getElem.1 b;rw[<-fZ hi,<-dyJ (gJ (show D≠0 by omega)) (e i).symm];exact pM (d i) c a
def QF.mul(c:QF A K)(d:QF B L)(s:A.length+B.length<=1073741824):QF (aW aV (dX A B)) (K+L+1):=by
 obtain⟨f,D,h,o,q,e⟩:=c;obtain⟨g,E,l,p,r,b⟩:=d;refine⟨fun i=>if i<A.length+B.length then conv f g i else 0,D*E,Int.mul_pos h l,aH (gT _ _ _ _ o p) (Nat.le_succ _),fun i=> ?_,fun i=> ?_⟩
 ·show nl (if i<A.length+B.length then conv f g i else 0).natAbs<=_
  split
  ·exact K6 q r (by omega)
  ·exact aH (cJ (m:=0) (n:=0) (by decide)) (dC _)
 ·rw[iS,x5];show _=(((if i<A.length+B.length then conv f g i else 0:Int)):Rat)
  split
  ·rw[oD,gL (fun k=>(e k).symm.trans (byD _ _)) (fun k=>(b k).symm.trans (byD _ _)),eI,rF,eJ];grind
  ·rw[rG (fun j a=>bV a) (fun j a=>bV a) (by omega)];simp
def QF.nil:QF [] 1:=⟨fun _=>0,1,by decide,cJ (m:=1) (by unfold BN;decide),fun _=>show nl (0:Int).natAbs<=1 from cJ (m:=1) (by unfold BN;decide),fun i=>by rw[eR,aqQ,aq4]⟩
def exA(q:Rat):q*((q.den:Int):Rat)=(q.num:Rat):=by
 have b:=gJ (show(q.den:Int)≠0 by have:=q.den_pos;omega);have h:=gW (a:=(q.num:Rat)) b;rw[aq3] at h⊢;rwa [<-VF] at h
def QF.one(h:RL K q):QF [q] K:=⟨fun i=>if i=0 then q.num else 0,(q.den:Int),by have:=q.den_pos;omega,h.2,fun i=>by
 show nl (if i=0 then q.num else 0).natAbs<=K
 split
 ·exact h.1
 ·exact aH (cJ (m:=0) (n:=0) (by decide)) (dC _),fun i=>by
 cases i with
 |zero=>exact exA q
 |succ i=>rw[bV (by simp)];show _=(((if i+1=0 then q.num else 0:Int)):Rat);rw[if_neg (by omega),aqQ,aq4]⟩
def QF.der(h:QF A K)(c:A.length<=1073741824):QF (aW aV (fW A)) (K+1):=by
 obtain⟨f,D,a,d,b,e⟩:=h;refine⟨fun i=>if i<A.length then f (i+1)*((i:Int)+1) else 0,D,a,by omega,fun i=> ?_,fun i=> ?_⟩
 ·show nl (if i<A.length then f (i+1)*((i:Int)+1) else 0).natAbs<=_
  split
  ·exact gT _ _ _ _ (b _) (cJ (by rw[show((i:Int)+1).natAbs=i+1 by omega];unfold BN;omega))
  ·exact aH (cJ (m:=0) (n:=0) (by decide)) (dC _)
 ·rw[iS,tV];show _=(((if i<A.length then f (i+1)*((i:Int)+1) else 0:Int)):Rat)
  split
  ·rw[eJ,<-e,show(((i:Int)+1:Int):Rat)=((i+1:Nat):Rat) by rw[show((i:Int)+1)=((i+1:Nat):Int) from rfl,aq3]];grind
  ·rw[bV (by omega),aqQ,aqQ,aq4]
def QF.mon_{e:List Int}(d:e≠[])(g:aN e)(a:∀n∈e,nl n.natAbs<=K):QF (cE e) K:=by
 have f:=(dR d).1 g;have c:=iU a (e.length-1);have b:∀i,cf (cE e) i*((cf e (e.length-1):Int):Rat)=((cf e i:Int):Rat):=fun i=>by
  show cf (tT e (cf e (e.length-1))) i*_=_
  rw[xN];exact gW (gJ f)
 generalize cf e (e.length-1)=l at *;rcases azO 0 l with h|h
 ·exact⟨cf e,l,h,c,iU a,b⟩
 ·exact⟨fun i=> -cf e i, -l,by omega,by rw[azJ];exact c,fun i=>by rw[azJ];exact iU a i,fun i=>by rw[bx4,bx4,<-b i];grind⟩
def exB(k:aN A)(l:aN B)(b:A≠[])(c:B≠[]):(aW aV (dX A B)).length+1=A.length+B.length∧cf (aW aV (dX A B)) ((aW aV (dX A B)).length-1)=cf A (A.length-1)*cf B (B.length-1):=by
 have s:=List.length_pos_iff.2 b;have t:=List.length_pos_iff.2 c;have d:∀i,cf (aW aV (dX A B)) i=conv (cf A) (cf B) i:=fun i=>by rw[iS,x5]
 have e:=p5 (p:=cf A) (q:=cf B) (m:=A.length-1) (n:=B.length-1) (fun i g=>bV (by omega)) (fun i g=>bV (by omega));have f:cf A (A.length-1)*cf B (B.length-1)≠0:=m6 ((dR b).1 k) ((dR c).1 l);have o:(aW aV (dX A B)).length<=A.length+B.length-1:=XT (fun j a=>by rw[x5];exact rG (fun j a=>bV a) (fun j a=>bV a) (by omega));have r:A.length-1+(B.length-1)<(aW aV (dX A B)).length:=by
  rcases dE (A.length-1+(B.length-1)) (aW aV (dX A B)).length with h|h
  ·exact h
  ·exact absurd (by rw[<-e,<-d,bV h]) f
 exact⟨by omega,by rw[d,show(aW aV (dX A B)).length-1=A.length-1+(B.length-1) by omega,e]⟩
def dyG(A B:List Rat)(x:Rat):aI (aW aV (dX A B)) x=aI A x*aI B x:=by
 rw[<-fY];exact oT (fun i=>by rw[iS,x5,uU]) x
def X1:List (List Rat)->Nat->Nat
 |[],_=>0
 |f :: F,n=>n*(f.length-1)+X1 F (n+1)
def zQ:List (List Rat)->Nat->Rat->Rat
 |[],_,_=>1
 |f :: F,n,x=>aI f x^n*zQ F (n+1) x
structure OuI(lead:Rat)(K N:Nat)(G:Rat->Rat)(f:List Rat)(r:Nat)(rest:List (List Rat))(n:Nat)(O:List Rat):Prop where
 tr:aN O
 ne:O≠[]
 le:cf O (O.length-1)=lead
 len:O.length+r*(f.length-1)+X1 rest n=N+1
 qf:QF O (41+K*(O.length-1))
 ev:∀x,aI O x*aI f x^r*zQ rest n x=G x
def OuI.next{G:Rat->Rat}(h:OuI lead K N G f (r+1) rest n O)(o:aN f)(d:f≠[])(a:cf f (f.length-1)=1)(m:QF f (K-1))(p:1<=K)(q:N<=1000):OuI lead K N G f r rest n (aW aV (dX O f)):=by
 obtain⟨b,l⟩:=exB h.tr o h.ne d;have t:=List.length_pos_iff.2 h.ne;have s:=List.length_pos_iff.2 d;have k:=h.len;rw[aq2] at k;refine⟨jS _,fun e=>by rw[e] at b;simp at b;omega,by rw[l,h.le,a,aqP],by omega,?_,fun x=>by rw[dyG,<-h.ev x,azH];grind⟩;by_cases g:f.length=1
 ·have e:aW aV (dX O f)=O:=oZ (jS _) h.tr (fun i=>by
   obtain⟨c,rfl⟩:=List.length_eq_one_iff.1 g;have j:c=1:=a;subst j;rw[iS,x5,sO,dyI,azF])
  rw[e];exact h.qf
 ·refine(h.qf.mul m (by omega)).mono ?_;have e:(aW aV (dX O f)).length-1=O.length-1+(f.length-1):=by omega
  rw[e,iL];have:=eV K (show 1<=f.length-1 by omega);omega
def OuI.size{G:Rat->Rat}(h:OuI lead K N G f r rest n O):O.length<=N+1:=by have:=h.len;omega
def OuI.done{G:Rat->Rat}(h:OuI (cf P (P.length-1)) K (P.length-1) G f 0 [] n O)(l:aN P)(j:P≠[])(p:∀x,aI P x=k*G x):O=P:=by
 have g:=h.len;have t:=List.length_pos_iff.2 j;rw[azW] at g;have s:O.length=P.length:=by unfold X1 at g;omega
 have e:∀i,cf P i=k*cf O i:=fun i=>by
  have:=LL (a:=P) (b:=O.map (fun q=>k*q)) (fun x=>by
   rw[iI,p,<-h.ev x,azM];unfold zQ;grind) i
  rw[this,mG (fun q=>k*q) (dU _)]
 have m:=e (P.length-1);have c:=h.le;rw[s] at c;rw[c] at m;have o:=(dR j).1 l;have r:k=1:=by
  have:(k-1)*cf P (P.length-1)=0:=by grind
  rcases Rat.mul_eq_zero.1 this with d|d
  ·grind
  ·exact absurd d o
 refine oZ h.tr l (fun i=> ?_);rw[e i,r,azF]
def GA(e:List Int)(x:Rat):aI (cE e) x=(1/((cf e (e.length-1):Int):Rat))*aX e x:=by
 rw[pN,<-dV,<-iI];exact oT (fun i=>by rw[dS,mG (fun q=>(1/((cf e (e.length-1):Int):Rat))*q) (dU _),dS,azF]) x
def GB{x:Rat}(h:x≠0):∀n:Nat,x^n≠0
 |0=>by rw[azM];decide
 |n+1=>by rw[azH];exact m6 (GB h n) h
end Go.Proofs.YtjgbleapffgbcaaGreatDoor
namespace Go.Proofs.YtjgbleapffgbcaaGreatDoor
open Go.RowKit Sos
variable{Q c p r w y:List Int}
def VY{x:Rat}(h:0<x):∀n:Nat,0<x^n
 |0=>by rw[azM];decide
 |n+1=>by rw[azH];exact azA (VY h n) h
def lR(a:List Int)(x:Rat):(aP a 0 x=1↔0<aX a x)∧(aP a 0 x=0↔aX a x=0)∧(aP a 0 x= -1↔aX a x<0):=by
 rw[<-yI];rcases uS x (aX a) with ⟨h,e⟩|⟨h,e⟩|⟨h,e⟩<;>rw[e]<;>refine⟨⟨fun k=> ?_,fun k=> ?_⟩,⟨fun k=> ?_,fun k=> ?_⟩,⟨fun k=> ?_,fun k=> ?_⟩⟩<;>first|(exact h)|(cases k;done)|rfl|(exfalso;grind)
def dyO(b:Pp y)(e:∀i,cf y i=conv (cf Q) (cf c) i):Q≠[]:=fun d=>by
 obtain⟨x,a⟩:=ez0 b.ne b.tr;rw[dV,dY e,d,DS,aqQ] at a;exact a rfl
def QuoOf.dvw(a:DvW w y)(b:Pp c)(h:QuoOf y c Q):DvW w Q∧DvW w c:=
 RfO.quoW a ⟨dyO a.pp h.id_,h.trim,y3 a.pr h.id_⟩ b h.id_
def Sqf.all{B:Nat}{l:List (List Int)}(h:Sqf B p r l):DvW w p->DvW w r->∀f∈l,DvW w f:=by
 induction h with
 |done=>intro _ _ f a;cases a
 |step n g i j t k=>
  intro b c f a;obtain⟨d, -, -, -⟩:=dy5 b.pp c.pp g;have e:=QuoOf.dvw b d i;have m:=QuoOf.dvw c d j;rcases List.mem_cons.1 a with rfl|a
  ·exact e.1
  ·exact k e.2 m.1 f a
end Go.Proofs.YtjgbleapffgbcaaGreatDoor
namespace Go.Proofs.YtjgbleapffgbcaaGreatDoor
open Sos
end Go.Proofs.YtjgbleapffgbcaaGreatDoor
namespace Go.Proofs.YtjgbleapffgbcaaGreatDoor
open Go.RowKit Sos
variable{A g l:List Rat}{K L:Nat}{x y:Rat}
structure TxG(T:List (List UInt8))(K L:Nat):Prop where
 qf:QF (aU T) K
 len:T.length<=L
 txt:∀l∈T,l.length<=1073741824
def mT(a b:List (List UInt8)):List (List UInt8):=if vl a=true∧vl b=true then (aW aV (dX (aU a) (aU b))).map cW else []
def exF(A B:List Rat):(aW aV (dX A B)).length<=A.length+B.length-1:=by
 refine aH (oY _ _) ?_;unfold dX;split
 ·simp
 ·rw[cH,bxZ];exact aE
def dyM(h:QF A K)(b:1<=K)(d:K<=1000000)(a:A.length<=L):TxG (A.map cW) K L:=
 ⟨by rw[tS];exact h,by rw[cH];exact a,fun l a=>by
  obtain⟨q,c,rfl⟩:=List.mem_map.1 a;exact aH (cx1 (h.nums b q c)) (by omega)⟩
def TxG.mul{a b:List (List UInt8)}{k l:Nat}(c:TxG a K k)(d:TxG b L l)(i:1<=K)(j:1<=L)(m:K+L<=1000)(f:k+l<=64):TxG (mT a b) (K+L+1) (k+l-1):=by
 have n:=c.len;have o:=d.len;have g:=exF (aU a) (aU b);rw[VS,VS] at g;unfold mT;split
 ·exact dyM (c.qf.mul d.qf (by rw[VS,VS];omega)) (by omega) (by omega) (by omega)
 ·exact⟨QF.nil.mono (by omega),dC _,fun l f=>by cases f⟩
structure FaG(e:List Int):Prop where
 pp:Pp e
 len:e.length<=19
 num:∀n∈e,nl n.natAbs<=1405
 cop:Cop (aT 1 e) (fW (aT 1 e))
def fT(e:List Int):List (List UInt8):=(cE e).map cW
def dT(e:List Int):List (List UInt8):=(aW aV (fW (cE e))).map cW
section
variable {e:List Int}(h:FaG e)
include h
def FaG.qf:QF (cE e) 1405:=QF.mon_ h.pp.ne h.pp.tr h.num
def FaG.tx:TxG (fT e) 1405 19:=dyM h.qf (by decide) (by decide) (by rw[(uD h.pp.tr).1];exact h.len)
def FaG.dq:QF (aW aV (fW (cE e))) 1406:=h.qf.der (by rw[(uD h.pp.tr).1];have:=h.len;omega)
def FaG.dl:(aW aV (fW (cE e))).length=e.length-1:=by
 rw[(MI (uD h.pp.tr)).2,qO,(uD h.pp.tr).1]
def FaG.one:cf (cE e) ((cE e).length-1)=1:=by
 rw[(uD h.pp.tr).1];unfold cE;rw[xN];exact dyJ (gJ ((dR h.pp.ne).1 h.pp.tr)) (azF _).symm
end
structure NnF(w:List Int)(l:List (List Int)):Prop where
 pp:∀f∈l,DvW w f∧Cop (aT 1 f) (fW (aT 1 f))
 pw:∃k:Rat,∀y,aX w y=k*dZ l 1 y
structure NnA(w:List Int)(es:List (List Int))(i:Int)(x:Rat)(N:Nat->Int):Prop where
 cnt:es.length<=w.length
 fac:NnF w es
 same:∀B g Q l,pO B w (bB w) g->QuoOf w g Q->Sqf B Q g l->l.map cE=es.map cE∧∀f∈l,DvW w f∧Cop (aT 1 f) (fW (aT 1 f))
 num:∀(j:Nat) (e f:List Int) (c:List (List Int)),es[j]? =some e->DvW w f->Cop (aT 1 f) (fW (aT 1 f))->cE f=cE e->StT 110079 f (aS (bB f)) c->fF f c i x 1 0=N j
def Cop.pow{e a:List Rat}(h:Cop e a):∀n,Cop e (fJ a n)
 |0=>Cop.const (k:=1) (by decide) (fun x=>by show(0:Rat)*x+1=1;grind)
 |n+1=>(Cop.pow h n).mul h (fun x=>fY _ _ x)
def dqG(l:List Rat)(w:x<y)(h:aI l x*aI l y<0)(f:∀z,x<=z->z<=y->aI l z≠0):∀n:Nat,∃a b,x<=a∧a<b∧b<=y∧b-a=(y-x)/2^n∧aI l a*aI l b<0:=by
 intro n;induction n with
 |zero=>exact⟨x,y,by grind,w,by grind,by rw[azM];grind,h⟩
 |succ n A=>
  obtain⟨a,b,g,B,j,r,C⟩:=A;have e:(b-a)/2=(y-x)/2^(n+1):=by
   rw[r,azH];have i:(2:Rat)^n≠0:=GB (by decide) n;generalize (2:Rat)^n=t at *;have d:=gW (a:=y-x) i;have c:=gW (a:=y-x) (b:=t*2) (by grind);generalize (y-x)/t=u at *;generalize (y-x)/(t*2)=v at *;have:(u/2-v)*t=0:=by grind
   rcases Rat.mul_eq_zero.1 this with k|k
   ·grind
   ·exact absurd k i
  have p:=f ((a+b)/2) (by grind) (by grind);by_cases k:aI l a*aI l ((a+b)/2)<0
  ·exact⟨a,(a+b)/2,g,by grind,by grind,by rw[<-e];grind,k⟩
  ·refine⟨(a+b)/2,b,by grind,by grind,j,by rw[<-e];grind,?_⟩;have s:=f a g (by grind);have o:=f b (by grind) j;generalize aI l ((a+b)/2)=m at *;generalize aI l a=u at *;generalize aI l b=v at *;rcases iY u with d|d|d
   ·have hv:0<v:=by
     rcases iY v with c|c|c
     ·have:=azA (show 0< -u by grind) (show 0< -v by grind);grind
     ·exact absurd c o
     ·exact c
    have q:m<0:=by
     rcases iY m with c|c|c
     ·exact c
     ·exact absurd c p
     ·have:=azA (show 0< -u by grind) c;grind
    have:=azA (show 0< -m by grind) hv;grind
   ·exact absurd d s
   ·have hv:v<0:=by
     rcases iY v with c|c|c
     ·exact c
     ·exact absurd c o
     ·have:=azA d c;grind
    have q:0<m:=by
     rcases iY m with c|c|c
     ·have:=azA d (show 0< -m by grind);grind
     ·exact absurd c p
     ·exact c
    have:=azA q (show 0< -v by grind);grind
def dqH{d:Rat}(E:0<d)(h:∀z,x<=z->z<=y->d<=aI l z*aI g z∨aI l z*aI g z<= -d)(L:x<y):0<aI l x*aI l y:=by
 have i:∀z,x<=z->z<=y->aI l z≠0:=fun z P z2 k=>by
  have:=h z P z2;rw[k,aqQ] at this;rcases this with h|h<;>grind
 have s:=m6 (i x (by grind) (by grind)) (i y (by grind) (by grind));rcases iY (aI l x*aI l y) with k|k|k
 ·exfalso;obtain⟨R,m,o,p⟩:∃R:Rat,0<=R∧ab x R∧ab y R:=⟨max (max x (-x)) (max y (-y)),by grind,⟨by grind,by grind⟩,⟨by grind,by grind⟩⟩;obtain⟨M,U,H⟩:=axR l m;obtain⟨G,T,F⟩:=axQ g m;obtain⟨n,hn⟩:=axG E (M*G*(y-x)+1);obtain⟨a,b,w,Q,S,A,e⟩:=dqG l L k i n;have r:ab a R:=⟨by have:=o.1;grind,by have:=p.2;grind⟩;have D:ab b R:=⟨by have:=o.1;grind,by have:=p.2;grind⟩;have j:=H a b r D (by grind);have B:=F a r;have C:=h a w (by grind);have J:=VY (x:=2) (by decide) n;have I:=gW (a:=y-x) (show(2:Rat)^n≠0 by grind);rw[A] at j;generalize (2:Rat)^n=t at *;generalize (y-x)/t=q at *;generalize aI l a=u at *;generalize aI l b=v at *;generalize aI g a=z at *;have K:ab u (M*q):=by
   obtain⟨N,O⟩:=j;rcases iY u with f|f|f
   ·have hv:0<v:=by
     rcases iY v with c|c|c
     ·have:=azA (show 0< -u by grind) (show 0< -v by grind);grind
     ·rw[c,dU] at e;exact absurd e (by decide)
     ·exact c
    constructor<;>grind
   ·rw[f,aqQ] at e;exact absurd e (by decide)
   ·have hv:v<0:=by
     rcases iY v with c|c|c
     ·exact c
     ·rw[c,dU] at e;exact absurd e (by decide)
     ·have:=azA f c;grind
    constructor<;>grind
  obtain⟨N,O⟩:=K.mul B;have f:M*q*G<d:=by
   by_cases k:M*q*G<d
   ·exact k
   ·have c:=cA (show 0<=M*q*G-d by grind) (az6 J);have V:M*q*G*t=M*G*(y-x):=by rw[<-I];grind
    grind
  rcases C with h|h<;>grind
 ·exact absurd k s
 ·exact k
end Go.Proofs.YtjgbleapffgbcaaGreatDoor
namespace Go.Proofs.YtjgbleapffgbcaaGreatDoor
open Sos
variable{B K N n:Nat}{a b x y:Rat}{l:List (Rat×Rat)}{s w:List Int}{A L R:List Rat}{c:List (List Int)}
def exZ:∀{l m:List Rat},l.Pairwise (fun x y=>x<y)->m.Pairwise (fun x y=>x<y)->(∀x,x∈l↔x∈m)->l=m
 |[],[],_,_,_=>rfl
 |[],a :: m,_,_,h=>absurd ((h a).2 iC) (by simp)
 |a :: l,[],_,_,h=>absurd ((h a).1 iC) (by simp)
 |a :: l,b :: m,hl,hm,h=>by
  obtain⟨g,j⟩:=List.pairwise_cons.1 hl;obtain⟨i,k⟩:=List.pairwise_cons.1 hm;have n:a=b:=by
   rcases List.mem_cons.1 ((h a).1 iC) with e|e
   ·exact e
   ·rcases List.mem_cons.1 ((h b).2 iC) with f|f
    ·exact f.symm
    ·have:=i a e;have:=g b f;grind
  subst n;rw[exZ j k (fun x=>⟨fun c=> ?_,fun c=> ?_⟩)]
  ·rcases List.mem_cons.1 ((h x).1 (j8 _ c)) with e|e
   ·have:=g x c;rw[e] at this;grind
   ·exact e
  ·rcases List.mem_cons.1 ((h x).2 (j8 _ c)) with e|e
   ·have:=i x c;rw[e] at this;grind
   ·exact e
def ey0(V:Rat->Nat)(s:Rat->Int)(g:Rat×Rat->Option Rat)(p:Rat×Rat):Prop:=(p.1=p.2->s p.2=0->g p=some p.2)∧(p.1<p.2->V p.1=V p.2+1->s p.1≠0->s p.2≠0->∀y,g p=some y↔p.1<y∧y<p.2∧s y=0)
section
variable {R d:Rat}{V:Rat->Nat}{s:Rat->Int}
def eyA(h:Vs R d V s){g:Rat×Rat->Option Rat}(F:ExQ K V s a b l):ab a R->ab b R->a<b->(∀p∈l,ey0 V s g p)->(l.filterMap g).Pairwise (fun x y=>x<y)∧∀y,y∈l.filterMap g↔a<y∧y<=b∧s y=0:=by
 induction F with
 |none t=>
  intro n j _ _;refine⟨List.Pairwise.nil,fun y=>⟨fun k=>(by cases k),fun ⟨f,i,c⟩=> ?_⟩⟩;have:=h.root n ⟨by have:=n.1;grind,by have:=j.2;grind⟩ j f i c;omega
 | @hit a b t o=>
  intro n j u q;rw[List.filterMap_cons,(q (b,b) iC).1 rfl o];refine⟨List.pairwise_singleton _ _,fun y=>⟨fun k=> ?_,fun ⟨f,i,c⟩=> ?_⟩⟩
  ·rw[List.mem_singleton.1 k];exact⟨u,byB,o⟩
  ·by_cases e:y=b
   ·rw[e];exact iC
   ·exfalso;have r:ab y R:=⟨by have:=n.1;grind,by have:=j.2;grind⟩;have L:=h.root n r r f byB c;have M:=h.root r j j (show y<b by grind) byB o;omega
 | @one a b t o E=>
  intro n j u q;have A:=(q (a,b) iC).2 u t E o
  have B:∀y,a<y->y<=b->s y=0->g (a,b)=some y:=fun y f i c=>(A y).2 ⟨f,by
   by_cases e:y=b
   ·rw[e] at c;exact absurd c o
   ·show y<b
    grind,c⟩
  cases hg:g (a,b) with
  |none=>
   rw[List.filterMap_cons,hg];exact⟨List.Pairwise.nil,fun y=>⟨fun k=>(by cases k),fun ⟨f,i,c⟩=>by rw[B y f i c] at hg;cases hg⟩⟩
  |some z=>
   rw[List.filterMap_cons,hg];refine⟨List.pairwise_singleton _ _,fun y=>⟨fun k=> ?_,fun ⟨f,i,c⟩=> ?_⟩⟩
   ·rw[List.mem_singleton.1 k];obtain⟨f,i,c⟩:=(A z).1 hg;exact⟨f,az6 i,c⟩
   ·rw[B y f i c] at hg;injection hg with e;rw[e];exact iC
 | @split a b l m t _ _ _ _ H I=>
  intro n j u q;have w:ab ((a+b)/2) R:=⟨by have:=n.1;grind,by have:=j.2;grind⟩;obtain⟨J,C⟩:=H n w (by grind) (fun p v=>q p (bzP _ v));obtain⟨p2,D⟩:=I w j (by grind) (fun p v=>q p (bzQ _ v));rw[List.filterMap_append];refine⟨List.pairwise_append.2 ⟨J,p2,fun x G y r=> ?_⟩,fun y=> ?_⟩
  ·have:=((C x).1 G).2.1;have:=((D y).1 r).1;grind
  ·rw[List.mem_append,C,D];constructor
   ·rintro (⟨f,i,c⟩|⟨f,i,c⟩)
    ·exact⟨f,by grind,c⟩
    ·exact⟨by grind,i,c⟩
   ·rintro ⟨f,i,c⟩;by_cases k:y<=(a+b)/2
    ·exact .inl ⟨f,k,c⟩
    ·exact .inr ⟨by grind,i,c⟩
end
def eyB(a b:Int):∀(s:List Int),s≠[]->b∣fE s a b-cf s (s.length-1)*a^(s.length-1)
 |[],h=>absurd rfl h
 |[c],_=>by
  have e:fE [c] a b=0*a+c*1:=rfl;rw[e,show cf [c] ([c].length-1)=c from rfl,show[c].length-1=0 from rfl,Int.pow_zero];simp
 |c :: e :: s,_=>by
  obtain⟨k,l⟩:=eyB a b (e :: s) (by simp);have f:fE (c :: e :: s) a b=fE (e :: s) a b*a+c*iZ (e :: s) a b:=rfl;have g:cf (c :: e :: s) ((c :: e :: s).length-1)=cf (e :: s) ((e :: s).length-1):=rfl;have i:a^((c :: e :: s).length-1)=a^((e :: s).length-1)*a:=by
   rw[<-gR];rfl
  rw[f,g,i,WQ,eG (a:=e),gR];refine⟨k*a+c*b^s.length,?_⟩;rw[eG] at l;have j:fE (e :: s) a b=cf (e :: s) (s.length+1-1)*a^(s.length+1-1)+b*k:=by omega
  rw[j];generalize cf (e :: s) (s.length+1-1)=u at *;generalize a^(s.length+1-1)=z at *;generalize b^s.length=v at *;grind
def eyT(h:s≠[])(c:aP s 0 y=0):∃k:Int,y*(eT s:Rat)=(k:Rat):=by
 have o:fE s y.num y.den=0:=by
  unfold aP at c;rw[if_pos rfl] at c;exact Int.sign_eq_zero_iff_zero.1 c
 have f:=eyB y.num y.den s h;rw[o] at f;have m:(y.den:Int)∣cf s (s.length-1)*y.num^(s.length-1):=by
  obtain⟨k,r⟩:=f;exact⟨-k,by rw[Int.mul_neg];omega⟩
 have hn:y.den∣(cf s (s.length-1)).natAbs*y.num.natAbs^(s.length-1):=by
  have:=Int.natAbs_dvd_natAbs.2 m;rwa [dD,fL,Int.natAbs_pow] at this
 have l:y.den.Coprime (y.num.natAbs^(s.length-1)):=Nat.Coprime.pow_right _ y.reduced.symm;obtain⟨q,p⟩:=l.dvd_of_dvd_mul_right hn;refine⟨y.num*(q:Int),?_⟩;have e:(eT s:Rat)=(y.den:Rat)*(q:Rat):=by
  unfold eT;rw[p];push_cast;rfl
 have g:y*(y.den:Rat)=(y.num:Rat):=by
  have i:(y.num:Rat)/((y.den:Int):Rat)=y:=by rw[<-Rat.divInt_eq_div];exact Rat.num_divInt_den y
  have j:=gW (a:=(y.num:Rat)) (b:=((y.den:Int):Rat)) (fun e=>by have:=pP (n:=(y.den:Int)) (by have:=y.den_pos;omega);grind);rwa [i] at j
 rw[e,<-azC,g,eJ];rfl
def eyC(f:s≠[])(ts:aN s){h:Rat}(n:aP s 0 y=0)(i:y<=h)(j:h-y<=V9 s):rT s h=y:=by
 have l:=czC f ts;have t:=pP l;obtain⟨k,c⟩:=eyT f n;have m:V9 s*(eT s:Rat)=1/2:=by unfold V9;exact gW (by grind)
 unfold rT;generalize (eT s:Rat)=L at *;have q:k<=(h*L).floor:=by
  rw[Rat.le_floor_iff,<-c];exact Rat.mul_le_mul_of_nonneg_right i (by grind)
 have r:(h*L).floor<k+1:=by
  rw[Rat.floor_lt_iff,aqE,<-c];have:=Rat.mul_le_mul_of_nonneg_right j (show 0<=L by grind);rw[m] at this;have g:((1:Int):Rat)=1:=rfl;rw[g];grind
 have e:(h*L).floor=k:=by omega
 rw[e,<-c];have:=gW (a:=y*L) (b:=L) (by grind);generalize y*L/L=z at *;have o:(z-y)*L=0:=by grind
 rcases Rat.mul_eq_zero.1 o with p|p<;>grind
def eyU(s:List Int)(c:s≠[])(ts:aN s)(h:Rat):rT s h<=h:=by
 have g:=pP (czC c ts);unfold rT;generalize (eT s:Rat)=L at *;have e:=Rat.floor_le (h*L);have f:=gW (a:=(((h*L).floor:Int):Rat)) (b:=L) (by grind);generalize (((h*L).floor:Int):Rat)/L=z at *;by_cases k:z<=h
 ·exact k
 ·have:=azA (show 0<z-h by grind) (show 0<L by grind);grind
def eyV{R d:Rat}(U:Prp A w)(C:CnZ w s c)(hv:Vs R d (fun x=>aY 0 ((s :: c).map (fun a=>aP a 0 x))) (fun x=>aP s 0 x)){p:Rat×Rat}(m:ab p.1 R)(n:ab p.2 R)(Z:p.2-p.1<=V9 s*2^N):ey0 (fun x=>aY 0 ((s :: c).map (fun a=>aP a 0 x))) (fun x=>aP s 0 x) (kQ s N) p:=by
 have r:=C.1.sq.ne;have v:=C.1.sq.ts;have Y:=(cz6 (czC r v)).2;refine⟨fun e f=> ?_,fun ac X K L y=> ?_⟩
 ·have E:RA s N p=(p.1,p.2):=byW (by grind);have F:rT s p.2=p.2:=eyC r v f byB (by grind);unfold kQ;rw[E];dsimp only;rw[F,if_pos ⟨by grind,f⟩]
 ·obtain⟨D,P,S,q3⟩:=cxZ U C Y N p.1 p.2 (.inr ⟨ac,K,L,by unfold fF;dsimp only at X;omega⟩) Z;have E:azN (fun z=>aP s 0 z) (V9 s) N p.1 p.2=RA s N p:=rfl;have W:∀a b,fF s c 0 a 0 b=1->(fun x=>aY 0 ((s :: c).map (fun a=>aP a 0 x))) a=(fun x=>aY 0 ((s :: c).map (fun a=>aP a 0 x))) b+1:=fun a b h=>by unfold fF at h;dsimp only;omega
  rw[E] at D P S q3;unfold kQ;generalize RA s N p=Q at *;generalize (fun x=>aY 0 ((s :: c).map (fun a=>aP a 0 x)))=V at *;have H:aP s 0 p.1≠0:=K;have T:aP s 0 p.2≠0:=L;have ae:Q.1<=Q.2:=by rcases D with ⟨e, -⟩|⟨k, -⟩<;>grind
  have j:ab Q.1 R:=⟨by have:=m.1;grind,by have:=n.2;grind⟩;have I:ab Q.2 R:=⟨by have:=m.1;grind,by have:=n.2;grind⟩;have F:=eyU s r v Q.2;have o:∀x y,ab x R->ab y R->x<=y->V y<=V x:=fun x y G u h=>by
   by_cases e:x=y
   ·rw[e];exact aE
   ·exact hv.mono x y G u (by grind)
  have q:∀x y,ab x R->ab y R->x<y->aP s 0 y=0->V y<V x:=fun x y G u h f=>hv.root G u u h byB f;have ad:∀y,p.1<y->y<p.2->aP s 0 y=0->Q.1<=y∧y<=Q.2:=fun y B J i=>by
   have l:ab y R:=⟨by have:=m.1;grind,by have:=n.2;grind⟩;have v1:=q p.1 y m l B i;have v2:=o y p.2 l n (by grind);rcases D with ⟨e,f⟩|⟨k,M,O,k3⟩
   ·rw[<-e] at *;have z1:p.1≠Q.1:=fun e=>H (by rw[e];exact f);rcases iY (y-Q.1) with g|g|g
    ·exfalso;have:=q y Q.1 l j (by grind) f;have:=o Q.1 p.2 j n (by grind);omega
    ·constructor<;>grind
    ·exfalso;have:=q Q.1 y j l (by grind) i;have:=q p.1 Q.1 m j (by grind) f;omega
   ·have v3:=W _ _ k3;refine⟨?_,?_⟩
    ·by_cases g:Q.1<=y
     ·exact g
     ·exfalso;have:=o y Q.1 l j (by grind);have:=o Q.2 p.2 I n S;omega
    ·by_cases g:y<=Q.2
     ·exact g
     ·exfalso;have:=q Q.2 y I l (by grind) i;have:=o p.1 Q.1 m j P;omega
  constructor
  ·intro k;split at k
   ·rename_i t;injection k with k;rw[k] at t F;have n1:y≠p.1:=fun e=>H (by rw[<-e];exact t.2);have n2:y≠p.2:=fun e=>T (by rw[<-e];exact t.2);exact⟨by grind,by grind,t.2⟩
   ·cases k
  ·rintro ⟨B,J,i⟩;obtain⟨M,O⟩:=ad y B J i;rw[eyC r v i O (by grind),if_pos ⟨M,i⟩]
def ey5(x y:Rat):iH (x*y)=iH x*iH y:=by
 rcases KO x with ⟨c,a⟩|⟨c,a⟩<;>rcases KO y with ⟨d,b⟩|⟨d,b⟩<;>rcases KO (x*y) with ⟨e,f⟩|⟨e,f⟩<;>rw[c,d,e]
 ·have:=cA a b;grind
 ·have:=cA a (show 0<= -y by grind);grind
 ·grind
 ·have:=cA (show 0<= -x by grind) b;grind
 ·grind
 ·grind
 ·have:=azA (show 0< -x by grind) (show 0< -y by grind);grind
def eyN(d:Rat)(l:List Rat):∀b:Rat,b<=l.foldl (fun b q=>if b<iH (q/d) then iH (q/d) else b) b∧∀q∈l,iH (q/d)<=l.foldl (fun b q=>if b<iH (q/d) then iH (q/d) else b) b:=by
 induction l with
 |nil=>exact fun b=>⟨byB,fun q f=>by cases f⟩
 |cons a l h=>
  intro b;rw[List.foldl_cons];have k:b<=(if b<iH (a/d) then iH (a/d) else b)∧iH (a/d)<=(if b<iH (a/d) then iH (a/d) else b):=by split<;>constructor<;>grind
  generalize (if b<iH (a/d) then iH (a/d) else b)=c at *;obtain⟨i,g⟩:=h c;refine⟨by grind,fun q f=> ?_⟩;rcases List.mem_cons.1 f with e|e
  ·rw[e];grind
  ·exact g q e
def ey6{M y L:Rat}(o:1+M<=iH y):∀l:List Rat,l≠[]->cf l (l.length-1)=L->(∀i,i+1<l.length->iH (cf l i)<=M*iH L)->iH L<=iH (aI l y)
 |[],h,_,_=>absurd rfl h
 |[a],_,e,_=>by
  rw[show aI [a] y=0*y+a from rfl,aqQ,bxT,<-show a=L from e];exact byB
 |a :: b :: p,_,e,h=>by
  have s:=ey6 o (b :: p) (by simp) (L:=L) e (fun i hi=>h (i+1) (by simp only[eG] at *;omega));have n:=h 0 (by simp);rw[show cf (a :: b :: p) 0=a from rfl] at n;rw[show aI (a :: b :: p) y=aI (b :: p) y*y+a from rfl];have k:=ey5 (aI (b :: p) y) y;generalize aI (b :: p) y=E at *;have q:=ey1 L;have r:=ey1 y;have t:=cA (show 0<=iH E-iH L by grind) r;have u:=cA q (show 0<=iH y-1-M by grind);have v:iH L+iH a<=iH (E*y):=by rw[k];grind
  rcases KO (E*y) with ⟨c,g⟩|⟨c,g⟩<;>rcases KO a with ⟨d,j⟩|⟨d,j⟩<;>rcases KO (E*y+a) with ⟨f,m⟩|⟨f,m⟩<;>grind
def eyO(q:aN A)(c:A≠[])(p:aI A y=0):iH y<jF A:=by
 by_cases k:iH y<jF A
 ·exact k
 ·exfalso;have n:=(dR c).1 q;have m:=(eyN (cf A (A.length-1)) (A.take (A.length-1)) 0).2;have l:1+Y6 (cf A (A.length-1)) (A.take (A.length-1))<=iH y:=by unfold jF at k;grind
  have:=ey6 l A c rfl (fun i r=> ?_)
  ·rw[p,show iH 0=0 by unfold iH;rfl] at this;rcases KO (cf A (A.length-1)) with ⟨e,h⟩|⟨e,h⟩<;>grind
  ·have o:cf A i∈A.take (A.length-1):=by
    have d:i<(A.take (A.length-1)).length:=by rw[bK];omega
    have f:(A.take (A.length-1))[i]=cf A i:=by rw[List.getElem_take,fZ (by omega)]
    rw[<-f];exact aq0 d
   have g:=m _ o;have j:=gW (a:=cf A i) n;have b:=ey5 (cf A i/cf A (A.length-1)) (cf A (A.length-1));rw[j] at b;rw[b];exact Rat.mul_le_mul_of_nonneg_right g (ey1 _)
def YS(d:aN A)(c:A≠[])(a:Pw (jF A) n)(b:aI A y=0):(((-((2:Int)^n):Int)):Rat)<y∧y<=((((2:Int)^n:Int)):Rat):=by
 have f:=eyO d c b;have g:=a.1;rw[bx4];rcases KO y with ⟨e,h⟩|⟨e,h⟩<;>constructor<;>grind
def ey7(b:CnZ w s c)(e:aN w)(n:Nat):∃d,Vs (p2 n) d (fun x=>aY 0 ((s :: c).map (fun a=>aP a 0 x))) (fun x=>aP s 0 x):=
 ⟨_,bqE (n:=n) (m0:=n+2) b.1 e b.2.2.1.1 (fun n hn=>aH (b.2.2.1.nums n hn) (by decide)) b.kd (by omega)⟩
def ey8(n:Nat):ab ((((-((2:Int)^n):Int)):Rat)) (p2 n)∧ab ((((2:Int)^n:Int)):Rat) (p2 n)∧(((-((2:Int)^n):Int)):Rat)<((((2:Int)^n:Int)):Rat):=by
 have h:=jZ n;rw[bx4];have e:((((2:Int)^n:Int)):Rat)=p2 n:=rfl;rw[e];exact⟨⟨by grind,by grind⟩,⟨by grind,by grind⟩,by grind⟩
def cx3(a:Prp A w)(b:Sqp B w s)(x:Rat):aI A x=0↔aP s 0 x=0:=by
 rw[<-sG a b x,Int.sign_eq_zero_iff_zero,Rat.num_eq_zero]
def eyP(f:Prp A w)(b:Cn B w s c):A≠[]:=fun e=>by
 obtain⟨g, -,d, -, -,l, -⟩:=b.sq.out;have h:=List.length_pos_iff.2 b.sq.ne;have i:=List.length_pos_iff.2 d;have a:=f.1;rw[e] at a;have j:w.length=0:=a.symm;have k:0<w.length∨s.length=1∧g.length=0:=by omega
 omega
def eyQ(h:czB A R):R.Pairwise (fun x y=>x<y)∧∀y,y∈R↔aI A y=0:=by
 obtain⟨w,s,c,n,l,N,b,a, -,D, -,⟨k,B, -⟩,z,rfl⟩:=h;have F:=b.2.1;obtain⟨d,hv⟩:=ey7 a F n;obtain⟨f,i,j⟩:=ey8 n
 obtain⟨u,v⟩:=eyA (g:=kQ s N) hv k f i j (fun p o=>by
  obtain⟨C,r,t⟩:=cxY k j p o;have G:p.1<=p.2:=by rcases C with ⟨e, -⟩|⟨e, -⟩<;>grind
  exact eyV b a hv ⟨by have:=f.1;grind,by have:=i.2;grind⟩ ⟨by have:=f.1;grind,by have:=i.2;grind⟩ (B p o N z).fu)
 refine⟨u,fun y=>(v y).trans ⟨fun h=>(cx3 b a.1.sq y).2 h.2.2,fun h=> ?_⟩⟩;have q:=(cx3 b a.1.sq y).1 h;have m:=uD a.1.sq.ts;have E:aI (cE s) y=0:=by
  rw[GA];have:=(lR s y).2.1.1 q;rw[this,dU]
 obtain⟨r,t⟩:=YS m.trim (fun e=>a.1.sq.ne (bX (by rw[<-m.1,e];rfl))) D E;exact⟨r,t,q⟩
def lD(L:List Rat)(x:Rat):Rat:=L.foldr (fun r v=>v*(x-r)) 1
def cy4:lD L x=0↔x∈L:=by
 induction L with
 |nil=>exact⟨fun h=>absurd h (by show¬(1:Rat)=0;decide),fun h=>by cases h⟩
 |cons r L a=>
  show lD L x*(x-r)=0↔_
  rw[List.mem_cons];constructor
  ·intro h;rcases Rat.mul_eq_zero.1 h with h|h
   ·exact .inr (a.1 h)
   ·exact .inl (by grind)
  ·rintro (h|h)
   ·rw[h];grind
   ·rw[a.2 h,aqQ]
def eyR(L:List Rat):(∀r∈L,r<a∨b<r)->∃d:Rat,0<d∧∀z,a<=z->z<=b->d<=lD L z∨lD L z<= -d:=by
 induction L with
 |nil=>exact fun _=>⟨1,by decide,fun z _ _=> .inl (by show(1:Rat)<=1;exact byB)⟩
 |cons r L s=>
  intro h;obtain⟨d,l,p⟩:=s (fun q n=>h q (j8 _ n));have j:∀(e:Rat),0<e->(∀z,a<=z->z<=b->e<=z-r∨z-r<= -e)->∃d:Rat,0<d∧∀z,a<=z->z<=b->d<=lD (r :: L) z∨lD (r :: L) z<= -d:=fun e m o=>by
   refine⟨d*e,azA l m,fun z c f=> ?_⟩;show d*e<=lD L z*(z-r)∨lD L z*(z-r)<= -(d*e)
   have g:=p z c f;have i:=o z c f;generalize lD L z=u at *;generalize z-r=v at *;rcases g with g|g<;>rcases i with i|i
   ·have:=cA (show 0<=u-d by grind) (show 0<=v by grind);have:=cA (show 0<=d by grind) (show 0<=v-e by grind);exact .inl (by grind)
   ·have:=cA (show 0<=u-d by grind) (show 0<= -v by grind);have:=cA (show 0<=d by grind) (show 0<= -v-e by grind);exact .inr (by grind)
   ·have:=cA (show 0<= -u-d by grind) (show 0<=v by grind);have:=cA (show 0<=d by grind) (show 0<=v-e by grind);exact .inr (by grind)
   ·have:=cA (show 0<= -u-d by grind) (show 0<= -v by grind);have:=cA (show 0<=d by grind) (show 0<= -v-e by grind);exact .inl (by grind)
  rcases h r iC with k|k
  ·exact j (a-r) (by grind) (fun z c f=> .inl (by grind))
  ·exact j (r-b) (by grind) (fun z c f=> .inr (by grind))
def ey9{g:Rat×Rat->Option Rat}{P:Rat×Rat->Rat->Prop}:∀{l:List (Rat×Rat)},(∀p∈l,∃y,g p=some y∧P p y)->(l.filterMap g).length=l.length∧∀(k:Nat) (p:Rat×Rat) (y:Rat),l[k]? =some p->(l.filterMap g)[k]? =some y->P p y
 |[],_=>⟨rfl,fun k p y h=>by simp at h⟩
 |p :: l,h=>by
  obtain⟨y,i,e⟩:=h p iC;obtain⟨c,d⟩:=ey9 (l:=l) (fun q f=>h q (j8 _ f));rw[List.filterMap_cons,i];refine⟨by rw[eG,eG,c],fun k q z a b=> ?_⟩;cases k with
  |zero=>
   injection a with a;injection b with b;rw[<-a,<-b];exact e
  |succ k=>exact d k q z a b
def eyS(h:yF A n l)(ac:Pw (jF A) n)(Y:∀x,aI A x=lD L x)(hs:R.Pairwise (fun x y=>x<y))(hm:∀y,y∈R↔aI A y=0):R.length=l.length∧∀(k:Nat) (p:Rat×Rat) (y:Rat),l[k]? =some p->R[k]? =some y->p.1<=y∧y<=p.2:=by
 classical
 obtain⟨w,s,c,E,I,X, -, -⟩:=h;have tw:=E.2.1;obtain⟨d,hv⟩:=ey7 I tw n;obtain⟨M,N,W⟩:=ey8 n;have T:=fun y=>cx3 E I.1.sq y;obtain⟨g,hg⟩:∃g:Rat×Rat->Option Rat,g=fun p=>if p.1=p.2 then some p.2 else if∃y,p.1<y∧y<p.2∧aP s 0 y=0 then some (Classical.epsilon (fun y=>p.1<y∧y<p.2∧aP s 0 y=0)) else none:=⟨_,rfl⟩;have Z:∀p∈l,ab p.1 (p2 n)∧ab p.2 (p2 n)∧(p.1=p.2∧aP s 0 p.1=0∨p.1<p.2∧aP s 0 p.1≠0∧aP s 0 p.2≠0∧fF s c 0 p.1 0 p.2=1):=fun p u=>by
  obtain⟨K,k1,k2⟩:=cxY X W p u;have k3:p.1<=p.2:=by rcases K with ⟨e, -⟩|⟨e, -⟩<;>grind
  exact⟨⟨by have:=M.1;grind,by have:=N.2;grind⟩,⟨by have:=M.1;grind,by have:=N.2;grind⟩,K⟩
 have V:∀p∈l,ey0 (fun x=>aY 0 ((s :: c).map (fun a=>aP a 0 x))) (fun x=>aP s 0 x) g p:=fun p u=>by
  obtain⟨G,H, -⟩:=Z p u;refine⟨fun e _=>by rw[hg];dsimp only;rw[if_pos e],fun S J O P y=> ?_⟩;have ai:p.1≠p.2:=by grind
  have ad:∀y z,p.1<y->y<p.2->aP s 0 y=0->p.1<z->z<p.2->aP s 0 z=0->y<z->False:=fun y z o t D k1 k2 k3 an=>by
   have U:ab y (p2 n):=⟨by have:=G.1;grind,by have:=H.2;grind⟩;have b:ab z (p2 n):=⟨by have:=G.1;grind,by have:=H.2;grind⟩;have v1:=hv.root G U U o byB D;have v2:=hv.root U b b an byB k3;have v3:=hv.mono z p.2 b H k2;dsimp only at J v1 v2 v3;omega
  rw[hg];dsimp only;rw[if_neg ai];constructor
  ·intro k;split at k
   ·rename_i ag;injection k with k;rw[<-k];exact Classical.epsilon_spec ag
   ·cases k
  ·intro k;rw[if_pos ⟨y,k⟩];have F:=Classical.epsilon_spec (p:=fun y=>p.1<y∧y<p.2∧aP s 0 y=0) ⟨y,k⟩;generalize Classical.epsilon (fun y=>p.1<y∧y<p.2∧aP s 0 y=0)=z at *;rcases iY (y-z) with q|q|q
   ·exact(ad y z k.1 k.2.1 k.2.2 F.1 F.2.1 F.2.2 (by grind)).elim
   ·rw[show z=y by grind]
   ·exact(ad z y F.1 F.2.1 F.2.2 k.1 k.2.1 k.2.2 (by grind)).elim
 have ao:∀p∈l,∃y,g p=some y∧(p.1<=y∧y<=p.2):=fun p u=>by
  obtain⟨G,H,K⟩:=Z p u;rcases K with ⟨e,h0⟩|⟨S,O,P,hn⟩
  ·exact⟨p.2,(V p u).1 e (by rw[<-e];exact h0),by grind,byB⟩
  ·have J:(fun x=>aY 0 ((s :: c).map (fun a=>aP a 0 x))) p.1=(fun x=>aY 0 ((s :: c).map (fun a=>aP a 0 x))) p.2+1:=by unfold fF at hn;dsimp only;omega
   have hk:=(V p u).2 S J O P;rcases Classical.em (∃y,p.1<y∧y<p.2∧aP s 0 y=0) with ⟨y,k⟩|aj
   ·exact⟨y,(hk y).2 k,az6 k.1,az6 k.2.1⟩
   ·exfalso;have ak:∀r∈L,r<p.1∨p.2<r:=fun r al=>by
     have b:aP s 0 r=0:=(T r).1 (by rw[Y];exact cy4.2 al);rcases iY (r-p.1) with q|q|q
     ·exact .inl (by grind)
     ·rw[show r=p.1 by grind] at b;exact absurd b O
     ·rcases iY (r-p.2) with q'|q'|q'
      ·exact absurd ⟨r,by grind,by grind,b⟩ aj
      ·rw[show r=p.2 by grind] at b;exact absurd b P
      ·exact .inr (by grind)
    obtain⟨e,he,b⟩:=eyR L ak;obtain⟨q, -, -, -, -, -,ah⟩:=I.1.sq.out;obtain⟨-, -,f,hf,ae⟩:=E;have af:∀z,aX s z*aI (aT f q) z=lD L z:=fun z=>by
     have o:=sH (m:=1) (A:=w) (Q:=s) (B:=q) (C:=[]) (fun i=>by rw[az5,ah,eR];simp) z;have e1:((1:Int):Rat)=1:=rfl;rw[DS,e1] at o;have t:aI A z=f*aX w z:=by
      unfold aX;rw[<-iI];exact oT (fun i=>by rw[ae,mG (fun q=>f*q) (dU _),dS,azF]) z
     have D:aI (aT f q) z=f*aX q z:=by
      unfold aX;rw[<-iI];exact oT (fun i=>by rw[dS,mG (fun q=>f*q) (dU _),dS,azF]) z
     rw[<-Y,t,D];grind
    have am:∀x y,p.1<=x->x<y->y<=p.2->0<aX s x*aX s y:=fun x y o t D=>dqH (l:=aT 1 s) (g:=aT f q) (d:=e) he (fun z z1 z2=>by
     have:=af z;rw[uQ] at this;rw[this];exact b z (by grind) (by grind)) t
    have:=hv.none p.1 p.2 G H S (fun x y o t D _=>by
     have k:=am x y o t D;show aP s 0 y=aP s 0 x
     rcases qX s 0 x with v|v|v
     ·rw[v];have:=(lR s x).1.1 v;refine(lR s y).1.2 ?_;rcases iY (aX s y) with j|j|j
      ·have:=azA this (show 0< -aX s y by grind);grind
      ·rw[j,dU] at k;exact absurd k (by decide)
      ·exact j
     ·rw[(lR s x).2.1.1 v,aqQ] at k;exact absurd k (by decide)
     ·rw[v];have:=(lR s x).2.2.1 v;refine(lR s y).2.2.2 ?_;rcases iY (aX s y) with j|j|j
      ·exact j
      ·rw[j,dU] at k;exact absurd k (by decide)
      ·have:=azA (show 0< -aX s x by grind) j;grind)
    dsimp only at J this;omega
 obtain⟨o,t⟩:=eyA (g:=g) hv X M N W V;have nA:=eyP E I.1
 have hR:R=l.filterMap g:=exZ hs o (fun y=>by
  rw[hm,t];exact⟨fun k=>⟨(YS E.trim nA ac k).1,(YS E.trim nA ac k).2,(T y).1 k⟩,fun k=>(T y).2 k.2.2⟩)
 rw[hR];exact ey9 ao
end Go.Proofs.YtjgbleapffgbcaaGreatDoor
namespace Go.Proofs.YtjgbleapffgbcaaGreatDoor
open Sos Lib
variable{q r:Rat}{m:Nat}{L T b:List Rat}{t:List UInt8}
def eyL{n F:Int}(hF:0<F)(h:q*(F:Rat)=(n:Rat)):(q.den:Int)∣F:=by
 have e:q=Rat.divInt n F:=by
  rw[Rat.divInt_eq_div];have b:(F:Rat)≠0:=gJ (show F≠0 by omega);have:=gW (a:=(n:Rat)) b;rw[<-h] at this⊢;generalize q*(F:Rat)/(F:Rat)=z at *;have k:(q-z)*(F:Rat)=0:=by grind
  rcases Rat.mul_eq_zero.1 k with k|k
  ·grind
  ·exact absurd k b
 obtain⟨m, -, -,f⟩:=Rat.divInt_num_den (n:=n) (d:=F) (n':=q.num) (d':=q.den) (z':=q.den_nz) (c:=q.reduced) (by omega) (by rw[<-e]);exact⟨m,f⟩
def KnI(m:Nat)(T:List Rat):Prop:=∃D:Int,0<D∧(∀q∈T,(q.den:Int)∣D)∧D.natAbs<=2^(17*m)∧∀n∈cC T D,n.natAbs<=2^(20*m)
def KnI.trim(h:KnI m T):KnI m (aW aV T):=by
 obtain⟨D,b,c,d,f⟩:=h;refine⟨D,b,fun q a=>c q (rC a),d,fun n hn=>f n ?_⟩;unfold cC at hn⊢;obtain⟨q,a,e⟩:=List.mem_map.1 hn;exact List.mem_map.2 ⟨q,rC a,e⟩
def KnI.mul(h:KnI m T)(F:T.length<=6)(C:b.length<=3){E:Int}(f:0<E)(v:∀q∈b,(q.den:Int)∣E)(y:E.natAbs<=2^17)(z:∀n∈cC b E,n.natAbs<=2^17):KnI (m+1) (dX T b):=by
 obtain⟨D,c,r,s,t⟩:=h;have d:0<D*E:=Int.mul_pos c f;have j:∀i,cf (dX T b) i*((D*E:Int):Rat)=((conv (cf (cC T D)) (cf (cC b E)) i:Int):Rat):=fun i=>by
  rw[<-dzS T b D E c f r v,xN,NZ];exact gW (gJ (show D*E≠0 by omega))
 have o:∀q∈dX T b,(q.den:Int)∣D*E:=fun q x=>by
  obtain⟨i,a,rfl⟩:=List.mem_iff_getElem.1 x;have:=j i;rw[fZ a] at this;exact eyL d this
 refine⟨D*E,d,o,?_,fun n hn=> ?_⟩
 ·rw[fL,Nat.mul_succ,KF];exact aqK s y
 ·obtain⟨i,a,rfl⟩:=List.mem_iff_getElem.1 hn;have e:=JC (dX T b) (D*E) o i;rw[j,fZ a] at e;rw[Rat.intCast_inj.1 e];have w:i+1<=8:=by
   rw[oN] at a;unfold dX at a;split at a
   ·simp at a
   ·rw[cH,bxZ] at a;omega
  have g:∀{l:List Int} {M:Nat},(∀n∈l,n.natAbs<=M)->∀k,(cf l k).natAbs<=M:=fun {l M} h k=>by
   by_cases p:k<l.length
   ·rw[fZ p];exact h _ (aq0 p)
   ·rw[bV (by omega)];exact dC _
  have u:(conv (cf (cC T D)) (cf (cC b E)) i).natAbs<=(i+1)*(2^(20*m)*2^17):=by
   unfold conv
   refine V8 _ _ _ (fun k _=> ?_);rw[fL];exact aqK (g t k) (g z _)
  refine aH u ?_;rw[show 2^(20*(m+1))=2^(20*m)*2^20 by rw[Nat.mul_succ,KF]];have A:=dK (2^(20*m)*2^17) w;have B:8*(2^(20*m)*2^17)=2^(20*m)*2^20:=by rw[Nat.mul_left_comm]
  omega
def KnI.sz(h:KnI m T)(y:m<=5):(∀q∈T,RL 2 q)∧(aN T->∀D B,ComDen T D B->∀n∈aS (cC T D),nl n.natAbs<=9):=by
 obtain⟨D,p,c,r,s⟩:=h;have x:2^(17*m)<BN^2:=jI (cO (by decide) (show 17*m<=85 by omega)) (by decide);have p2:2^(20*m)<BN^2:=jI (cO (by decide) (show 20*m<=100 by omega)) (by decide);have g:∀n∈cC T D,nl n.natAbs<=2:=fun n hn=>cJ (jI (s n hn) p2);have j:nl D.natAbs<=2:=cJ (jI r x);refine⟨fun q v=> ?_,fun t F B hF n hn=> ?_⟩
 ·obtain⟨i,u,rfl⟩:=List.mem_iff_getElem.1 v;have e:=JC T D c i;rw[fZ u] at e;have f:(D:Rat)≠0:=gJ (show D≠0 by omega);have l:=gW (a:=((cf (cC T D) i:Int):Rat)) f;have w:=pM (n:=cf (cC T D) i) (d:=D) (iU g i) j (by decide);have o:T[i]=((cf (cC T D) i:Int):Rat)/D:=by
   rw[e] at l⊢;generalize T[i]*(D:Rat)/(D:Rat)=z at *;have k:(T[i]-z)*(D:Rat)=0:=by grind
   rcases Rat.mul_eq_zero.1 k with k|k
   ·grind
   ·exact absurd k f
  rw[o];exact w
 ·by_cases b:T=[]
  ·subst b;cases hn
  ·rw[exD hF (⟨p,c,j⟩:ComDen T D 2) t b] at hn;exact aH (gU g n hn) (by decide)
def eyM(h:cL t=some q)(d:t.length<=5):q.num.natAbs<=2^17∧q.den<=2^17:=by
 have e:=tL h;have b:(cW q).length<=5:=by rw[e];exact d
 unfold cW at b;rw[dA,dA] at b;have c:∀{n:Nat},(decDigits n).length<=5->n<=2^17:=fun {n} h=>by
  have a:=tI (oL n);rw[mQ] at a;have f:10^(decDigits n).length<=10^5:=cO (by decide) h;have g:10^5<2^17:=by decide
  omega
 refine⟨c (by omega),?_⟩;by_cases a:q.den=1
 ·rw[a];decide
 ·rw[if_neg a,eG] at b;exact c (by omega)
structure KnP(L:List Rat)(T:List Rat):Prop where
 tr:aN T
 len:T.length<=L.length+1
 ev:∀x,aI T x=lD L x
 kn:KnI L.length T
def KnP.start:KnP [] [1]:=⟨fun a b=>by injection b with b;rw[<-b];decide,aE,fun x=>by show(0:Rat)*x+1=1;grind,1,by decide,fun q c=>by rw[List.mem_singleton.1 c];exact Int.dvd_refl _,by decide,fun n hn=>by
 have e:cC [1] 1=[1]:=by decide
 rw[e] at hn;rw[List.mem_singleton.1 hn];decide⟩
def KnP.step(h:KnP L T)(g:L.length<=4)(d:cL t=some r)(c:t.length<=5):KnP (r :: L) (aW aV (dX T [-r,1])):=by
 obtain⟨f,b⟩:=eyM d c;refine⟨jS _,?_,fun x=> ?_,KnI.trim (h.kn.mul (by have:=h.len;omega) (by show 2<=3;decide) (E:=(r.den:Int)) (by have:=r.den_pos;omega) (fun q a=> ?_) (by rw[dD];exact b) (fun n hn=> ?_))⟩
 ·refine aH (oY aV _) ?_;have:=h.len;unfold dX;split
  ·simp
  ·rw[cH,bxZ,eG,eG,eG,azS];omega
 ·rw[dyG,h.ev];show lD L x*((0*x+1)*x+ -r)=lD L x*(x-r)
  grind
 ·rcases List.mem_cons.1 a with e|e
  ·rw[e];exact Int.dvd_refl _
  ·rw[List.mem_singleton.1 e];exact Int.one_dvd _
 ·unfold cC at hn;obtain⟨q,a,rfl⟩:=List.mem_map.1 hn;have i:0<(r.den:Int):=by have:=r.den_pos;omega
  rcases List.mem_cons.1 a with e|e
  ·rw[e,show(-r).num= -r.num from rfl,show(-r).den=r.den from rfl,Int.tdiv_self (by omega),bx7,azJ];exact f
  ·rw[List.mem_singleton.1 e,show(1:Rat).num=1 from rfl,show(((1:Rat).den:Nat):Int)=1 from rfl,Int.tdiv_one,az5,dD];exact b
def Y4:∀L:List Rat,∃x:Rat,∀r∈L,r<x
 |[]=>⟨0,fun r h=>by cases h⟩
 |a :: L=>by
  obtain⟨x,h⟩:=Y4 L;refine⟨max x a+1,fun r b=> ?_⟩;rcases List.mem_cons.1 b with e|e
  ·rw[e];grind
  ·have:=h r e;grind
def KnP.ne(h:KnP L T):T≠[]:=fun e=>by
 obtain⟨x,a⟩:=Y4 L;have k:=h.ev x;rw[e] at k;have:=a x (cy4.1 k.symm);grind
def KnP.roots(h:KnP L T)(y:Rat):aI T y=0↔y∈L:=by rw[h.ev];exact cy4
def KnP.quad(h:KnP L T)(g:L.length<=4):aN (aW aV (dX T [1,1,1]))∧(aW aV (dX T [1,1,1])).length<=7∧KnI (L.length+1) (aW aV (dX T [1,1,1]))∧aW aV (dX T [1,1,1])≠[]∧∀y,aI (aW aV (dX T [1,1,1])) y=0↔aI T y=0:=by
 have a:∀y:Rat,0<((0*y+1)*y+1)*y+1:=fun y=>by
  have f:0<=(y+1/2)*(y+1/2):=by
   rcases iY (y+1/2) with k|k|k
   ·have:=azA (show 0< -(y+1/2) by grind) (show 0< -(y+1/2) by grind);grind
   ·rw[k,dU];exact byB
   ·exact az6 (azA k k)
  grind
 have c:∀y,aI (aW aV (dX T [1,1,1])) y=aI T y*(((0*y+1)*y+1)*y+1):=fun y=>by rw[dyG];rfl
 have b:∀y,aI (aW aV (dX T [1,1,1])) y=0↔aI T y=0:=fun y=>by
  rw[c];have:=a y;constructor
  ·intro k;rcases Rat.mul_eq_zero.1 k with k|k
   ·exact k
   ·rw[k] at this;exact absurd this (by decide)
  ·intro k;rw[k,aqQ]
 refine⟨jS _,?_,KnI.trim (h.kn.mul (by have:=h.len;omega) (by decide) (E:=1) (by decide) (fun q a=> ?_) (by decide) (fun n hn=> ?_)),fun e=> ?_,b⟩
 ·refine aH (oY aV _) ?_;have:=h.len;unfold dX;split
  ·decide
  ·rw[cH,bxZ,eG,eG,eG,azS];omega
 ·have:q=1:=by simpa using a
  rw[this];exact Int.dvd_refl _
 ·have e:cC [1,1,1] 1=[1,1,1]:=by decide
  rw[e] at hn;have:n=1:=by simpa using hn
  rw[this];decide
 ·obtain⟨x,d⟩:=Y4 L;have k:=(b x).1 (by rw[e];rfl);have:=d x ((h.roots x).1 k);grind
end Go.Proofs.YtjgbleapffgbcaaGreatDoor
namespace Go.Proofs.YtjgbleapffgbcaaGreatDoor
open Go.RowKit Sos Tryz
variable{t x:List UInt8}{r y:Rat}{W a w w':World}{M g j k n:Nat}{c d v:Value}{L Q R T b:List Rat}{ns s:List Int}{D S:Int}
def czP{x y:Int}(a:0<y):x/y=if (x.tmod y).sign<0 then x.tdiv y-1 else x.tdiv y:=by
 have c:=Int.mul_tdiv_add_tmod x y
 have b:(x.tmod y).sign<0↔x.tmod y<0:=⟨fun h=>by
  rcases aqL (x.tmod y) 0 with k|k|k
  ·exact k
  ·rw[k] at h;exact absurd h (by decide)
  ·rw[aqI k] at h;exact absurd h (by decide),fun h=>by rw[aqT h];decide⟩
 have d: -y<x.tmod y:=by
  have:=Int.lt_tmod_of_pos x a;omega
 have e:=Int.tmod_lt_of_pos x a;by_cases h:x.tmod y<0
 ·rw[if_pos (b.2 h)];refine((Int.ediv_emod_unique a (r:=x.tmod y+y)).2 ⟨?_,by omega,by omega⟩).1;rw[Int.mul_sub];omega
 ·rw[if_neg (fun k=>h (b.1 k))];exact((Int.ediv_emod_unique a (r:=x.tmod y)).2 ⟨by omega,by omega,by omega⟩).1
def cqC(x y:Int)(vx vy:Value)(w:World)(i:IntAt w vx x)(c:IntAt w vy y)(j:0<y)(hl:nl x.natAbs+4*nl y.natAbs+4<=17592186044414):
  Calls prog 100 #[vx,vy] w (dW w (x/y)):=by
 obtain⟨s1,T,k1,c1,rfl⟩:=i.form;obtain⟨t,l,r,o,rfl⟩:=c.form;have Z:=aB (czP (x:=x) j);have lq:nl (x.tdiv y).natAbs<=nl x.natAbs:=cK (by rw[Int.natAbs_tdiv];exact azK _ _)
 have lm:nl (x.tmod y).natAbs<=nl y.natAbs:=cK (by
  have:=Int.lt_tmod_of_pos x j;have:=Int.tmod_lt_of_pos x j;omega)
 have L:=fun W h H=>OK x y (.agg #[.bool s1,.slice T k1 c1]) (.agg #[.bool t,.slice l r o]) W h H (by omega) (by omega);have ad:=fun W u h=>qG (x.tmod y) u W h (by omega);have I:=fun W h=>qG y (.agg #[.bool t,.slice l r o]) W h (by omega);rw[aqI j] at I;have N:=fun W u v h H=>OJ (x.tdiv y) 1 u v W h H (by omega) (aH (cJ (m:=1) (by unfold BN;decide)) (by decide));have K:=fun W=>lL 1 W (by decide) (by decide);unfold FD at L;unfold dW at N K;have hS:IntKind.i64.wrap ((x.tmod y).sign*1)=(x.tmod y).sign:=by
  rcases aqL (x.tmod y) 0 with k|k|k
  ·rw[aqT k];rfl
  ·rw[k];rfl
  ·rw[aqI k];rfl
 have aj:IntKind.i64.wrap (x.tmod y).sign=(x.tmod y).sign:=by rw[bx7] at hS;exact hS
 generalize (x.tmod y).sign=S at *;generalize x.tmod y=M at *;generalize x.tdiv y=Q at *;generalize x/y=P at *;clear hl lq lm j;obtain⟨W,eW,a,X,Y,R⟩:=gE w [.bool s1,.slice T k1 c1] 60 [.bool t,.slice l r o] 60 [.bool false,.slice none 0 0] 60;have E:=aa X.g2 (aa Y.g2 R.g2);go_enter func100,ntmps100;go_wp2_with fail;(try rw[eW]);clear eW;replace i:=i.be a;replace c:=c.be a;refine(L _ i c).mono ?_;rintro e4 B ⟨v4,v5,rfl,d,f,ac⟩;obtain⟨z,n,s,p,rfl⟩:=d.form;obtain⟨s5,U,k5,c5,rfl⟩:=f.form;obtain⟨e,e5,af,F,G⟩:=eL B [.bool z,.slice n s p] 60 [.bool s5,.slice U k5 c5] 60;have rl:=R.lt;have n1:w.1.size+1+1≠B.1.size:=by have:=ac.size;omega
 have:=St.mk ac;have:=St.mk af;replace X:=X.up (b:=e);replace Y:=Y.up (b:=e);replace R:=R.up (b:=e);replace a:=bJ (b:=e) a;replace d:=d.up (b:=e);replace f:=f.up (b:=e);replace c:=c.up (b:=e);have ak:=aZ R.lt aE;clear L i X E;have E:=aa Y.k2 (aa R.g2 (aa F.k2 G.k2));go_wp2_with fail;(try rw[e5]);(try clear e5)
 go_region_held3 (fun A=>C2 A (B.1.size+1) (.bool s5) (.slice U k5 c5)∧C2 A (w.1.size+1) (.bool t) (.slice l r o)) (with_reducible exact⟨G.up.k2,Y.up.k2⟩)
  (first|(go_at_call 87;first|(with_reducible refine(ad _ _ f.up).mono ?_;rintro q w6 ⟨rfl,g⟩;have:=St.mk g)|(with_reducible refine(I _ c.up).mono ?_;rintro e7 C ⟨rfl,ag⟩;have:=St.mk ag)))
 all_goals (
  replace R:=R.up (b:=C);replace F:=F.up (b:=C);replace d:=d.up (b:=C);replace a:=bJ (b:=C) a;replace E:=aa R.g2 F.k2;clear ad I G Y c f;by_cases ae:S<0
  ·obtain rfl:P=Q-1:=by rw[Z.out,if_pos ae]
   go_wp2_with fail
   go_region_held3 (fun A=>C2 A B.1.size (.bool z) (.slice n s p)) (first|with_reducible exact F.up.k2|with_reducible exact((F9.far _ _ n1).far _ _ n1).k2)
    (first
     |(go_at_call 40;refine(K _).mono ?_;rintro e8 w8 ⟨v8,rfl,h8,ah⟩;have:=St.mk ah)
     |(go_at_call 138;refine(N _ _ _ d.up h8.up).mono ?_;rintro e9 O ⟨v9,rfl,h9,ai⟩;obtain⟨s9,V,k9,c9,rfl⟩:=h9.form;have:=St.mk ai;have R9:=R.up (b:=O);have F9:=F.up (b:=O);have cR:=R9.g2))
   all_goals (
    go_wp2_with fail;obtain⟨W6,q,D,g,J,ff⟩:=R9.put2 (bJ (b:=O) a) (by omega) (.bool s9) (.slice V k9 c9) rfl rfl;rw[q];exact aM (v:= .agg #[.bool s9,.slice V k9 c9]) (by simp[results,results100,go_sem,D.k2]) rfl ⟨_,rfl,h9.ke J,g⟩)
  ·obtain rfl:P=Q:=by rw[Z.out,if_neg ae]
   clear N K;go_wp2_with fail;obtain⟨W6,q,D,g,J,ff⟩:=R.put2 a (by omega) (.bool z) (.slice n s p) rfl rfl;rw[q];exact aM (v:= .agg #[.bool z,.slice n s p]) (by simp[results,results100,go_sem,D.k2]) rfl ⟨_,rfl,d.ke J,g⟩)
def cqD(q:Rat)(v:Value)(w:World)(hv:RatAt w v q)(K:Nat)(e:RL K q)(D:K<=1099511627776):
  Calls prog 47 #[v] w (dW w q.floor):=by
 obtain⟨n,g,m,i,J,x,H,A,rfl⟩:=hv.form;have s:(0:Int)<(q.den:Int):=by have:=q.den_pos;omega
 have l:=fun W v h=>g9 (bS q) v W h (aH (mY q) (aH e.2 (by omega)));rw[Rat.floor_def];by_cases c:q.den=1
 ·rw[decide_eq_true (fV.2 c)] at l;have z:Hid (q.num/(q.den:Int)=q.num):=by unfold Hid;rw[c];exact Int.ediv_one _
  rw[z.out];clear c s e D z;obtain⟨W,d,a,X,R⟩:=eL w [.bool n,.slice g m i,.bool J,.slice x H A] 76 [.bool false,.slice none 0 0] 60;have j:=aa X.g4 R.g2;go_enter func47,ntmps47;go_wp2_with fail;(try rw[d]);clear d;replace hv:=hv.be a;refine(l _ _ hv.den).mono ?_;rintro O S ⟨rfl,b⟩;replace X:=X.be b;replace R:=R.be b;replace hv:=hv.be b;replace a:=aC a b;replace j:=aa X.k4 R.g2;go_wp2_with fail;obtain⟨N,p,o,r,t,P⟩:=R.put2 a (by omega) (.bool n) (.slice g m i) rfl rfl;rw[p];exact aM (v:= .agg #[.bool n,.slice g m i]) (by simp[results,results47,go_sem,o.k2]) rfl ⟨_,rfl,hv.num.ke t,r⟩
 ·rw[decide_eq_false (fun k=>c (fV.1 k))] at l;have G:=fun W u v h Q=>cqC q.num (q.den:Int) u v W h Q s (by have:=e.1;have:=e.2;rw[dD];omega);have M:Hid (bS q=(q.den:Int)):=mI c;unfold dW at G;generalize q.num/(q.den:Int)=f at *;clear c s e D;obtain⟨W,d,a,X,R⟩:=eL w [.bool n,.slice g m i,.bool J,.slice x H A] 76 [.bool false,.slice none 0 0] 60;have j:=aa X.g4 R.g2;go_enter func47,ntmps47;go_wp2_with fail;(try rw[d]);clear d;replace hv:=hv.be a;refine(l _ _ hv.den).mono ?_;rintro O S ⟨rfl,b⟩;replace X:=X.be b;replace R:=R.be b;replace hv:=hv.be b;replace a:=aC a b;replace j:=aa X.k4 R.g2;have F:=hv.den;rw[M.out] at F;go_wp2_with fail;refine(G _ _ _ hv.num F).mono ?_;rintro T V ⟨U,rfl,C,E⟩;obtain⟨L,y,I,B,rfl⟩:=C.form;replace R:=R.be E;replace a:=aC a E;replace j:=R.g2;go_wp2_with fail;obtain⟨N,p,o,r,t,P⟩:=R.put2 a (by omega) (.bool L) (.slice y I B) rfl rfl;rw[p];exact aM (v:= .agg #[.bool L,.slice y I B]) (by simp[results,results47,go_sem,o.k2]) rfl ⟨_,rfl,C.ke t,r⟩
class Nb(t:TypeId)(cs:List Value)(b:World)(g:outParam Nat):Prop where
 out:Bx b g cs t
instance(t:TypeId)(cs:List Value)(w:World):Nb t cs (w.alloc (.cells cs.toArray t)) w.1.size:=⟨Bx.new w cs t⟩
instance(t:TypeId)(cs:List Value)(a b:World)(g:Nat)[s:St a b][n:Nb t cs a g]:Nb t cs b g:=⟨n.out.be s.out⟩
class Nc(t:TypeId)(cs:List Value)(w:World)(g h:outParam Nat):Prop where
 a:Bx w g cs t
 b:Bx w h cs t
 c:g<h
instance(t:TypeId)(cs:List Value)(w:World)(g:Nat)[n:Nb t cs w g]:Nc t cs (w.alloc (.cells cs.toArray t)) g w.1.size:=⟨n.out.alloc _,Bx.new w cs t,n.out.lt⟩
instance(t:TypeId)(cs:List Value)(a b:World)(g h:Nat)[s:St a b][n:Nc t cs a g h]:Nc t cs b g h:=⟨n.a.be s.out,n.b.be s.out,n.c⟩
instance(priority:=2000)(t:TypeId)(cs:List Value)(w:World)(o:Obj):Nb t cs ((w.alloc o).alloc (.cells cs.toArray t)) (w.1.size+1):=⟨Bx.newAt (w.alloc o) cs t _ (World.size_alloc _ _)⟩
instance(priority:=2000)(t:TypeId)(cs:List Value)(w:World):Nc t cs ((w.alloc (.cells cs.toArray t)).alloc (.cells cs.toArray t)) w.1.size (w.1.size+1):=⟨(Bx.new w cs t).alloc _,Bx.newAt _ cs t _ (World.size_alloc _ _),aqC _⟩
abbrev z2:List Value:=[.bool false,.slice none 0 0]
abbrev z4:List Value:=[.bool false,.slice none 0 0,.bool false,.slice none 0 0]
def U8(a:World)(P:World->Nat->Prop)(s:Value)(w:World):Prop:=∃g,s= .pointer (some ⟨g,0,none⟩)∧a.1.size<=g∧P w g∧Below a.1.size a w
def cz0{P:World->Nat->Prop}[n:Nw a g](h:P w g)(b:Below a.1.size a w):U8 a P (.pointer (some ⟨g,0,none⟩)) w:=⟨g,rfl,n.out,h,b⟩
def cz8(w:World)(b:Nat)(q:Rat):Prop:=∃s A l c s' A' l' c',Bx w b [.bool s,.slice A l c,.bool s',.slice A' l' c'] 76∧RatAt w (.agg #[.bool s,.slice A l c,.bool s',.slice A' l' c']) q
section
variable {W0 w:World}{g:Nat}{q:Rat}{s s':Bool}{A A':Option Addr}{l c l' c':Nat}
def cq0[u:Up W0 w](h:RatAt w (.agg #[.bool s,.slice A l c,.bool s',.slice A' l' c']) q):U8 W0 (cz8 · · q) (.pointer (some ⟨w.1.size,0,none⟩)) (w.alloc (.cells #[.bool s,.slice A l c,.bool s',.slice A' l' c'] 76)):=
 cz0 ⟨_,_,_,_,_,_,_,_,Bx.new _ _ _,h.be ((aG _ _).alloc aE _)⟩ (u.out.alloc u.out.size _)
def cq1[u:Up W0 w][D:Nb 76 z4 w g][n:Nw W0 g](h:RatAt w (.agg #[.bool s,.slice A l c,.bool s',.slice A' l' c']) q):
  U8 W0 (cz8 · · q) (.pointer (some ⟨g,0,none⟩)) ((((w.setCell ⟨g,0,none⟩ (.bool s)).setCell ⟨g,1,none⟩ (.slice A l c)).setCell ⟨g,2,none⟩ (.bool s')).setCell ⟨g,3,none⟩ (.slice A' l' c')):=by
 obtain⟨f,e,a,b,d, -⟩:=D.out.put4 u.out n.out (.bool s) (.slice A l c) (.bool s') (.slice A' l' c') rfl rfl;rw[e];exact cz0 ⟨_,_,_,_,_,_,_,_,a,h.ke d⟩ b
def cq2[D:Nb 76 z4 w g]:C4 w g (.bool false) (.slice none 0 0) (.bool false) (.slice none 0 0)∧Fz w g:=D.out.g4
end
def cyX(q:Rat):List Value:=[.string ⟨(cW q).toArray⟩]
def dx1(n:Nat):∀y∈Builtin.zeroCells (Value.string ⟨#[]⟩).cells n,NoInt y:=fun y b=>by
 unfold Builtin.zeroCells at b;obtain⟨j,_,rfl⟩:=Array.mem_map.1 b;have a:(Value.string ⟨#[]⟩).cells= #[Value.string ⟨#[]⟩]:=rfl;rw[a];have a:(#[Value.string ⟨#[]⟩]:Array Value).size=1:=rfl;rw[a,Nat.mod_one];exact NoInt.string _
def GrowD.strs(h:GrowD w j 9 1 v (R.map cyX)):StrsAt w v (R.map cW):=by
 obtain⟨A,c,rfl,d⟩:=h.form;rw[cH] at d;refine⟨A,c,by rw[cH,cH],by rw[cH];exact d,?_⟩;cases R with
 |nil=>exact .inl rfl
 |cons o R=>
  obtain⟨b,e, -,m, -⟩:=h.at_ (i:=0) (r:=cyX o) rfl;refine .inr ⟨b,0,e,m,fun i t f=> ?_⟩;rw[iK] at f;obtain⟨q,n,rfl⟩:=Option.map_eq_some_iff.1 f;obtain⟨p,a, -, -,k⟩:=h.at_ (i:=i) (r:=cyX q) (by rw[iK,n];rfl);rw[e] at a;simp only[Option.some.injEq,Addr.mk.injEq] at a;obtain⟨rfl,_⟩:=a;have:=k 0 _ rfl;rwa [az9,gQ,<-bA i] at this
def cq3{α β:Type}{f:α->Option β}{l:List α}{p:α}(h:l[j]? =some p):(l.take (j+1)).filterMap f=(l.take j).filterMap f++(f p).toList:=by
 rw[Q9,h,aqO,List.filterMap_append];cases hf:f p with
 |none=>rw[List.filterMap_cons_none hf];rfl
 |some y=>rw[List.filterMap_cons_some hf];rfl
def bqU(w:World)(g:Nat)(a b:Rat):Prop:=∃s1 c l h p d m i q e n j r f o k,Bx w g [.bool s1,.slice c l h,.bool p,.slice d m i,.bool q,.slice e n j,.bool r,.slice f o k] 85∧RatAt w (.agg #[.bool s1,.slice c l h,.bool p,.slice d m i]) a∧RatAt w (.agg #[.bool q,.slice e n j,.bool r,.slice f o k]) b
def Bx.put84{B b:Nat}{t:TypeId}{cs:List Value}(h:Bx W b cs t)(A:Below B w W)(c:B<=b)(o:Nat)(e f i j:Value)(hn:(cS cs[o]? &&(cS cs[o+1]? &&(cS cs[o+2]? &&cS cs[o+3]?)))=true):
  ∃a,(((W.setCell ⟨b,o,none⟩ e).setCell ⟨b,o+1,none⟩ f).setCell ⟨b,o+2,none⟩ i).setCell ⟨b,o+3,none⟩ j=a∧Bx a b ((((cs.set o e).set (o+1) f).set (o+2) i).set (o+3) j) t∧Below B w a∧Keep W a∧∀{g:Nat} {cs:List Value} {t:TypeId},Bx W g cs t->b≠g->Bx a g cs t:=by
 simp only[az7] at hn;obtain⟨G,rfl,v,l,C,q⟩:=h.put1 A c o e hn.1;obtain⟨H,rfl,x,m,D,r⟩:=v.put1 l c (o+1) f (by rw[lI (by omega)];exact hn.2.1);obtain⟨I,rfl,y,n,E,s⟩:=x.put1 m c (o+2) i (by rw[lI (by omega),lI (by omega)];exact hn.2.2.1);obtain⟨J,rfl,z,p,F,u⟩:=y.put1 n c (o+3) j (by rw[lI (by omega),lI (by omega),lI (by omega)];exact hn.2.2.2);exact⟨_,rfl,z,p,((C.trans D).trans E).trans F,fun k d=>u (s (r (q k d) d) d) d⟩
def bq6(x y:Rat):0<(x-y).num.sign↔y<x:=by
 rcases iY (x-y) with h|h|h
 ·rw[(fS _).2 h];exact⟨fun k=>absurd k (by decide),fun k=>by grind⟩
 ·rw[h];exact⟨fun k=>absurd k (by decide),fun k=>by grind⟩
 ·rw[(fS _).1 h];exact⟨fun _=>by grind,fun _=>by decide⟩
def bq7(w:World)(K:Nat)(R:Rat×Rat)(e:Ending)(w':World):Prop:=∃a,e= .returned a∧SpanAt w' a R.1 R.2∧RL K R.1∧RL K R.2∧Below w.1.size w w'
def bxV(s:List Int)(x d L:Rat)(n:Nat)(R:Rat×Rat)(S:Int)(k:Nat)(a b:Rat):Prop:=azN (fun z=>aP s 0 z) L k a b=R∧b-a<=L*2^k∧aP s 0 a=S∧∃i j,j+k=n∧i+1<=2^j∧a=azB x d i j∧b=azB x d (i+1) j
def bq8{x d L:Rat}{R:Rat×Rat}{a b:Rat}(h:bxV s x d L n R S (k+1) a b)(o:L<b-a):(aP s 0 ((a+b)/2)=0->R=((a+b)/2,(a+b)/2))∧(aP s 0 ((a+b)/2)≠0->aP s 0 ((a+b)/2)=S->bxV s x d L n R S k ((a+b)/2) b)∧(aP s 0 ((a+b)/2)≠0->aP s 0 ((a+b)/2)≠S->bxV s x d L n R S k a ((a+b)/2))∧∃i j,j<=n∧i<=2^j∧(a+b)/2=azB x d i j:=by
 obtain⟨l,v,m,i,j,w,y,rfl,rfl⟩:=h;obtain⟨q,g⟩:=bqH x d i j;have r:=(bqH x d (i+1) j).1;obtain⟨t,u⟩:=cxA v;have p:(2:Nat)^(j+1)=2^j*2:=dH ..;refine⟨fun c=>by rw[<-l,bq0 o c],fun c f=>⟨by rw[<-l,bq1 o c (f.trans m.symm)],u,f,2*i+1,j+1,by omega,by omega,g,r.symm⟩,fun c f=>⟨by rw[<-l,bq2 o c (fun e=>f (e.trans m))],t,m,2*i,j+1,by omega,by omega,q.symm,g⟩,2*i+1,j+1,by omega,by omega,g⟩
def bqV(s:List Int)(x y L:Rat)(n K:Nat)(Q:Rat×Rat)(hR:azN (fun z=>aP s 0 z) L n x y=Q)(v u g:Value)(w:World)(O:Glob w)(hv:WholeAt w v s)(hs:Sz s)(hu:SpanAt w u x y)(hg:RatAt w g L)(hf:y-x<=L*2^n)(hp:∀j i,j<=n->i<=2^j->RL K (azB x (y-x) i j))(kL:RL K L)(am:150<=K)(a3:K<=268435456):
  Calls prog 44 #[v,u,g] w (bq7 w K Q):=by
 obtain⟨A,c,rfl,hc⟩:=hv.form;obtain⟨s1,V,k1,c1,s2,Z,k2,c2,s3,A3,k3,c3,s4,A4,k4,c4,rfl,hx,hy⟩:=hu;obtain⟨s5,A5,k5,c5,s6,A6,k6,c6,rfl⟩:=hg.form;obtain⟨q0,q1⟩:=bqG x (y-x);have U:x+(y-x)=y:=by grind
 obtain⟨S,hS⟩:∃S,aP s 0 x=S:=⟨_,rfl⟩;have al:bxV s x (y-x) L n Q S n x y:=⟨hR,hf,hS,0,0,bA n,aE,q0.symm,by rw[q1];exact U.symm⟩;have kx:RL K x:=by have:=hp 0 0 (dC _) (dC _);rwa [q0] at this
 have d:∀k a b,bxV s x (y-x) L n Q S k a b->RL K a∧RL K b:=fun k a b h=>by
  obtain⟨-, -, -,i,j,h4,h5,rfl,rfl⟩:=h;exact⟨hp j i (by omega) (by omega),hp j (i+1) (by omega) h5⟩
 have kn:=hs.nums;have a2:=hs.1;have hw:=fun z u W h E (kz:RL K z)=>CB s z (.slice A s.length c) u W h E K (fun n hn=>aH (kn n hn) am) kz (by omega) (by omega);have ah:=fun z u W (kz:RL K z) h=>qG (fE s z.num z.den) u W h (aH (ayB (fun n hn=>aH (kn n hn) am) kz (by omega)) (by omega));have aj:∀z:Rat,(fE s z.num z.den).sign=aP s 0 z:=fun z=>by unfold aP;rw[if_pos rfl]
 have g1:=fun W u h=>ah x u W kx h;rw[aj,hS] at g1;unfold dW at hw;clear q0 q1 U hS hR hf kn a2 hs;obtain⟨W,eW,l,X,Y,R⟩:=gE w [.bool s1,.slice V k1 c1,.bool s2,.slice Z k2 c2,.bool s3,.slice A3 k3 c3,.bool s4,.slice A4 k4 c4] 85 [.bool s5,.slice A5 k5 c5,.bool s6,.slice A6 k6 c6] 76 [.bool false,.slice none 0 0,.bool false,.slice none 0 0,.bool false,.slice none 0 0,.bool false,.slice none 0 0] 85;have cM:=aa X.g8 (aa Y.g4 R.g8);go_enter func44,ntmps44;go_wp2_with fail;(try rw[eW]);clear eW;refine(hw x _ _ (hv.be l) (hx.be l) kx).mono ?_;rintro e1 w1 ⟨v1,rfl,h1,au⟩;have:=St.mk au;go_wp2_with fail;refine(g1 _ _ h1).mono ?_;rintro e2 w2 ⟨rfl,av⟩;have:=St.mk av;replace X:=X.up (b:=w2);replace Y:=Y.up (b:=w2);replace R:=R.up (b:=w2);replace l:=bJ (b:=w2) l;replace hx:=hx.be l;replace hy:=hy.be l;clear cM g1 h1 kx;go_wp2_with fail;go_loopg [] n (fun k wr=>∃a b,bxV s x (y-x) L n Q S k a b∧bqU wr w.1.size a b∧Bx wr (w.1.size+1) [.bool s5,.slice A5 k5 c5,.bool s6,.slice A6 k6 c6] 76∧Bx wr (w.1.size+1+1) [.bool false,.slice none 0 0,.bool false,.slice none 0 0,.bool false,.slice none 0 0,.bool false,.slice none 0 0] 85∧Below w.1.size w wr)
 case atStart=>exact⟨x,y,al,⟨_,_,_,_,_,_,_,_,_,_,_,_,_,_,_,_,X,hx,hy⟩,Y,R,l⟩
 case round=>
  clear al hx hy X Y R l;obtain⟨a,b,HN,⟨s1,V,k1,c1,s2,Z,k2,c2,s3,A3,k3,c3,s4,A4,k4,c4,X,ha,ao⟩,Y,R,l⟩:=hrel;generalize wr=wy at *;obtain⟨ka,kb⟩:=d _ _ _ HN;have ai:=fun W u v O h E=>cx0 b a u v W O h E K kb ka (by unfold aJ;omega);have ae:=fun W u v h E=>BY (b-a) L u v W h E (2*K+1) (bU (JM kb ka) (by omega)) (bU kL (by omega)) (by omega);have an:=bq6 (b-a) L;generalize (b-a-L).num.sign=Sg at *;unfold iF at ai;unfold eO at ae;have ar:=O.be l;have a1:=hg.be l;have ac:=aB HN;have ad:=aB an;clear HN an;have cM:=aa X.k8 Y.k4;go_wp2_with fail
  go_region_held3 (fun w'=>C8 w' w.1.size (.bool s1) (.slice V k1 c1) (.bool s2) (.slice Z k2 c2) (.bool s3) (.slice A3 k3 c3) (.bool s4) (.slice A4 k4 c4)∧C4 w' (w.1.size+1) (.bool s5) (.slice A5 k5 c5) (.bool s6) (.slice A6 k6 c6)) (with_reducible exact⟨X.up.k8,Y.up.k4⟩)
   (first
    |(go_at_call 65;refine(ai _ _ _ ar.up ao.up ha.up).mono ?_;rintro e4 w4 ⟨v4,rfl,h4,aw⟩;have:=St.mk aw)
    |(go_at_call 48;refine(ae _ _ _ h4.up a1.up).mono ?_;rintro e5 w5 ⟨rfl,ax⟩;have:=St.mk ax))
  all_goals (
   have t:=X.up (b:=w5);have B:=Y.up (b:=w5);have o:=R.up (b:=w5);have a5:=ha.up (b:=w5);have b5:=ao.up (b:=w5);have zb:=bJ (b:=w5) l;have ak:=aa t.g8 (aa B.k4 o.g8);by_cases ap:0<Sg
   ·have af:=ad.out.1 ap;cases gk with
    |zero=>exact absurd af (bqF ac.out.2.1)
    |succ k=>
     have H:=aB (bq8 ac.out af);have km:RL K ((a+b)/2):=by
      obtain⟨-, -, -,i,j,hj,hi,e⟩:=H.out;rw[e];exact hp j i hj hi
     have ag:=fun W v O h=>ZW (fun _ _=>True) a b v W O h K ka kb (by omega) (by omega) (fun x y _ kx ky W u v O h E=>UW x y u v W O h E K kx ky (by unfold aJ;omega)) trivial;unfold iF at ag;generalize (a+b)/2=m at *;have gm:=fun W u h=>ah m u W km h;rw[aj] at gm;have aq:=fun u W h E=>hw m u W h E km;clear aj ah hw af ae ai ac ad d hp;generalize aP s 0 m=Sm at *;go_wp2_with fail;refine(ag _ _ (O.be zb) (SpanAt.of a5 b5)).mono ?_;rintro f w6 ⟨v6,rfl,p,F⟩;obtain⟨J,q,G,C,N,r,I,D,rfl⟩:=p.form;obtain⟨w7,e7,ay,M⟩:=bI w6 [.bool J,.slice q G C,.bool N,.slice r I D] 76;have:=St.mk F;have:=St.mk ay;replace p:=p.up (b:=w7);replace t:=t.up (b:=w7);replace B:=B.up (b:=w7);replace o:=o.up (b:=w7);replace zb:=bJ (b:=w7) zb;have ak:=aa t.g8 (aa B.k4 (aa o.g8 M.k4));go_wp2_with fail;(try rw[e7]);(try clear e7);refine(aq _ _ (hv.be zb) p).mono ?_;rintro e8 w8 ⟨v8,rfl,h8,az⟩;have:=St.mk az;go_wp2_with fail;refine(gm _ _ h8).mono ?_;rintro e9 P ⟨rfl,a0⟩;have:=St.mk a0;replace p:=p.up (b:=P);replace a5:=a5.up (b:=P);replace b5:=b5.up (b:=P);replace t:=t.up (b:=P);replace B:=B.up (b:=P);replace o:=o.up (b:=P);replace M:=M.up (b:=P);replace zb:=bJ (b:=P) zb;have ak:=aa t.g8 (aa B.k4 (aa o.g8 M.k4));clear ag gm aq;by_cases hz:Sm=0
     ·subst hz;obtain rfl:=H.out.1 rfl;clear H;go_wp2_with fail;obtain⟨W6,f,R6,F,d⟩:=o.put8 zb (by omega) (.bool J) (.slice q G C) (.bool N) (.slice r I D) (.bool J) (.slice q G C) (.bool N) (.slice r I D) rfl;rw[f];exact aM (v:= .agg #[.bool J,.slice q G C,.bool N,.slice r I D,.bool J,.slice q G C,.bool N,.slice r I D]) (by simp[results,results44,go_sem,R6.k8]) rfl ⟨_,rfl,SpanAt.of (p.ke d) (p.ke d),km,km,F⟩
     ·have a6:(Sm==0)=false:=beq_eq_false_iff_ne.2 hz;by_cases U:Sm=S
      ·subst U;have HR:=aB (H.out.2.1 hz rfl);clear H hz;go_wp2_with fail;obtain⟨W6,f,T,F,d,ff⟩:=t.put84 zb (by omega) 0 (.bool J) (.slice q G C) (.bool N) (.slice r I D) rfl;simp only[Nat.reduceAdd] at f;rw[f];clear f;replace T:Bx W6 w.1.size [.bool J,.slice q G C,.bool N,.slice r I D,.bool s3,.slice A3 k3 c3,.bool s4,.slice A4 k4 c4] 85:=T;go_roundg k
       case rel=>exact⟨m,b,HR.out,⟨_,_,_,_,_,_,_,_,_,_,_,_,_,_,_,_,T,p.ke d,b5.ke d⟩,ff B (by omega),ff o (by omega),F⟩
       case measure=>omega
      ·have a4:(Sm==S)=false:=beq_eq_false_iff_ne.2 U;have HR:=aB (H.out.2.2.1 hz U);clear H hz U;go_wp2_with fail;obtain⟨W6,f,T,F,d,ff⟩:=t.put84 zb (by omega) 4 (.bool J) (.slice q G C) (.bool N) (.slice r I D) rfl;simp only[Nat.reduceAdd] at f;rw[f];clear f;replace T:Bx W6 w.1.size [.bool s1,.slice V k1 c1,.bool s2,.slice Z k2 c2,.bool J,.slice q G C,.bool N,.slice r I D] 85:=T;go_roundg k
       case rel=>exact⟨a,m,HR.out,⟨_,_,_,_,_,_,_,_,_,_,_,_,_,_,_,_,T,a5.ke d,p.ke d⟩,ff B (by omega),ff o (by omega),F⟩
       case measure=>omega
   ·obtain rfl:(a,b)=Q:=by rw[<-ac.out.1,byW (fun e=>ap (ad.out.2 e))]
    clear ac ad;go_wp2_with fail;obtain⟨W6,f,R6,F,d⟩:=o.put8 zb (by omega) (.bool s1) (.slice V k1 c1) (.bool s2) (.slice Z k2 c2) (.bool s3) (.slice A3 k3 c3) (.bool s4) (.slice A4 k4 c4) rfl;rw[f];exact aM (v:= .agg #[.bool s1,.slice V k1 c1,.bool s2,.slice Z k2 c2,.bool s3,.slice A3 k3 c3,.bool s4,.slice A4 k4 c4]) (by simp[results,results44,go_sem,R6.k8]) rfl ⟨_,rfl,SpanAt.of (a5.ke d) (b5.ke d),ka,kb,F⟩
  )
def czA(w:World)(a:List (List UInt8))(e:Ending)(w':World):Prop:=∃b R,e= .returned (.tuple #[b,.int .i64 (dM a)])∧StrsAt w' b (R.map cW)∧(dM a=0->czB (aU a) R)∧(dM a≠0->R=[])∧R.length<=8∧Below w.1.size w w'
def ez1(d:List (List UInt8))(K:Nat)(v:Value)(w:World)(a:Glob w)(hv:StrsAt w v d)(hl:d.length<=7)(hs:∀l∈d,l.length<=1073741824)(bk:∀q∈aU d,RL K q)(es:K<=1024)(T:aN (aU d)->∀D B,ComDen (aU d) D B->∀n∈aS (cC (aU d) D),nl n.natAbs<=9):
  Calls prog 10 #[v] w (czA w d):=by
 obtain⟨A,c,rfl,hc⟩:=hv.form;have am:=fun W a h=>dyQ d K (.slice A d.length c) W a h hl hs bk (by omega);have dc:(aU d).length=d.length:=cH _;have a2:=uL d;unfold XS at am;unfold czA;obtain⟨E,hE⟩:∃E,dM d=E:=⟨_,rfl⟩;rw[hE] at am a2⊢;clear hE;go_enter func10,ntmps10;go_wp2_with fail;refine(am _ a hv).mono ?_;rintro e1 w1 ⟨A1,k1,c1,fg,rfl,⟨s2,A2,k2,c2,rfl⟩,ae,I⟩;obtain⟨w2,e2,bp,F⟩:=bI w1 [.bool s2,.slice A2 k2 c2] 60;replace I:=aC I bp;rcases a2 with ⟨rfl,ba,h0⟩|⟨rfl, -⟩|⟨rfl, -, -⟩;rotate_left
 ·skip;clear ae am;go_wp2_with fail;(try rw[e2]);(try clear e2);go_ret2;exact⟨_,[],rfl,StrsAt.nil _ _ _,fun h=>absurd h (by decide),fun _=>rfl,dC _,I⟩
 ·skip;clear ae am;go_wp2_with fail;(try rw[e2]);(try clear e2);go_ret2;exact⟨_,[],rfl,StrsAt.nil _ _ _,fun h=>absurd h (by decide),fun _=>rfl,dC _,I⟩
 obtain⟨D, -, -,ak,hx, -⟩:=ae rfl;replace hx:=hx.be bp;have cx:(cC (aU d) D).length=d.length:=by rw[oN,dc]
 have bu:cC (aU d) D≠[]:=fun e=>h0 (bX (by rw[<-cx,e];rfl));have b2:=oO ak.pos ak.dvd (pJ ba).2.2;have cz:=sA _ D K _ bk ak.nl_;have bx:=nM (uE ak (pJ ba).2.2);have da:=xZ (nI b2 bu);have b7:=T (pJ ba).2.2 D _ ak;have dk:(aS (cC (aU d) D)).length<=7:=by rw[dF];omega
 obtain⟨A8,c8,e8, -⟩:=hx.form;simp only[Value.slice.injEq] at e8;obtain⟨rfl,rfl,rfl⟩:=e8;have df:=fun W a h=>dxZ (cC (aU d) D) _ (.slice A1 (cC (aU d) D).length c1) W a h b2 bu (by omega) cz (by omega) b7;clear am ae ak cx bu b2 cz bk dc h0 ba F bp T hs;generalize cC (aU d) D=ns at *;go_wp2_with fail;(try rw[e2]);(try clear e2);refine(df _ (a.be I) hx).mono ?_;rintro e3 w3 ⟨v3,s,rfl,h3,t,r,dw⟩;obtain⟨As,cs,rfl,cu⟩:=h3.form;replace I:=aC I dw;replace a:=a.be I;obtain⟨n,hn,bz⟩:=cqI r;have bw:=czC t.ne t.ts;have db:=cqS t da;have ec:=r.1;have kI:=cz3 r;have kW:=czD r bw;have M:=fun W h=>wS s (.slice As s.length cs) W h t.ne (by omega);have bm:∀W v,IntAt W v (cf s (s.length-1))->Calls prog 38 #[v] W (dW W (eT s)):=fun W v h=>J3 (cf s (s.length-1)) v W h;have bv:=fun W=>lL 1 W (by decide) (by decide);have b0:∀W u,IntAt W u (eT s)->Calls prog 41 #[u,.int .u64 1] W (dW W (eT s*2^1)):=fun W u h=>YZ (eT s) 1 u W h (by decide) (by omega);have a4:=fun W u v a h z=>I3 1 (eT s*2^1) u v W a h z 152 (aH (cJ (m:=1) (by unfold BN;decide)) (by decide)) (by have:=gT (eT s) (2^1) 150 1 kI (cJ (m:=1) (by unfold BN;decide));omega) (by unfold aJ;decide);rw[(cz6 bw).1] at a4;have au:=fun W a h=>UK s (.slice As s.length cs) W a h t.ne t.ts 150 r.nums (by omega) (by decide) (by decide);rw[czJ (uD t.ts) t.ts t.ne] at au;have dj:=L4 (CU r.nums (by decide)) (by decide)
 have a7:=fun u W a h z=>ay8 s (jF (cE s)) n 1000000000 (fun l=>∃c,CnZ (aS ns) s c∧cz2 s c n l) (.slice As s.length cs) u W a h z t.ts t.ne r bz hn (bU dj (by decide)) (by decide) (by decide) (fun _ _=>True) (fun x y _ o ky W u v a h z=>UW x y u v W a h z 1000000000 o ky (by unfold aJ;decide)) (fun c hc=>by
  have hC:CnZ (aS ns) s c:=⟨⟨t.mono (by decide),hc⟩,t,r,dk,b7⟩;obtain⟨l,h1,h2,h3⟩:=cqH hC bx.2.1 hn;exact⟨l,h1,h2,c,hC,h3⟩)
 obtain⟨N,hN⟩:∃N,N=64*(152+1500000+1500000+1):=⟨_,rfl⟩;have ca:Hid (∀c l,CnZ (aS ns) s c->cz2 s c n l->czB (aU d) (l.filterMap (kQ s N))∧l.length<=8∧∀p∈l,RrP s N p):=fun c l hC hI=>⟨⟨_,s,c,n,l,N,bx,hC,db,bz,hn,hI,hN,rfl⟩,hI.2.2,fun p hp=>hI.2.1 p hp N hN⟩;have a9:=fun (p:Rat×Rat) (T:RrP s N p) W u v a h h1 h2=>bqV s p.1 p.2 (V9 s) N 12000400 (RA s N p) rfl (.slice As s.length cs) u v W a h r h1 h2 T.fu T.pr (bU kW (by decide)) (by decide) (by decide);have bc:=fun W u h=>BZ (eT s) u W h;have a8:=fun (x:Rat) (o:RL 12000400 x) W u v a h z=>dx0 x (eT s:Rat) u v W a h z 12000400 o (bU (czF r) (by decide)) (by unfold aJ;decide);have a3:=fun (x:Rat) (o:RL 12000400 x) W u h=>cqD (x*(eT s:Rat)) u W h 12000550 (cz1 r o).1 (by decide);have a5:∀(x:Rat),RL 12000400 x->∀W u v,Glob W->IntAt W u (x*(eT s:Rat)).floor->IntAt W v (eT s)->Calls prog 39 #[u,v] W (iF W (rT s x)):=fun x o W u v a h z=>I3 (x*(eT s:Rat)).floor (eT s) u v W a h z 12000550 (czE (cz1 r o).1) (aH kI (by decide)) (by unfold aJ;decide);have b5:=fun (x:Rat) (o:RL 12000400 x)=>(cz1 r o).2;have bb:=fun (x:Rat) (o:RL 12000550 x) W u h z=>CB s x (.slice As s.length cs) u W h z 12000550 (fun n hn=>aH (r.nums n hn) (by decide)) o (by omega) (by decide);have bs:=fun (x:Rat) (o:RL 12000550 x) W u h=>g9 (fE s x.num x.den) u W h (aH (ayB (fun n hn=>aH (r.nums n hn) (by decide)) o (by omega)) (by decide));have b1:=fun x=>ax0 s x;unfold dW at M bm bv b0 bb;unfold iF at a4 au bc a8 a5;unfold dW at a3;unfold DT at a7;unfold bq7 at a9;clear df hx t r bx da b7 dk bw db bz hn dj kI kW hN ec;have ei:=aB cu;clear cu;generalize jF (cE s)=bq at *;generalize cf s (s.length-1)=cl at *;generalize s.length=sl at *;go_wp2_with fail;refine(M _ h3).mono ?_;rintro e4 w4 ⟨v4,rfl,h4,dx⟩;have:=St.mk dx;go_wp2_with fail;refine(bm _ _ h4).mono ?_;rintro e5 w5 ⟨v5,rfl,h5,dy⟩;obtain⟨s5,A5,k5,c5,rfl⟩:=h5.form;obtain⟨w6,e6,d0,G⟩:=bI w5 [.bool s5,.slice A5 k5 c5] 60;have:=St.mk dy;have:=St.mk d0;have O:=h3.up (b:=w6);have S:=h5.up (b:=w6);have J:=a.up (b:=w6);have L:=bJ (b:=w6) I;have cG:=G.k2;have gl:=G.lt;clear M bm h4;go_wp2_with fail;(try rw[e6]);(try clear e6);generalize w5.1.size=gG at *;go_cut [8] (fun s8 wx=>U8 w6 (cz8 · · (V9 s)) s8 wx)
 case first=>
  clear a9 bc a8 a3 a5 b5 bb bs b1 a7 au
  go_region_held3 (fun w'=>C2 w' gG (.bool s5) (.slice A5 k5 c5)) (with_reducible exact G.up.k2)
   (first
    |(go_at_call 40;refine(bv _).mono ?_;rintro e7 w7 ⟨v7,rfl,h7,d3⟩;have:=St.mk d3)
    |(go_at_call 41;refine(b0 _ _ S.up).mono ?_;rintro e8 w8 ⟨v8,rfl,h8,d4⟩;have:=St.mk d4)
    |(go_at_call 39;refine(a4 _ _ _ J.up h7.up h8.up).mono ?_;rintro e9 w9 ⟨v9,rfl,h9,br⟩;obtain⟨s9,A9,k9,c9,s0,A0,k0,c0,rfl⟩:=h9.form;have:=St.mk br;(try have D:=cq2 (w:=w9))))
  all_goals (
   go_wp2;go_meet
   first|(with_reducible exact cq0 h9)|(with_reducible exact cq1 h9))
 case rest=>
  obtain⟨gH,rfl,ev,⟨s6,A6,k6,c6,s7,A7,k7,c7,H,hH⟩,aj⟩:=hcut;clear bv b0 a4 cG;have:=St.mk aj;replace G:=G.be aj;replace O:=O.be aj;replace S:=S.be aj;replace J:=J.be aj;replace L:=aC L aj;go_wp2_with fail;refine(au _ J O).mono ?_;rintro en fh ⟨fb,rfl,ch,Y⟩;have:=St.mk Y;replace G:=G.be Y;replace H:=H.be Y;replace hH:=hH.be Y;replace O:=O.be Y;replace S:=S.be Y;replace J:=J.be Y;replace L:=aC L Y;go_wp2_with fail;refine(a7 _ _ J O ch).mono ?_;rintro eo b8 ⟨fc,ek,l,rfl,⟨cc,ck,cp⟩,bh,Z⟩;obtain⟨ae,ea,cy⟩:=ca.out cc l ck cp;have HK:=aB ae;clear ae ck cp ca;have:=St.mk Z;replace G:=G.be Z;replace H:=H.be Z;replace hH:=hH.be Z;replace O:=O.be Z;replace S:=S.be Z;replace J:=J.be Z;replace L:=aC L Z;obtain⟨eh,el,rfl,eu⟩:=bh.form;clear au a7 ch h3 h5 a I;go_wp2_with fail;go_loopg [9,36] l.length (fun k vf i wr=>∃j,Hid (j+k=l.length)∧i= .int .i64 j∧GrowD wr b8.1.size 9 1 vf (((l.take j).filterMap (kQ s N)).map cyX)∧Below b8.1.size b8 wr)
  case atStart=>exact⟨0,by unfold Hid;omega,rfl,GrowD.nil,aG _ _⟩
  case round=>
   obtain⟨j,HJ,rfl,g,hw⟩:=hrel;generalize wr=wy at *;have ex:(0:Int)<=(j:Int):=by omega
   have d5:=aC L hw;obtain⟨Af,nf,em,rfl⟩:=g.form3;cases gk with
   |zero=>
    have hj:j=l.length:=HJ.out;subst hj;rw[aq9] at g;have hI:=g.strs;have d9:=aH (List.length_filterMap_le (kQ s N) l) ea;clear g;go_wp2;go_ret2;exact⟨_,rfl,_,hI,HK.out,d9,d5⟩
   |succ k=>
    have d8:j<l.length:=by have:=HJ.out;omega
    have ey:(j:Int)<(l.length:Int):=by omega
    obtain⟨p,hp⟩:∃p,l[j]? =some p:=⟨_,aR d8⟩;have T:=cy p (dG hp);have ah:=aB (cq3 (f:=kQ s N) hp);obtain⟨b,s1,A1,k1,c1,s2,A2,k2,c2,s3,A3,k3,c3,s4,A4,k4,c4,rfl,et,a2,de⟩:=(bh.be hw).get hp;have cq:=fun W u v a h h1 h2=>a9 p T W u v a h h1 h2;have HR:Hid (kQ s N p=if (RA s N p).1<=rT s (RA s N p).2∧aP s 0 (rT s (RA s N p).2)=0 then some (rT s (RA s N p).2) else none):=rfl;have d6:(((l.take j).filterMap (kQ s N)).map cyX).length<=1073741824:=by
     have:=List.length_filterMap_le (kQ s N) (l.take j);rw[bK] at this;rw[cH];omega
    generalize RA s N p=Q at *;generalize kQ s N p=op at *;generalize (l.take j).filterMap (kQ s N)=Rj at *;generalize cr:(l.take (j+1)).filterMap (kQ s N)=Rk at *;have ag:=aB cr;clear T a9 hp cy cr bh;obtain⟨fi,cd,aq,X⟩:=bI wy [.bool s1,.slice A1 k1 c1,.bool s2,.slice A2 k2 c2,.bool s3,.slice A3 k3 c3,.bool s4,.slice A4 k4 c4] 85;have aw:=aC hw aq;have cX:=aa X.k8 (H.be aw).k4;go_wp2_with fail;(try rw[cd]);(try clear cd);refine(cq _ _ _ (J.be aw) (O.be aw) (de.be aq) (hH.be aw)).mono ?_;rintro ep fj ⟨fd,rfl,⟨s1,A1,k1,c1,s2,A2,k2,c2,s3,A3,k3,c3,s4,A4,k4,c4,rfl,al,a6⟩,kl,kh,bn⟩;replace X:=X.be bn;have di:=aC aq bn;clear cX cq a2 de H hH;have cX:=X.g8;go_upto_region 12 with fail;obtain⟨dq,ce,bg,b6,bt⟩:=X.put8 di aE (.bool s1) (.slice A1 k1 c1) (.bool s2) (.slice A2 k2 c2) (.bool s3) (.slice A3 k3 c3) (.bool s4) (.slice A4 k4 c4) rfl;rw[ce];clear ce cX;replace al:=al.ke bt;replace a6:=a6.ke bt;have af:=aC hw b6;replace g:=g.be b6;have ci:=O.be af;have bj:=S.be af;have b9:=G.be af;have az:=J.be af;have hm:=a8 Q.2 kh;have hF:=a3 Q.2 kh;have hX:=a5 Q.2 kh;have o:=b5 Q.2 kh;have hA:=bb (rT s Q.2) o;have U:=bs (rT s Q.2) o;rw[b1] at U;have a1:=fun W u v h z=>BY (rT s Q.2) Q.1 u v W h z 12000550 o (bU kl (by decide)) (by decide);have av:=fun W v a h=>I4 (rT s Q.2) v W a h 12000550 o (by decide);have a0:=czS (rT s Q.2) Q.1;unfold eO at a1;clear aq aw bn di X a8 a3 a5 b5 bb bs b1 o kl kh bt;generalize (rT s Q.2-Q.1).num.sign=Sg at *;generalize fE s (rT s Q.2).num (rT s Q.2).den=fa at *;generalize (Q.2*(eT s:Rat)).floor=fl at *;generalize Q.2*(eT s:Rat)=hq at *;generalize cw:wy.1.size=gX at *;have ej:=aB cw;clear cw;go_cut [12] (fun ee wx=>U8 dq (cz8 · · (rT s Q.2)) ee wx)
    case first=>
     clear hA U a1 av
     go_region_held3 (fun w'=>C8 w' gX (.bool s1) (.slice A1 k1 c1) (.bool s2) (.slice A2 k2 c2) (.bool s3) (.slice A3 k3 c3) (.bool s4) (.slice A4 k4 c4)∧C2 w' gG (.bool s5) (.slice A5 k5 c5)) (with_reducible exact⟨bg.up.k8,b9.up.k2⟩)
      (first
       |(go_at_call 46;refine(bc _ _ bj.up).mono ?_;rintro eq fk ⟨fe,rfl,dt,dv⟩;have:=St.mk dv)
       |(go_at_call 45;refine(hm _ _ _ az.up a6.up dt.up).mono ?_;rintro dr ef ⟨ff,rfl,du,ac⟩;have:=St.mk ac)
       |(go_at_call 47;refine(hF _ _ du.up).mono ?_;rintro cg dm ⟨dl,rfl,ap,P⟩;have:=St.mk P)
       |(go_at_call 39;refine(hX _ _ _ az.up ap.up bj.up).mono ?_;rintro e9 w9 ⟨v9,rfl,h9,br⟩;obtain⟨s9,A9,k9,c9,s0,A0,k0,c0,rfl⟩:=h9.form;have:=St.mk br;(try have D:=cq2 (w:=w9))))
     all_goals (
      go_wp2;go_meet
      first|(with_reducible exact cq0 h9)|(with_reducible exact cq1 h9))
    case rest=>
     obtain⟨gV,rfl,ew,⟨t1,B1,l1,d1,t2,B2,l2,d2,V,C⟩,ad⟩:=hcut;clear bc hm hF hX a6;have cb:=bg.be ad;replace al:=al.be ad;have cj:=ci.be ad;have cm:=az.be ad;replace g:=g.be ad;have b3:=aC af ad;have R:=aa V.k4 cb.k8;generalize rT s Q.2=xq at *;go_wp2_with fail;refine(a1 _ _ _ C al).mono ?_;rintro dr ef ⟨rfl,ac⟩;have ax:=aC b3 ac;replace g:=g.be ac;replace V:=V.be ac;replace C:=C.be ac;have bi:=cj.be ac;have cn:=cm.be ac;clear a1 cb bg b9 ci bj az b6 cj cm al R af b3 ad;have R:=V.k4;by_cases M:Q.1<=xq
     ·have p0:=a0.2 M;clear a0;by_cases an:aP s 0 xq=0
      ·rw[decide_eq_true an] at U;have ao:Hid (Rk.map cyX=Rj.map cyX++[cyX xq]):=by
        unfold Hid;rw[ah.out,HR.out,if_pos ⟨M,an⟩];simp
       have dn:Hid ((l.take (j+1)).filterMap (kQ s N)=Rk):=ag.out;clear ah HR ag an M;go_wp2_with fail;refine(hA _ _ bi C).mono ?_;rintro cg dm ⟨dl,rfl,ap,P⟩;replace V:=V.be P;replace C:=C.be P;clear R;have R:=V.k4;go_wp2_with fail;refine(U _ _ ap).mono ?_;rintro ds eg ⟨rfl,ar⟩;have ai:=aC P ar;have ay:=aC ax ai;replace g:=g.be ai;replace V:=V.be ar;replace C:=C.be ar;clear R;have R:=V.k4;go_wp2_with fail;refine(av _ _ (cn.be ai) C).mono ?_;rintro er bf ⟨rfl,bo⟩;generalize dh:(⟨(cW xq).toArray⟩:ByteArray)=tx at *;have dp:Hid (cyX xq=[.string tx]):=by unfold Hid cyX;rw[dh]
       have ct:Below bf.1.size bf (bf.alloc (.cells #[.string tx] 9)):=(aG _ _).alloc aE _;have cv:=(g.be bo).be ct;have b4:=(aC ay bo).trans (ct.mono (aH ay.size bo.size));have XB:=Bx.new bf [.string tx] 9;have eb:∀u∈[Value.string tx],NoInt u∧u.oneCell'=true:=fun u hu=>by
        rw[List.mem_singleton.1 hu];exact⟨NoInt.string _,rfl⟩
       clear g dh V C R av hA U;go_wp2_with (at_builtin;refine yE rfl rfl 9 1 16 _ underlying22 czR rfl dx1 (by decide) (by decide) rfl cv rfl XB rfl eb d6 b4.size ?_;intro v8 w8 co ez d7 e0);have ed:=b4.trans (cv.left d7 b4.size);rw[<-dp.out,<-ao.out,<-dn.out] at co;go_roundg k
       case rel=>exact⟨j+1,by have:=HJ.out;unfold Hid;omega,by go_num,co,ed⟩
       case measure=>omega
      ·rw[decide_eq_false an] at U;have ao:Hid (Rj=(l.take (j+1)).filterMap (kQ s N)):=by
        unfold Hid;rw[ag.out,ah.out,HR.out,if_neg (fun h=>an h.2)];simp
       clear ah HR ag an M;go_wp2_with fail;refine(hA _ _ bi C).mono ?_;rintro cg dm ⟨dl,rfl,ap,P⟩;go_wp2_with fail;refine(U _ _ ap).mono ?_;rintro ds eg ⟨rfl,ar⟩;have ai:=aC P ar;have ay:=aC ax ai;replace g:=g.be ai;rw[ao.out] at g;clear V C R av;go_wp2;go_roundg k
       case rel=>exact⟨j+1,by have:=HJ.out;unfold Hid;omega,by go_num,g,ay⟩
       case measure=>omega
     ·have p0:¬0<=Sg:=fun h=>M (a0.1 h);have ao:Hid (Rj=(l.take (j+1)).filterMap (kQ s N)):=by
       unfold Hid;rw[ag.out,ah.out,HR.out,if_neg (fun h=>M h.1)];simp
      rw[ao.out] at g;clear a0 ah HR ag M hA U av C bi cn;go_wp2;go_roundg k
      case rel=>exact⟨j+1,by have:=HJ.out;unfold Hid;omega,by go_num,g,ax⟩
      case measure=>omega
def dyT(Q:List Rat)(D x:Rat):aI (Q.map (·*D)) x=aI Q x*D:=by
 induction Q with
 |nil=>show(0:Rat)=0*D;rw[aqQ]
 |cons a Q b=>
  show aI (Q.map (·*D)) x*x+a*D=(aI Q x*x+a)*D
  rw[b];grind
def dyU(c:∀q∈Q,(q.den:Int)∣D):(cC Q D).map (fun n:Int=>(n:Rat))=Q.map (·*(D:Rat)):=by
 refine aq6 (fun i=> ?_);have h:=JC Q D c i;by_cases a:i<Q.length
 ·have b:i<(cC Q D).length:=by rw[oN];exact a
  rw[fZ b,fZ a] at h;rw[iK,iK,aR b,aR a,bzX,bzX,h]
 ·rw[fU (by rw[cH,oN];omega),fU (by rw[cH];omega)]
def exO(m:0<D)(j:∀q∈Q,(q.den:Int)∣D)(x:Rat)(i:Q.length=M+1):(fE (cC Q D) x.num x.den:Rat)/((D*(x.den:Int)^M:Int):Rat)=aI Q x:=by
 have a:(x.den:Int)≠0:=by have:=x.den_nz;omega
 have h:=WR (cC Q D) x.num x.den a;rw[WQ,oN,i,dyU j,dyT,gR] at h;have l:((x.num:Int):Rat)/((x.den:Int):Rat)=x:=by rw[aq3,<-oU]
 rw[l] at h;have c:(((x.den:Int):Rat))≠0:=fun e=>a (Rat.intCast_inj.1 e);have g:(D:Rat)≠0:=fun e=>by have:=Rat.intCast_inj.1 (e.trans (show(0:Rat)=((0:Int):Rat) from rfl));omega
 have k:(((x.den:Int)^M:Int):Rat)≠0:=fun e=>Int.pow_ne_zero a (Rat.intCast_inj.1 e);rw[eJ] at h⊢;generalize (((x.den:Int)^M:Int):Rat)=p at *;generalize ((x.den:Int):Rat)=b at *;generalize (fE (cC Q D) x.num x.den:Rat)=v at *;generalize aI Q x=s at *;have d:v=p*(s*D):=by
  have:v*b*b⁻¹=p*b*(s*D)*b⁻¹:=by rw[h]
  rw[azC,Rat.mul_inv_cancel _ c,aqP] at this;rw[this,show p*b*(s*D)*b⁻¹=p*(s*D)*(b*b⁻¹) by grind,Rat.mul_inv_cancel _ c,aqP]
 have f:(D:Rat)*p≠0:=fun e=>(Rat.mul_eq_zero.1 e).elim g k;rw[d,show p*(s*D)=s*(D*p) by grind,azE,azC,Rat.mul_inv_cancel _ f,aqP]
def WholeAt.blk_lt{A:Option Addr}{l c:Nat}(h:WholeAt w (.slice A l c) ns)(f:ns≠[]):∀b,A=some ⟨b,0,none⟩->b<w.1.size:=fun b e=>by
 obtain⟨i,c',d,_,h⟩:=h;simp only[Value.slice.injEq] at d;obtain⟨rfl,_,rfl⟩:=d;obtain⟨j,rows,a,g,_⟩:=h.resolve_left f;rw[e] at a;simp at a;subst a;exact g.lt
def exP(h:Keep w W)(e:(w.setCell ⟨g,0,none⟩ c).setCell ⟨g,1,none⟩ d=W):kR g w W:=by
 subst e;exact⟨h,fun b a=>by rw[Below.heap_setCell _ ⟨g,1,none⟩ _ b a,Below.heap_setCell _ ⟨g,0,none⟩ _ b a],by simp,rfl,rfl,rfl⟩
def exQ(d:List (List UInt8))(x:List UInt8)(v:Value)(w:World)(i:Glob w)(hv:StrsAt w v d)(hl:d.length<=1024)(a5:∀l∈d,l.length<=1073741824)(hx:x.length<=1073741824)(K:Nat)(hK:∀q∈aU d,RL K q)(J:RL K ((cL x).getD 0))(bf:K<=65536):
  Calls prog 12 #[v,.string ⟨x.toArray⟩] w (pQ w d x):=by
 obtain⟨A,c,rfl,hc⟩:=hv.form;have U:=VS d;go_enter func12,ntmps12;go_wp2_with fail;refine(T1 d _ _ i hv (by omega) (fun _=>a5) K (1+65*K) (fun _=>hK) aE (by unfold aJ;omega)).mono ?_;rintro e1 w1 ⟨v1,bk,xs,D,rfl,m,S,af,ai⟩;obtain⟨A1,c1,rfl,bi⟩:=m.form;obtain⟨s1,B1,k1,d1,rfl⟩:=S.form;have ag:=fun B=>m.blk_lt B;obtain⟨w2,e2,aj,X⟩:=bI w1 [.bool s1,.slice B1 k1 d1] 60;have f:=aC ai aj;go_wp2_with fail;(try rw[e2]);clear e2;refine(wU x _ (i.be f) hx).mono ?_;rintro e3 w3 ⟨v3,rfl,g,C⟩;obtain⟨L,o,H,t,N,p,I,z,rfl⟩:=g.form;have ad:(cL x).isSome=rd x:=rfl;rw[ad];obtain⟨w4,Z,j,P⟩:=bI w3 [.bool L,.slice o H t,.bool N,.slice p I z] 76;have bb:w1.1.size<w3.1.size:=aZ X.lt C.size;replace X:=(X.be C).be j;replace m:=((m.be aj).be C).be j;replace S:=((S.be aj).be C).be j;replace g:=g.be j;replace f:=(aC f C).trans (j.mono (aC f C).size);have cM:=aa X.g2 P.k4;have a3:w.1.size<=w1.1.size:=ai.size;generalize w1.1.size=gx at *;cases ha:vl d with
 |false=>
  have r:Hid (¬(vl d=true∧rd x=true)):=by unfold Hid;rw[ha];simp
  clear ha ad;clear af;go_wp2;go_ret2;unfold pQ;rw[if_neg r.out];(try clear Z);exact⟨rfl,by first|exact f|exact j⟩
 |true=>
  cases hr:rd x with
  |false=>
   have r:Hid (¬(vl d=true∧rd x=true)):=by unfold Hid;rw[hr];simp
   clear ha hr ad;clear af;go_wp2;go_ret2;unfold pQ;rw[if_neg r.out];(try clear Z);exact⟨rfl,by first|exact f|exact j⟩
  |true=>
   have r:Hid (vl d=true∧rd x=true):=⟨ha,hr⟩;obtain⟨rfl,G⟩:=af ha;have lx:=oN (aU d) D;clear af hr ad;by_cases B:d.length=0
   ·have HZ:Hid (cW (aI (aU d) ((cL x).getD 0))=[48]):=by
     have:d=[]:=bX B;unfold Hid;rw[this];exact dxV
    have q0:(((cC (aU d) D).length:Int)==0)=true:=by rw[lx,U,B];rfl
    clear ha B lx G U;go_wp2;go_ret2;unfold pQ;rw[if_pos r.out,HZ.out];exact⟨rfl,f⟩
   ·obtain⟨M,hM⟩:∃M,d.length=M+1:=⟨d.length-1,by omega⟩;have ah:(cC (aU d) D).length=M+1:=by rw[lx,U,hM]
    have q0:(((cC (aU d) D).length:Int)==0)=false:=by rw[beq_eq_false_iff_ne];omega
    have bh:((cC (aU d) D).length:Int)-1=(M:Int):=by omega
    have bx:=sA _ D K _ hK G.nl_;have bD:=G.nl_;have ax:=exO G.pos G.dvd ((cL x).getD 0) (show(aU d).length=M+1 by rw[U,hM]);have bc:=(pJ ha).1;have bg:M<=64:=by omega
    have ao:=CJ hK J;rw[U] at ao;have a4:d.length*(2*K+1)<=1024*(2*K+1):=dK _ hl;have a6:M*K<=64*K:=dK _ (by omega);have kd:nl ((((cL x).getD 0).den:Int)).natAbs<=K:=J.2;have an:=fun W h=>pD ((cL x).getD 0) (.agg #[.bool L,.slice o H t,.bool N,.slice p I z]) W h (aH J.2 (by omega));have az:=fun W=>JO (cC (aU d) D).length c1 A1 W (by omega)
    have ar:=fun W v h=>dzP (((cL x).getD 0).den:Int) M v W h (by unfold BN;omega) (by
     have:M*nl ((((cL x).getD 0).den:Int)).natAbs<=M*K:=eV _ kd;unfold aJ;omega)
    have aw:nl ((((cL x).getD 0).den:Int)^M).natAbs<=64*K+1:=by
     rw[Int.natAbs_pow];refine aH (RW _ _) ?_;have:M*nl ((((cL x).getD 0).den:Int)).natAbs<=M*K:=eV _ kd;omega
    have a0:=gT D ((((cL x).getD 0).den:Int)^M) _ _ bD aw;have aq:=fun W u h R=>jB D ((((cL x).getD 0).den:Int)^M) (.agg #[.bool s1,.slice B1 k1 d1]) u W h R (by omega);have ay:=fun W h R=>CB (cC (aU d) D) ((cL x).getD 0) (.slice A1 (cC (aU d) D).length c1) (.agg #[.bool L,.slice o H t,.bool N,.slice p I z]) W h R (K+(1+65*K)) bx (bU J (by omega)) (by omega) (by omega);have au:=xK (ns:=cC (aU d) D) (a:=((cL x).getD 0).num) (b:=((cL x).getD 0).den) (T:=BN^(K+(1+65*K))) (fun n h=>mS (bx n h)) (mS (aH J.1 (by omega))) (mS (aH kd (by omega)));have av:nl (fE (cC (aU d) D) ((cL x).getD 0).num ((cL x).getD 0).den).natAbs<=(K+(1+65*K))*65+1:=by
     refine cJ (jI au.1 (aZ (xL (by omega)).1 (cO (by decide) ?_)));have:=eV (K+(1+65*K)) (show(cC (aU d) D).length<=65 by omega);omega
    have ac:=fun W u v i h R=>I3 (fE (cC (aU d) D) ((cL x).getD 0).num ((cL x).getD 0).den) (D*(((cL x).getD 0).den:Int)^M) u v W i h R ((K+(1+65*K))*65+1) av (by omega) (by unfold aJ;omega);rw[ax] at ac;have ae:=fun W v i h=>I4 (aI (aU d) ((cL x).getD 0)) v W i h _ ao (by omega);replace ag:=ag (fun e=>by rw[e] at ah;cases ah);obtain⟨T,hT⟩:∃T,aI (aU d) ((cL x).getD 0)=T:=⟨_,rfl⟩;rw[hT] at ac ae;have HT:=aB hT;unfold dW at an ar aq ay;unfold iF at ac;clear au av a0 aw bx bD ao a4 a6 kd hT ax G B lx ah ha J hK hM;generalize hy:(cL x).getD 0=y at *;have HY:=aB hy;clear hy;generalize fE (cC (aU d) D) y.num y.den=V at *;generalize D*(y.den:Int)^M=E at *;generalize (y.den:Int)^M=F at *;generalize (y.den:Int)=yd at *;generalize cC (aU d) D=ns at *;go_upto_region 7 with fail;(try rw[Z]);clear Z j;generalize w3.1.size=gp at *;go_cut [] (fun O=>∃s A k c,Bx O gx [.bool s,.slice A k c] 60∧IntAt O (.agg #[.bool s,.slice A k c]) E∧Bx O gp [.bool L,.slice o H t,.bool N,.slice p I z] 76∧WholeAt O (.slice A1 ns.length c1) ns∧RatAt O (.agg #[.bool L,.slice o H t,.bool N,.slice p I z]) y∧Below w.1.size w O)
    case first=>
     have bj:IntKind.u64.wrap (M:Int)=(M:Int):=by
      rw[show IntKind.u64.wrap (M:Int)=(M:Int)%18446744073709551616 by simp[IntKind.wrap,IntKind.bits,IntKind.signed]];omega
     go_wp2_with fail
     go_region_with (first
      |(go_at_call 54;refine(an _ g.up).mono ?_;rintro e5 w5 ⟨v5,rfl,h5,a1⟩;obtain⟨s5,A5,k5,c5,rfl⟩:=h5.form;have:=St.mk a1;have a8:=(X.up (b:=w5)).k2;have a7:=(P.up (b:=w5)).k4)
      |(go_at_call 56;refine(az _).mono ?_;rintro Q w6 ⟨rfl,rfl⟩)
      |(go_at_call 55;refine(ar _ _ h5.up).mono ?_;rintro e7 w7 ⟨v7,rfl,h7,al⟩;obtain⟨s7,A7,k7,c7,rfl⟩:=h7.form;have:=St.mk al;have a9:=(X.up (b:=w7)).k2)
      |(go_at_call 34;refine(aq _ _ S.up h7.up).mono ?_;rintro e8 Y ⟨v8,rfl,h8,am⟩;obtain⟨s8,A8,k8,c8,rfl⟩:=h8.form;have:=St.mk am;have X8:=X.up (b:=Y);have P8:=P.up (b:=Y);have ba:=X8.g2;have a2:=bJ (b:=Y) f))
     all_goals (
      go_wp2_with fail;obtain⟨W6,Q,X6,ak,ap,ff⟩:=X8.put2 a2 a3 (.bool s8) (.slice A8 k8 c8) rfl rfl;have ae:=exP ap Q;rw[Q];clear Q;go_meet;exact⟨_,_,_,_,X6,h8.ke ap,ff P8 (by omega),m.up.step ae (fun b e=>bxQ (ag b e)),g.up.ke ap,ak⟩)
    case rest=>
     clear X P cM g S f m an az ar aq;obtain⟨s5,A5,k5,c5,X,hE,P,m,g,f⟩:=hcut;go_wp2_with fail
     go_region_held3 (fun w'=>C2 w' gx (.bool s5) (.slice A5 k5 c5)∧C4 w' gp (.bool L) (.slice o H t) (.bool N) (.slice p I z)) (with_reducible exact⟨X.up.k2,P.up.k4⟩)
      (first
       |(go_at_call 49;refine(ay _ m.up g.up).mono ?_;rintro Q w6 ⟨v6,rfl,h6,ak⟩;have:=St.mk ak)
       |(go_at_call 39;refine(ac _ _ _ (i.be (bJ f)) h6.up hE.up).mono ?_;rintro e7 w7 ⟨v7,rfl,h7,al⟩;have:=St.mk al)
       |(go_at_call 51;refine(ae _ _ (i.be (bJ f)) h7.up).mono ?_;rintro e8 Y ⟨rfl,am⟩;have:=St.mk am))
     all_goals (
      go_wp2;go_ret2;unfold pQ;rw[if_pos r.out,HY.out,HT.out];exact⟨rfl,bJ (b:=Y) f⟩)
structure KnT(T:List Rat):Prop where
 tr:aN T
 len:T.length<=7
 ne:T≠[]
 rl:∀q∈T,RL 2 q
 prm:∀D B,ComDen T D B->∀n∈aS (cC T D),nl n.natAbs<=9
def KnP.txt(h:KnP L T)(a:L.length<=4):KnT T:=⟨h.tr,by have:=h.len;omega,h.ne,(h.kn.sz (by omega)).1,(h.kn.sz (by omega)).2 h.tr⟩
section
variable {T:List Rat}(h:KnT T)
include h
def KnT.vl:vl (T.map cW)=true:=dzR (by have:=h.len;omega) h.tr
def KnT.tl:∀l∈T.map cW,l.length<=1073741824:=fun l a=>by
 obtain⟨q,b,rfl⟩:=List.mem_map.1 a;have:=cx1 (h.rl q b);omega
def KnT.er:dM (T.map cW)=0:=by
 unfold dM;rw[if_pos h.vl,if_neg (fun e=>h.ne (List.map_eq_nil_iff.1 e))]
def KnT.rational(v:Value)(w:World)(i:Glob w)(hv:StrsAt w v (T.map cW)):Calls prog 10 #[v] w fun e w'=>∃(a:Value) (R:List Rat),e= .returned (.tuple #[a,.int .i64 0])∧StrsAt w' a (R.map cW)∧R.Pairwise (fun x y=>x<y)∧(∀y,y∈R↔aI T y=0)∧R.length<=8∧Below w.1.size w w':=by
 refine(ez1 (T.map cW) 2 v w i hv (by rw[cH];exact h.len) h.tl (by rw[tS];exact h.rl) (by decide) (by rw[tS];exact fun _=>h.prm)).mono (fun e w' k=> ?_);obtain⟨a,R,rfl,c,b, -,d,j⟩:=k;rw[h.er,tS] at b;obtain⟨f,g⟩:=eyQ (b rfl);exact⟨a,R,by rw[h.er],c,f,g,d,j⟩
def KnT.isolate(z:∀x,aI T x=lD L x)(v:Value)(w:World)(g:Glob w)(hv:StrsAt w v (T.map cW)):Calls prog 11 #[v] w fun e w'=>∃(d:Value) (l:List (Rat×Rat)),e= .returned (.tuple #[d,.int .i64 0])∧IvsAt w' d (l.map m8)∧(∀p∈l,RL 1500000 p.1∧RL 1500000 p.2)∧(∀R:List Rat,R.Pairwise (fun x y=>x<y)->(∀y,y∈R↔aI T y=0)->R.length=l.length∧∀(k:Nat) (p:Rat×Rat) (y:Rat),l[k]? =some p->R[k]? =some y->p.1<=y∧y<=p.2)∧Below w.1.size w w':=by
 obtain⟨n,hn,m⟩:=ax2 (64*9) (ax3 (bU (L4 h.rl (by decide)) (show 4*2+1<=9 by decide)));have a:=tS T
 have B:=exY (T.map cW) 2 n 1000000000 (yF (aU (T.map cW)) n) v w g hv (by rw[cH];exact h.len) h.tl (by rw[a];exact h.rl) (by decide) (by rw[a];exact fun _=>h.prm) (fun _ _=>by rw[a];exact m) (by omega) (by decide) (by decide) (fun _ _=>True) (fun x y _ F G W u v g h o=>UW x y u v W g h o 1000000000 F G (by unfold aJ;decide)) (fun l C=>by
  obtain⟨_,_,_,_,_,_,b,i⟩:=C;exact⟨by omega,fun p j=>⟨bU (b p j).1 (by decide),bU (b p j).2 (by decide)⟩⟩) (fun w s c r t=>ax4 r t (by omega))
 refine B.mono (fun e w' k=> ?_);obtain⟨d,l,rfl,b, -,i,A⟩:=k;have f:=b h.er;rw[a] at f;obtain⟨_,_,_,_,_,_,q,_⟩:=id f;exact⟨d,l,by rw[h.er],i,q,fun R E D=>eyS f m z E D,A⟩
def KnT.eval(a:cL x=some y)(i:x.length<=5)(f:aI T y=0)(v:Value)(w:World)(c:Glob w)(hv:StrsAt w v (T.map cW)):Calls prog 12 #[v,.string ⟨x.toArray⟩] w fun e w'=>e= .returned (.tuple #[.string ⟨#[48]⟩,.int .i64 0])∧Below w.1.size w w':=by
 have g:RL 1 y:=lS a (by omega);have d:rd x=true:=by unfold rd;rw[a];rfl
 refine(exQ (T.map cW) x v w c hv (by rw[cH];have:=h.len;omega) h.tl (by omega) 2 (by rw[tS];exact h.rl) (by rw[a];exact bU g (by decide)) (by decide)).mono (fun e w' k=> ?_);unfold pQ at k;rw[if_pos ⟨h.vl,d⟩,tS,a] at k;have b:aI T ((some y).getD 0)=0:=f;rw[b,show cW 0=[48] from tL (s:=[48]) (by decide)] at k;exact k
end
def zY(w:World)(Q:List Rat)(e:Ending)(w':World):Prop:=∃a,e= .returned (.tuple #[a,.int .i64 0])∧StrsAt w' a (Q.map cW)∧Below w.1.size w w'
def ey2{e:Ending}(h:nQ w Q e w')(d:Q.length<=65):zY w Q e w':=by
 obtain⟨f,a,b,c⟩:=h;rw[if_pos d] at a b;exact⟨f,a,b,c⟩
def ey3(h:KnT T)(a:List (List UInt8))(c:aU a=b)(j:vl a=true)(o:a.length<=3)(i:∀l∈a,l.length<=1073741824)(g:∀q∈b,RL 2 q)(W:World)(v u:Value)(d:Glob W)(hv:StrsAt W v (T.map cW))(f:StrsAt W u a):Calls prog 8 #[v,u] W (zY W (aW aV (dX T b))):=by
 refine(dzU (T.map cW) a v u W d hv f (by rw[cH];have:=h.len;omega) (by omega) 2 (fun _=>h.tl) (fun _=>i) (fun _=>by rw[tS];exact h.rl) (fun _=>by rw[c];exact g) (by decide)).mono (fun e p k=> ?_);unfold x6 at k;rw[if_pos ⟨h.vl,j⟩,tS,c] at k;refine ey2 k (aH (oY aV _) ?_);have m:=h.len;have n:b.length=a.length:=by rw[<-c];exact cH _
 unfold dX;split
 ·decide
 ·rw[cH,bxZ];omega
def U2:cL [49]=some 1:=by decide
def eyH(f:cL t=some r)(g:t.length<=5):aU [cW (-r),[49]]=[-r,1]∧vl [cW (-r),[49]]=true∧(∀l∈[cW (-r),[49]],l.length<=1073741824)∧∀q∈[-r,1],RL 2 q:=by
 have b:RL 1 (-r):=C7 (lS f (by omega));have e:aU [cW (-r),[49]]=[-r,1]:=by
  show[(cL (cW (-r))).getD 0,(cL [49]).getD 0]=_
  rw[SU,U2];rfl
 refine⟨e,?_,fun l c=> ?_,fun q d=> ?_⟩
 ·unfold vl;rw[iQ,e];refine⟨by show 2<=65;decide,?_,fun k=> ?_⟩
  ·show(rd (cW (-r))&&(rd [49]&&true))=true
   unfold rd;rw[SU,U2];rfl
  ·have a:some (1:Rat)=some 0:=k;injection a with a;exact absurd a (by decide)
 ·rcases List.mem_cons.1 c with e|e
  ·rw[e];have:=cx1 b;omega
  ·rw[List.mem_singleton.1 e];decide
 ·rcases List.mem_cons.1 d with e|e
  ·rw[e];exact bU b (by decide)
  ·rw[List.mem_singleton.1 e];exact⟨by show nl 1<=2;exact aH (cJ (m:=1) (by decide)) (by decide),by show nl 1<=2;exact aH (cJ (m:=1) (by decide)) (by decide)⟩
def eyI(h:KnP L T)(g:L.length<=4)(i:cL t=some r)(e:t.length<=5)(W:World)(v u:Value)(f:Glob W)(hv:StrsAt W v (T.map cW))(j:StrsAt W u [cW (-r),[49]]):Calls prog 8 #[v,u] W (zY W (aW aV (dX T [-r,1]))):=by
 obtain⟨a,b,c,d⟩:=eyH i e;exact ey3 (h.txt g) _ a b (by show 2<=3;decide) c d W v u f hv j
def EX:aU [[49],[49],[49]]=[1,1,1]∧vl [[49],[49],[49]]=true:=by
 have e:aU [[49],[49],[49]]=[1,1,1]:=by
  show[(cL [49]).getD 0,(cL [49]).getD 0,(cL [49]).getD 0]=_
  rw[U2];rfl
 refine⟨e,?_⟩;unfold vl;rw[iQ,e];refine⟨by decide,?_,fun k=> ?_⟩
 ·show(rd [49]&&(rd [49]&&(rd [49]&&true)))=true
  unfold rd;rw[U2];rfl
 ·have a:some (1:Rat)=some 0:=k;injection a with a;exact absurd a (by decide)
def ey4:∀q∈([1,1,1]:List Rat),RL 2 q:=fun q a=>by
 have:q=1:=by simpa using a
 rw[this];exact⟨by show nl 1<=2;exact aH (cJ (m:=1) (by decide)) (by decide),by show nl 1<=2;exact aH (cJ (m:=1) (by decide)) (by decide)⟩
def eyJ(v:Value)(W:World)(b:Glob W)(hv:StrsAt W v [[49],[49],[49]]):Calls prog 14 #[v] W (zY W [1,1,1]):=by
 refine(eyZ [[49],[49],[49]] v W b hv (by decide) (by decide) 2 (by rw[EX.1];exact ey4) (by decide)).mono (fun e c k=> ?_);unfold X4 at k;have a:=(pJ EX.2).2.2;rw[EX.1] at a;rw[if_pos (pJ EX.2).2.1,EX.1,qB a] at k;exact ey2 k (by decide)
def eyK(h:KnT T)(W:World)(v u:Value)(b:Glob W)(hv:StrsAt W v (T.map cW))(a:StrsAt W u (([1,1,1]:List Rat).map cW)):Calls prog 8 #[v,u] W (zY W (aW aV (dX T [1,1,1]))):=by
 have e:([1,1,1]:List Rat).map cW=[[49],[49],[49]]:=by
  show[cW 1,cW 1,cW 1]=_
  rw[tL U2]
 rw[e] at a;exact ey3 h _ EX.1 EX.2 (by decide) (by decide) ey4 W v u b hv a
def LY:cL [48]=some 0:=by decide
def ayM:cL [49]=some 1:=by decide
def ayN:cL [45,50]=some (-2):=by decide
