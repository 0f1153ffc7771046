/- Laws. -/
import Derived.Test.YtapgbkldiinabaaGreatDoorN28
set_option linter.all false
set_option maxHeartbeats 8000000
set_option maxRecDepth 99999
namespace Go.Proofs.YtapgbkldiinabaaGreatDoor
open Sos
def Cop.congr{a b c d:List Rat}(h:Cop a b)(e:∀x,aI c x=aI a x)(f:∀x,aI d x=aI b x):Cop c d:=by
 obtain⟨u,v,k⟩:=h;exact⟨u,v,fun x=>by rw[e,f];exact k x⟩
def cxK:List (List Int)->Rat->Rat
 |[],_=>1
 |e :: es,x=>aX e x*cxK es x
def O9:List (List Int)->Nat->Rat->Rat
 |[],_,_=>1
 |e :: es,n,x=>aX e x^n*O9 es (n+1) x
def czH(es:List (List Int)):∀(n:Nat) (x:Rat),O9 es (n+1) x=cxK es x*O9 es n x:=by
 induction es with
 |nil=>intro n x;show(1:Rat)=1*1;rw[Rat.mul_one]
 |cons e es a=>
  intro n x;show aX e x^(n+1)*O9 es (n+1+1) x=aX e x*cxK es x*(aX e x^n*O9 es (n+1) x)
  rw[a,Rat.pow_succ];grind
def RfO.prod{B:Nat}{r a g:List Int}{es:List (List Int)}(h:RfO B r a g es):(∃k:Rat,k≠0∧∀x,aX r x=k*O9 es 1 x)∧∃k:Rat,k≠0∧∀x,aX a x=k*cxK es x:=by
 induction h with
 | @last r a g o u s m h d p=>
  obtain⟨k,f,e⟩:=bqV p m.tr;refine⟨⟨k,f,fun x=> ?_⟩,1,by decide,fun x=> ?_⟩
  ·rw[pQ d,show aX g x=k from e x];show _=k*(aX a x^1*1)
   rw[Rat.pow_succ,Rat.pow_zero];grind
  ·show aX a x=1*(aX a x*1)
   grind
 | @step r a g b v e es o u s m w h d j t q=>
  obtain⟨⟨k,f,n⟩,c,l,i⟩:=q;refine⟨⟨k*c,m6 f l,fun x=> ?_⟩,c,l,fun x=> ?_⟩
  ·rw[pQ d,pQ j,n,i];show _=k*c*(aX e x^1*O9 es (1+1) x)
   rw[czH es 1 x,Rat.pow_succ,Rat.pow_zero];grind
  ·rw[pQ j,i];show _=c*(aX e x*cxK es x)
   grind
def RfO.cops{B:Nat}{r a g:List Int}{es:List (List Int)}(h:RfO B r a g es):(∀e∈es,Cop (aT 1 e) (fW (aT 1 e))∧DvE (aX a) (aT 1 e))∧es.Pairwise (fun e f=>Cop (aT 1 e) (aT 1 f)):=by
 induction h with
 | @last r a g m p P l h n z=>
  refine⟨fun e c=> ?_,List.pairwise_singleton ..⟩;obtain rfl:=List.mem_singleton.1 c;refine⟨?_,[1],fun x=>by rw[show aI [1] x=0*x+1 from rfl,p3];grind⟩;obtain⟨k,J,w⟩:=bqV z l.tr;obtain⟨u,v,I⟩:=(Q5 p.tr m h).bz;have K:=uV (f:=aT 1 r) (u:=aT 1 e) (d:=aT 1 g) (fun x=>pQ n x);have L:∀x,eX (aT 1 g) x=0:=fun x=>by
   obtain⟨y,rfl⟩:=List.length_eq_one_iff.1 z;show(0:Rat)*x+0=0
   grind
  refine⟨u,v,fun x=> ?_⟩;have G:=I x;rw[K,L,w,p3 r,pQ n,show aX g x=k from w x,p3 e] at G;rw[<-qW,p3];have H:k*(aI u x*aX e x+aI v x*eX (aT 1 e) x-1)=0:=by grind
  rcases Rat.mul_eq_zero.1 H with s|s
  ·exact absurd s J
  ·grind
 | @step r a g b V e es m p P l X h n c t N=>
  obtain⟨S, -,C,Y,T,U⟩:=t.facts;obtain⟨A,M⟩:=N;obtain⟨q,O,D,F⟩:=azZ (Q5 p.tr m h) (fun x=>pQ n x) (Q5 l.tr S T) (fun x=>pQ U x) (GA l.ne l.tr)
  have o:∀x,aI (aT 1 e) x=aI q x:=SP (GA C.ne C.tr) (fun x=>by
   have m:=O x;have W:aI (aT 1 a) x=aI (aT 1 e) x*aI (aT 1 b) x:=pQ c x;grind)
  have dd:∀x,aI (fW (aT 1 e)) x=aI (fW q) x:=fun x=>by
   rw[<-qW,<-qW];exact axS (fun i=>LL o i) x
  have E:Cop (aT 1 e) (aT 1 b):=D.congr o (fun _=>rfl);refine⟨fun f j=> ?_,List.pairwise_cons.2 ⟨fun f j=>E.dv (A f j).2,M⟩⟩;rcases List.mem_cons.1 j with rfl|j
  ·exact⟨F.congr o dd,aT 1 b,fun x=>by rw[pQ c,p3,p3];grind⟩
  ·obtain⟨Q,u,R⟩:=A f j;exact⟨Q,fG (aT 1 e) u,fun x=>by rw[pQ c,R,fY,p3 e];grind⟩
end Go.Proofs.YtapgbkldiinabaaGreatDoor
namespace Go.Proofs.YtapgbkldiinabaaGreatDoor
open Go.RowKit Sos
end Go.Proofs.YtapgbkldiinabaaGreatDoor
namespace Go.Proofs.YtapgbkldiinabaaGreatDoor
open Sos
section
variable {G:List Rat}{g s:List Int}{r0 r1 s0 s1:List Rat}
end
def QF(A:List Rat)(K:Nat):Prop:=∃(f:Nat->Int) (D:Int),0<D∧nl D.natAbs<=K∧(∀i,nl (f i).natAbs<=K)∧∀i,cf A i*(D:Rat)=((f i:Int):Rat)
def QF.mono{A:List Rat}{K L:Nat}(h:QF A K)(a:K<=L):QF A L:=by
 obtain⟨f,D,b,c,d,e⟩:=h;exact⟨f,D,b,aH c a,fun i=>aH (d i) a,e⟩
def QF.nums{A:List Rat}{K:Nat}(h:QF A K)(a:1<=K):∀q∈A,RL K q:=fun q b=>by
 obtain⟨f,D,g,c,d,e⟩:=h;obtain⟨i,hi,rfl⟩:=List.mem_iff_getElem.1 b;rw[<-fZ hi,<-bx3 (gJ (show D≠0 by omega)) (e i).symm];exact pM (d i) c a
def QF.mul{A B:List Rat}{K L:Nat}(c:QF A K)(d:QF B L)(s:A.length+B.length<=1073741824):QF (aW aV (eF A B)) (K+L+1):=by
 obtain⟨f,D,h,o,q,e⟩:=c;obtain⟨g,E,l,p,r,b⟩:=d;refine⟨fun i=>if i<A.length+B.length then conv f g i else 0,D*E,Int.mul_pos h l,aH (gT _ _ _ _ o p) (Nat.le_succ _),fun i=> ?_,fun i=> ?_⟩
 ·show nl (if i<A.length+B.length then conv f g i else 0).natAbs<=_
  split
  ·exact K6 q r (by omega)
  ·exact aH (cJ (m:=0) (n:=0) (by decide)) (dC _)
 ·rw[iS,aqH];show _=(((if i<A.length+B.length then conv f g i else 0:Int)):Rat)
  split
  ·rw[oD,gL (fun k=>(e k).symm.trans (Rat.mul_comm _ _)) (fun k=>(b k).symm.trans (Rat.mul_comm _ _)),t6,rF,eJ];grind
  ·rw[rG (fun j a=>bV a) (fun j a=>bV a) (by omega)];simp
def QF.short{A:List Rat}(b:∀q∈A,RL 1 q)(c:A.length<=4):QF A 5:=by
 obtain⟨D,a⟩:=U8 b;have d:=a.nl_;exact⟨cf (cC A D),D,a.pos,by omega,fun i=>aH (iU (sA A D 1 4 b (by omega)) i) (by decide),fun i=>(JC A D a.dvd i).symm⟩
def QF.nil:QF [] 1:=⟨fun _=>0,1,by decide,cJ (m:=1) (by unfold BN;decide),fun _=>show nl (0:Int).natAbs<=1 from cJ (m:=1) (by unfold BN;decide),fun i=>by rw[eR,Rat.zero_mul,Rat.intCast_zero]⟩
def czC(q:Rat):q*((q.den:Int):Rat)=(q.num:Rat):=by
 have b:=gJ (show(q.den:Int)≠0 by have:=q.den_pos;omega);have h:=gW (a:=(q.num:Rat)) b;rw[Rat.intCast_natCast] at h⊢;rwa [<-VF] at h
def QF.one{q:Rat}{K:Nat}(h:RL K q):QF [q] K:=⟨fun i=>if i=0 then q.num else 0,(q.den:Int),by have:=q.den_pos;omega,h.2,fun i=>by
 show nl (if i=0 then q.num else 0).natAbs<=K
 split
 ·exact h.1
 ·exact aH (cJ (m:=0) (n:=0) (by decide)) (dC _),fun i=>by
 cases i with
 |zero=>exact czC q
 |succ i=>rw[bV (by simp)];show _=(((if i+1=0 then q.num else 0:Int)):Rat);rw[if_neg (by omega),Rat.zero_mul,Rat.intCast_zero]⟩
def QF.der{A:List Rat}{K:Nat}(h:QF A K)(c:A.length<=1073741824):QF (aW aV (fW A)) (K+1):=by
 obtain⟨f,D,a,d,b,e⟩:=h;refine⟨fun i=>if i<A.length then f (i+1)*((i:Int)+1) else 0,D,a,by omega,fun i=> ?_,fun i=> ?_⟩
 ·show nl (if i<A.length then f (i+1)*((i:Int)+1) else 0).natAbs<=_
  split
  ·exact gT _ _ _ _ (b _) (cJ (by rw[show((i:Int)+1).natAbs=i+1 by omega];unfold BN;omega))
  ·exact aH (cJ (m:=0) (n:=0) (by decide)) (dC _)
 ·rw[iS,tV];show _=(((if i<A.length then f (i+1)*((i:Int)+1) else 0:Int)):Rat)
  split
  ·rw[eJ,<-e,show(((i:Int)+1:Int):Rat)=((i+1:Nat):Rat) by rw[show((i:Int)+1)=((i+1:Nat):Int) from rfl,Rat.intCast_natCast]];grind
  ·rw[bV (by omega),Rat.zero_mul,Rat.zero_mul,Rat.intCast_zero]
def QF.mon_{e:List Int}{K:Nat}(d:e≠[])(g:aN e)(a:∀n∈e,nl n.natAbs<=K):QF (b6 e) K:=by
 have f:=(eI d).1 g;have c:=iU a (e.length-1);have b:∀i,cf (b6 e) i*((cf e (e.length-1):Int):Rat)=((cf e i:Int):Rat):=fun i=>by
  show cf (eQ e (cf e (e.length-1))) i*_=_
  rw[xN];exact gW (gJ f)
 generalize cf e (e.length-1)=l at *;rcases Int.lt_or_le 0 l with h|h
 ·exact⟨cf e,l,h,c,iU a,b⟩
 ·exact⟨fun i=> -cf e i, -l,by omega,by rw[Int.natAbs_neg];exact c,fun i=>by rw[Int.natAbs_neg];exact iU a i,fun i=>by rw[Rat.intCast_neg,Rat.intCast_neg,<-b i];grind⟩
def QF.prim{A:List Rat}{K m:Nat}{D:Int}(h:QF A K)(b:ComDen A D m)(t:aN A)(g:A≠[]):∀n∈aS (cC A D),nl n.natAbs<=K:=by
 obtain⟨f,E,o, -,r,e⟩:=h;have u:=List.length_pos_iff.2 g;have p:∀i,A.length<=i->f i=0:=fun i q=>by
  have:=e i;rw[bV q,Rat.zero_mul] at this;exact Rat.intCast_inj.1 (this.symm.trans Rat.intCast_zero.symm)
 have k:∀i,cf ((List.range A.length).map f) i=f i:=fun i=>by
  rw[qA];split
  ·rfl
  ·exact(p i (by omega)).symm
 have c:((List.range A.length).map f).length=A.length:=by rw[cH,List.length_range]
 have l:(List.range A.length).map f≠[]:=fun a=>by rw[a] at c;simp at c;omega
 have s:aN ((List.range A.length).map f):=(eI l).2 (by
  rw[c,k];intro a;have j:=e (A.length-1);rw[a,Rat.intCast_zero] at j;rcases Rat.mul_eq_zero.1 j with d|d
  ·exact(eI g).1 t d
  ·exact gJ (show E≠0 by omega) d)
 rw[bq6 o b.pos (oO b.pos b.dvd t) (fun a=>g ((azG A D).1 a)) s l (by rw[oN,c]) (fun i=>by
  refine Rat.intCast_inj.1 ?_;rw[eJ,eJ,JC A D b.dvd,k,<-e i];grind)]
 exact gU (fun n hn=>by
  obtain⟨i, -,rfl⟩:=List.mem_map.1 hn;exact r i)
def czD{A B:List Rat}(k:aN A)(l:aN B)(b:A≠[])(c:B≠[]):(aW aV (eF A B)).length+1=A.length+B.length∧cf (aW aV (eF A B)) ((aW aV (eF A B)).length-1)=cf A (A.length-1)*cf B (B.length-1):=by
 have s:=List.length_pos_iff.2 b;have t:=List.length_pos_iff.2 c;have d:∀i,cf (aW aV (eF A B)) i=conv (cf A) (cf B) i:=fun i=>by rw[iS,aqH]
 have e:=p5 (p:=cf A) (q:=cf B) (m:=A.length-1) (n:=B.length-1) (fun i g=>bV (by omega)) (fun i g=>bV (by omega));have f:cf A (A.length-1)*cf B (B.length-1)≠0:=m6 ((eI b).1 k) ((eI c).1 l);have o:(aW aV (eF A B)).length<=A.length+B.length-1:=XT (fun j a=>by rw[aqH];exact rG (fun j a=>bV a) (fun j a=>bV a) (by omega));have r:A.length-1+(B.length-1)<(aW aV (eF A B)).length:=by
  rcases dE (A.length-1+(B.length-1)) (aW aV (eF A B)).length with h|h
  ·exact h
  ·exact absurd (by rw[<-e,<-d,bV h]) f
 exact⟨by omega,by rw[d,show(aW aV (eF A B)).length-1=A.length-1+(B.length-1) by omega,e]⟩
def czE(A B:List Rat)(x:Rat):aI (aW aV (eF A B)) x=aI A x*aI B x:=by
 rw[<-fY];exact oT (fun i=>by rw[iS,aqH,uU]) x
def T8:List (List Rat)->Nat->Nat
 |[],_=>0
 |f :: F,n=>n*(f.length-1)+T8 F (n+1)
def O8:List (List Rat)->Nat->Rat->Rat
 |[],_,_=>1
 |f :: F,n,x=>aI f x^n*O8 F (n+1) x
structure OuI(lead:Rat)(K N:Nat)(G:Rat->Rat)(f:List Rat)(r:Nat)(rest:List (List Rat))(n:Nat)(O:List Rat):Prop where
 tr:aN O
 ne:O≠[]
 le:cf O (O.length-1)=lead
 len:O.length+r*(f.length-1)+T8 rest n=N+1
 qf:QF O (41+K*(O.length-1))
 ev:∀x,aI O x*aI f x^r*O8 rest n x=G x
def OuI.next{lead:Rat}{K N:Nat}{G:Rat->Rat}{f:List Rat}{r:Nat}{rest:List (List Rat)}{n:Nat}{O:List Rat}(h:OuI lead K N G f (r+1) rest n O)(o:aN f)(d:f≠[])(a:cf f (f.length-1)=1)(m:QF f (K-1))(p:1<=K)(q:N<=1000):OuI lead K N G f r rest n (aW aV (eF O f)):=by
 obtain⟨b,l⟩:=czD h.tr o h.ne d;have t:=List.length_pos_iff.2 h.ne;have s:=List.length_pos_iff.2 d;have k:=h.len;rw[Nat.succ_mul] at k;refine⟨jS _,fun e=>by rw[e] at b;simp at b;omega,by rw[l,h.le,a,Rat.mul_one],by omega,?_,fun x=>by rw[czE,<-h.ev x,Rat.pow_succ];grind⟩;by_cases g:f.length=1
 ·have e:aW aV (eF O f)=O:=oZ (jS _) h.tr (fun i=>by
   obtain⟨c,rfl⟩:=List.length_eq_one_iff.1 g;have j:c=1:=a;subst j;rw[iS,aqH,sO,bq2,Rat.one_mul])
  rw[e];exact h.qf
 ·refine(h.qf.mul m (by omega)).mono ?_;have e:(aW aV (eF O f)).length-1=O.length-1+(f.length-1):=by omega
  rw[e,iL];have:=eV K (show 1<=f.length-1 by omega);omega
def OuI.open_{lead:Rat}{K N:Nat}{G:Rat->Rat}{f g:List Rat}{rest:List (List Rat)}{n:Nat}{O:List Rat}(h:OuI lead K N G f 0 (g :: rest) n O):OuI lead K N G g n rest (n+1) O:=
 ⟨h.tr,h.ne,h.le,by have:=h.len;rw[Nat.zero_mul] at this;unfold T8 at this;omega,h.qf,fun x=>by have:=h.ev x;rw[Rat.pow_zero] at this;unfold O8 at this;grind⟩
def OuI.size{lead:Rat}{K N:Nat}{G:Rat->Rat}{f:List Rat}{r:Nat}{rest:List (List Rat)}{n:Nat}{O:List Rat}(h:OuI lead K N G f r rest n O):O.length<=N+1:=by have:=h.len;omega
def OuI.done{K:Nat}{G:Rat->Rat}{f:List Rat}{n:Nat}{O P:List Rat}{k:Rat}(h:OuI (cf P (P.length-1)) K (P.length-1) G f 0 [] n O)(l:aN P)(j:P≠[])(p:∀x,aI P x=k*G x):O=P:=by
 have g:=h.len;have t:=List.length_pos_iff.2 j;rw[Nat.zero_mul] at g;have s:O.length=P.length:=by unfold T8 at g;omega
 have e:∀i,cf P i=k*cf O i:=fun i=>by
  have:=LL (a:=P) (b:=O.map (fun q=>k*q)) (fun x=>by
   rw[iI,p,<-h.ev x,Rat.pow_zero];unfold O8;grind) i
  rw[this,mG (fun q=>k*q) (gX _)]
 have m:=e (P.length-1);have c:=h.le;rw[s] at c;rw[c] at m;have o:=(eI j).1 l;have r:k=1:=by
  have:(k-1)*cf P (P.length-1)=0:=by grind
  rcases Rat.mul_eq_zero.1 this with d|d
  ·grind
  ·exact absurd d o
 refine oZ h.tr l (fun i=> ?_);rw[e i,r,Rat.one_mul]
def GB:List (List Int)->Nat->Nat
 |[],_=>0
 |e :: es,n=>n*(e.length-1)+GB es (n+1)
def czF(es:List (List Int)):∀n,T8 (es.map b6) n=GB es n:=by
 induction es with
 |nil=>intro n;rfl
 |cons e es a=>
  intro n;show n*((b6 e).length-1)+T8 (es.map b6) (n+1)=_
  rw[a,show(b6 e).length=e.length from cH _];rfl
def cxJ(e:List Int)(x:Rat):aI (b6 e) x=(1/((cf e (e.length-1):Int):Rat))*aX e x:=by
 rw[pN,<-p3,<-iI];exact oT (fun i=>by rw[dS,mG (fun q=>(1/((cf e (e.length-1):Int):Rat))*q) (gX _),dS,Rat.one_mul]) x
def cyF{x:Rat}(h:x≠0):∀n:Nat,x^n≠0
 |0=>by rw[Rat.pow_zero];decide
 |n+1=>by rw[Rat.pow_succ];exact m6 (cyF h n) h
def cyG(x y:Rat):∀n:Nat,(x*y)^n=x^n*y^n
 |0=>by rw[Rat.pow_zero,Rat.pow_zero,Rat.pow_zero,Rat.mul_one]
 |n+1=>by rw[Rat.pow_succ,Rat.pow_succ,Rat.pow_succ,cyG x y n];grind
def czG{es:List (List Int)}(h:∀e∈es,e≠[]∧aN e):∀n,∃k:Rat,k≠0∧∀x,O8 (es.map b6) n x=k*O9 es n x:=by
 induction es with
 |nil=>exact fun n=>⟨1,by decide,fun x=>by show(1:Rat)=1*1;rw[Rat.mul_one]⟩
 |cons e es f=>
  intro n;obtain⟨k,c,a⟩:=f (fun e b=>h e (j8 _ b)) (n+1);obtain⟨g,i⟩:=h e (iC ..);have d:=bqR (gJ ((eI g).1 i));refine⟨(1/((cf e (e.length-1):Int):Rat))^n*k,m6 (cyF d n) c,fun x=> ?_⟩;show aI (b6 e) x^n*O8 (es.map b6) (n+1) x=_*(aX e x^n*O9 es (n+1) x)
  rw[a,cxJ,cyG];grind
def RfO.degs{B:Nat}{r a g:List Int}{es:List (List Int)}(h:RfO B r a g es):r.length=1+GB es 1∧∀n,GB es (n+1)+1=GB es n+a.length:=by
 induction h with
 | @last r a g o k c d h f u=>
  have l:=(K7 c.tr k.tr d.tr d.ne f).2 c.ne;have z:=List.length_pos_iff.2 c.ne;refine⟨by unfold GB GB;omega,fun n=>by unfold GB GB;rw[Nat.succ_mul];omega⟩
 | @step r a g b s e es o k c d j h f p t q=>
  obtain⟨-, -,i, -⟩:=t.facts;have l:=(K7 c.tr k.tr d.tr d.ne f).2 c.ne;have y:=(K7 j.tr c.tr i.tr i.ne p).2 j.ne;have C:=List.length_pos_iff.2 j.ne;have A:=List.length_pos_iff.2 i.ne;obtain⟨v,m⟩:=q;have w:=m 1;refine⟨by show _=1+(1*(e.length-1)+GB es (1+1));omega,fun n=> ?_⟩;have x:=m (n+1);show(n+1)*(e.length-1)+GB es (n+1+1)+1=n*(e.length-1)+GB es (n+1)+a.length
  rw[Nat.succ_mul];omega
def cyE{B:Nat}{xs ys g:List Int}(b:aN xs)(c:aN ys)(j:xs≠[])(h:pO B xs ys g):Pp g∧Dv (cf (aS xs)) g∧Dv (cf (aS ys)) g:=by
 have f:=xZ (nI b j);have i:aS ys=[]∨bN (aS ys)=1:=by
  by_cases d:ys=[]
  ·exact .inl (cG (by rw[dF,d];rfl))
  ·exact .inr (xZ (nI c d))
 have a:bN g=1∧aN g∧Dv (cf (aS xs)) g∧Dv (cf (aS ys)) g:=by
  unfold pO at h;split at h
  ·rename_i l;have k:=i.resolve_left (fun e=>by have:=dF ys;rw[e] at this;simp at this;omega);exact⟨XA h k (.inr f),P7 h (gV c) (gV b),(JS h).2,(JS h).1⟩
  ·exact⟨XA h f i,P7 h (gV b) (gV c),(JS h).1,(JS h).2⟩
 exact⟨⟨(fun e=>by rw[e] at a;exact absurd a.1 (by decide)),a.2.1,a.1⟩,a.2.2⟩
def czA{B K L:Nat}{xs ys g:List Int}(d:aN xs)(r:aN ys)(c:xs≠[])(h:pO B xs ys g)(j:∀n∈aS xs,nl n.natAbs<=K)(t:xs.length<=L)(i:L<=1000):(∀n∈g,nl n.natAbs<=K+2*L*(K+1)+1)∧g.length<=L:=by
 obtain⟨b,f, -⟩:=cyE d r c h;have o:=dF xs;have a:Pp (aS xs):=⟨fun e=>c (cG (by rw[<-o,e];rfl)),gV d,xZ (nI d c)⟩;obtain⟨k,s,p,q,m,l⟩:=bx2 b.pr b.tr a.tr a.ne f;obtain⟨-,dg⟩:=(DvW.refl a).quo p q k b.tr b.pr m l;exact⟨fun n hn=>dg.nums a.ne a.tr j (by omega) i n hn,by have:=dg.len;omega⟩
def Prp.dvE{A:List Rat}{a g:List Int}(h:Prp A a)(k:Dv (cf a) g):DvE (aI A) (aT 1 g):=by
 obtain⟨c, -,rfl⟩:=h.eq_smul;obtain⟨u,b⟩:=P6 k;refine⟨u.map (fun q=>c*q),fun x=> ?_⟩;have e:aI (aT c a) x=c*aX a x:=by
  rw[<-p3,<-iI];exact oT (fun i=>by rw[dS,mG (fun q=>c*q) (gX _),dS,Rat.one_mul]) x
 rw[e,b,iI];grind
def czB{A B:List Rat}{g:List Int}(a:Pp g)(m:DvE (aI A) (aT 1 g))(n:DvE (aI B) (aT 1 g))(h:Cop A B):g.length=1:=by
 obtain⟨u,r⟩:=m;obtain⟨v,hv⟩:=n;obtain⟨U,V,k⟩:=h;have s:=List.length_pos_iff.2 a.ne;rcases dE 1 g.length with f|f
 ·exfalso;have e:∀x,aI (fG (j0 (fG U u) (fG V v)) (aT 1 g)) x=aI [1] x:=fun x=>by
   rw[fY,lG,fY,fY,show aI [1] x=0*x+1 from rfl];have:=k x;rw[r,hv] at this;grind
  generalize j0 (fG U u) (fG V v)=q at *;have c:aW aV q≠[]:=fun d=>by
   have j:=e 0;rw[fY,<-oT (iS q),d,show aI [] (0:Rat)=0 from rfl,Rat.zero_mul,show aI [1] (0:Rat)=0*0+1 from rfl] at j;grind
  have t:=List.length_pos_iff.2 c;have o:cf (aT 1 g) (g.length-1)≠0:=by rw[dS,Rat.one_mul];exact gJ ((eI a.ne).1 a.tr)
  have b:=LL e ((aW aV q).length-1+(g.length-1));rw[uU,<-gL (iS q) (fun _=>rfl),p5 (fun i p=>bV (by omega)) (fun i p=>bV (by rw[fX];omega)),bV (l:=[(1:Rat)]) (by rw[iJ];omega)] at b;exact m6 ((eI c).1 (jS q)) o b
 ·omega
end Go.Proofs.YtapgbkldiinabaaGreatDoor
namespace Go.Proofs.YtapgbkldiinabaaGreatDoor
open Go.RowKit Sos Go.Proofs.Tryz
def cyD(a b:List (List UInt8))(va vb:Value)(w:World)(i:Glob w)(ha:StrsAt w va a)(af:StrsAt w vb b)(f L K B:Nat)(az:a.length<=L)(a0:b.length<=L)(hL:L<=65)(ai:∀l∈a,l.length<=1073741824)(aj:∀l∈b,l.length<=1073741824)(G:∀q∈aU a,RL f q)(H:∀q∈aU b,RL f q)(o:vl a=true)(p:vl b=true)(V:a≠[])
  (I:∀D z,ComDen (aU a) D z->∀n∈aS (cC (aU a) D),nl n.natAbs<=K)(ae:∀D z,ComDen (aU b) D z->∀n∈aS (cC (aU b) D),nl n.natAbs<=K)(an:1<=K)(au:6*(1+66*f)+8<=aJ)(ao:K+2*L*(K+1)+1<=1073741824)
  (hB:a.length<b.length->(K+1)*(b.length-a.length+2)*3^a.length<=B)(ad:¬a.length<b.length->(K+1)*(a.length-b.length+2)*3^b.length<=B)(am:5*B+8<=aJ):
  Calls prog 15 #[va,vb] w fun e w'=>∃v T,e= .returned (.tuple #[v,.int .i64 0])∧StrsAt w' v T∧(Cop (aU a) (aU b)->T.length=1)∧Below w.heap.size w w':=by
 obtain⟨A,c,rfl,hc⟩:=ha.form;obtain⟨A',c',rfl,av⟩:=af.form;go_enter func15,ntmps15;go_wp2_with fail;refine(I8 a _ _ i ha (by omega) (fun _=>ai) f (1+65*f) (fun _=>G) aE (by omega)).mono ?_;rintro e1 w1 ⟨v1,a2,xs,D,rfl,j,hD,ak,ag⟩;obtain⟨A1,c1,rfl,aw⟩:=j.form;obtain⟨s1,B1,k1,C,rfl⟩:=hD.form;obtain⟨w2,S,ac,X⟩:=bI w1 [.bool s1,.slice B1 k1 C] 44;replace j:=j.be ac;have d:=aC ag ac;have R:=X.k2;go_wp2_with fail;(try rw[S]);clear S;refine(I8 b _ _ (i.be d) (af.be d) (by omega) (fun _=>aj) f (1+65*f) (fun _=>H) aE (by omega)).mono ?_;rintro e3 w3 ⟨v3,a3,ys,E,rfl,s,hE,al,J⟩;obtain⟨A3,c3,rfl,ax⟩:=s.form;obtain⟨s3,B3,k3,d3,rfl⟩:=hE.form;replace X:=X.be J;replace j:=j.be J;replace d:=aC d J;obtain⟨w4,U,r,Y⟩:=bI w3 [.bool s3,.slice B3 k3 d3] 44;replace X:=X.be r;replace j:=j.be r;replace s:=s.be r;replace d:=aC d r;clear R;have R:=X.k2;obtain⟨rfl,k⟩:=ak o;obtain⟨rfl,m⟩:=al p;have x:=oO k.pos k.dvd (pJ o).2.2;have y:=oO m.pos m.dvd (pJ p).2.2;have Q:=sA _ D f _ G k.nl_;have P:=sA _ E f _ H m.nl_;have t:(cC (aU a) D).length=a.length:=by rw[oN,VS]
 have N:(cC (aU b) E).length=b.length:=by rw[oN,VS]
 have M:cC (aU a) D≠[]:=fun e=>V (cG (by rw[<-t,e];rfl));have ah:=fun W v u i h1 h2=>byT (cC (aU a) D) (cC (aU b) E) v u W i h1 h2 x y (f+(1+65*f)) K B Q P (by omega) (I D _ k) (ae E _ m) an (by rw[t,N];exact hB) (by rw[t,N];exact ad) am (by omega) (by omega);have O:Hid (∀g,pO B (cC (aU a) D) (cC (aU b) E) g->g≠[]∧(Cop (aU a) (aU b)->g.length=1)∧(∀n∈g,nl n.natAbs<=K+2*L*(K+1)+1)∧g.length<=L):=fun g h=>by
  obtain⟨pg,C,d2⟩:=cyE x y M h;exact⟨pg.ne,czB pg ((nM (uE k (pJ o).2.2)).dvE C) ((nM (uE m (pJ p).2.2)).dvE d2),czA x y M h (I D _ k) (by omega) (by omega)⟩
 (try rw[o]);(try rw[p]);clear ak al o p k m x y Q P t N G H ai aj I ae hB ad M V;generalize cC (aU a) D=NA at *;generalize cC (aU b) E=NB at *;go_wp2_with fail;(try rw[U]);clear U;refine(ah _ _ _ (i.be d) j s).mono ?_;rintro e5 w5 ⟨v5,g,rfl,Z,hT,ap⟩;obtain⟨F,lg,kg,a1⟩:=O.out g hT;obtain⟨A5,c5,rfl,ay⟩:=Z.form;replace d:=aC d ap;have r0:((g.length:Int)==0)=false:=by rw[beq_eq_false_iff_ne];have:=List.length_pos_iff.2 F;omega
 have ar:=fun W i h=>byU g (.slice A5 g.length c5) W i h F _ kg (by omega) ao (by omega);have HL:Hid (Cop (aU a) (aU b)->(tH g).length=1):=fun h=>by unfold tH eQ;rw[cH,cH];exact lg h
 clear lg F ah hT O;go_wp2_with fail;refine(ar _ (i.be d) Z).mono ?_;rintro e6 w6 ⟨v6,rfl,h6,aq⟩;go_wp2;go_ret2;exact⟨_,_,rfl,h6,HL.out,aC d aq⟩
structure TxG(T:List (List UInt8))(K L:Nat):Prop where
 qf:QF (aU T) K
 len:T.length<=L
 txt:∀l∈T,l.length<=1073741824
def mT(a b:List (List UInt8)):List (List UInt8):=if vl a=true∧vl b=true then (aW aV (eF (aU a) (aU b))).map cW else []
def mE(a b:List (List UInt8)):Int:=if vl a=true∧vl b=true then 0 else 1
def cy8(A B:List Rat):(aW aV (eF A B)).length<=A.length+B.length-1:=by
 refine aH (oY _ _) ?_;unfold eF;split
 ·simp
 ·rw[cH,List.length_range];exact aE
def cy5{A:List Rat}{K L:Nat}(h:QF A K)(b:1<=K)(d:K<=1000000)(a:A.length<=L):TxG (A.map cW) K L:=
 ⟨by rw[P9];exact h,by rw[cH];exact a,fun l a=>by
  obtain⟨q,c,rfl⟩:=List.mem_map.1 a;exact aH (cyT (h.nums b q c)) (by omega)⟩
def TxG.mul{a b:List (List UInt8)}{K L k l:Nat}(c:TxG a K k)(d:TxG b L l)(i:1<=K)(j:1<=L)(m:K+L<=1000)(f:k+l<=64):TxG (mT a b) (K+L+1) (k+l-1):=by
 have n:=c.len;have o:=d.len;have g:=cy8 (aU a) (aU b);rw[VS,VS] at g;unfold mT;split
 ·exact cy5 (c.qf.mul d.qf (by rw[VS,VS];omega)) (by omega) (by omega) (by omega)
 ·exact⟨QF.nil.mono (by omega),dC _,fun l f=>by cases f⟩
def V0{a b:List (List UInt8)}(c:vl a=true)(d:vl b=true)(g:a.length+b.length<=65):vl (mT a b)=true∧mE a b=0∧aU (mT a b)=aW aV (eF (aU a) (aU b)):=by
 have f:=cy8 (aU a) (aU b);rw[VS,VS] at f;unfold mT mE;rw[if_pos ⟨c,d⟩,if_pos ⟨c,d⟩,P9];exact⟨cxV (by omega) (jS _),rfl,rfl⟩
def cy9{a b:List (List UInt8)}(h:¬(vl a=true∧vl b=true)):mE a b=1:=if_neg h
def V1{a b:List (List UInt8)}{K L k l:Nat}(c:TxG a K k)(d:TxG b L l)(f:1<=K)(g:1<=L)(n:K+L<=1000000)(o:k+l<=64)(v u:Value)(W:World)(j:Glob W)(hv:StrsAt W v a)(m:StrsAt W u b):Calls prog 13 #[v,u] W (G8 W (mT a b) (mE a b)):=by
 have p:=c.len;have q:=d.len;refine(cyR a b v u W j hv m (by omega) (by omega) (K+L) (fun _=>c.txt) (fun _=>d.txt) (fun _=>CW (c.qf.nums f) (by omega)) (fun _=>CW (d.qf.nums g) (by omega)) (by omega)).mono (fun e r h=> ?_);have i:=cy8 (aU a) (aU b);rw[VS,VS] at i;unfold X7 at h;unfold mT mE;by_cases hv:vl a=true∧vl b=true
 ·rw[if_pos hv] at h;unfold P5 at h;rw[if_pos (by omega),if_pos (by omega)] at h;rw[if_pos hv,if_pos hv];exact h
 ·rw[if_neg hv] at h;rw[if_neg hv,if_neg hv];exact h
structure FaG(e:List Int):Prop where
 pp:Pp e
 len:e.length<=19
 num:∀n∈e,nl n.natAbs<=1405
 cop:Cop (aT 1 e) (fW (aT 1 e))
def fT(e:List Int):List (List UInt8):=(b6 e).map cW
def dT(e:List Int):List (List UInt8):=(aW aV (fW (b6 e))).map cW
def N8(e:List Int):(fT e).length=e.length:=by unfold fT b6 eQ;rw[cH,cH]
section
variable {e:List Int}(h:FaG e)
include h
def FaG.qf:QF (b6 e) 1405:=QF.mon_ h.pp.ne h.pp.tr h.num
def FaG.tx:TxG (fT e) 1405 19:=cy5 h.qf (by decide) (by decide) (by rw[(uD h.pp.tr).1];exact h.len)
def FaG.vl_:vl (fT e)=true:=cxV (by rw[(uD h.pp.tr).1];have:=h.len;omega) (uD h.pp.tr).trim
def FaG.dq:QF (aW aV (fW (b6 e))) 1406:=h.qf.der (by rw[(uD h.pp.tr).1];have:=h.len;omega)
def FaG.dl:(aW aV (fW (b6 e))).length=e.length-1:=by
 rw[(MI (uD h.pp.tr)).2,qO,(uD h.pp.tr).1]
def FaG.one:cf (b6 e) ((b6 e).length-1)=1:=by
 rw[(uD h.pp.tr).1];unfold b6;rw[xN];exact bx3 (gJ ((eI h.pp.ne).1 h.pp.tr)) (Rat.one_mul _).symm
end
def Cop.scale{a b f g:List Rat}{c d:Rat}(h:Cop a b)(l:c≠0)(m:d≠0)(i:∀x,aI f x=c*aI a x)(j:∀x,aI g x=d*aI b x):Cop f g:=by
 obtain⟨u,v,k⟩:=h;have p:=gW (a:=1) l;have r:=gW (a:=1) m;refine⟨u.map (fun q=>(1/c)*q),v.map (fun q=>(1/d)*q),fun x=> ?_⟩;rw[iI,iI,i,j];have:=k x;generalize 1/c=n at *;generalize 1/d=o at *;grind
def cz7{e f:List Int}(a:Pp e)(b:Pp f)(h:Cop (aT 1 e) (aT 1 f)):Cop (b6 e) (b6 f):=
 h.scale (bqR (gJ ((eI a.ne).1 a.tr))) (bqR (gJ ((eI b.ne).1 b.tr))) (cxJ e) (cxJ f)
def cz8{e:List Int}(a:Pp e)(h:Cop (aT 1 e) (fW (aT 1 e))):Cop (b6 e) (aW aV (fW (b6 e))):=by
 have b:=bqR (gJ ((eI a.ne).1 a.tr));refine h.scale b b (cxJ e) (fun x=> ?_);rw[oT (iS _),<-qW,<-qW,<-axU];exact axS (fun i=>LL (fun y=>by rw[cxJ,iI,p3]) i) x
def cz9{e:List Int}(h:FaG e)(v:Value)(W:World)(c:Glob W)(hv:StrsAt W v (fT e)):Calls prog 14 #[v] W (G8 W (dT e) 0):=by
 have b:=h.tx;have d:aU (fT e)=b6 e:=P9 _;refine(cyY (fT e) v W c hv (by have:=b.len;omega) b.txt 1405 (b.qf.nums (by decide)) (by decide) (by decide)).mono (fun f g a=> ?_);unfold cy0 at a;rw[if_pos h.vl_,d] at a;exact a
def cy6(w:World)(P:Prop)(e:Ending)(w':World):Prop:=∃v T,e= .returned (.tuple #[v,.int .i64 0])∧StrsAt w' v T∧(P->T.length=1)∧Below w.heap.size w w'
def cyC{e:List Int}(h:FaG e):(∀v u W,Glob W->StrsAt W v (fT e)->StrsAt W u (dT e)->Calls prog 15 #[v,u] W (cy6 W True))∧∀f,FaG f->∀v u W,Glob W->StrsAt W v (fT e)->StrsAt W u (fT f)->Calls prog 15 #[v,u] W (cy6 W (Cop (aT 1 e) (aT 1 f))):=by
 have b:=h.tx;have i:∀e,aU (fT e)=b6 e:=fun e=>P9 _;have A:aU (dT e)=aW aV (fW (b6 e)):=P9 _;have L:=(uD h.pp.tr).trim;have C:=h.len;have z:∀{e:List Int},FaG e->fT e≠[]:=fun {e} he a=>by have:=N8 e;rw[a] at this;exact he.pp.ne (cG this.symm)
 have r:∀{e:List Int},FaG e->∀D j,ComDen (aU (fT e)) D j->∀n∈aS (cC (aU (fT e)) D),nl n.natAbs<=1406:=fun {e} he D j c n hn=>by
  rw[i] at c hn;exact aH (he.qf.prim c (uD he.pp.tr).trim (fun a=>he.pp.ne (cG (by rw[<-(uD he.pp.tr).1,a];rfl))) n hn) (by decide)
 refine⟨fun v u W k hv s=> ?_,fun f d v u W k hv s=> ?_⟩
 ·have o:=cy5 h.dq (by decide) (by decide) (show _<=19 by rw[h.dl];omega);have w:(dT e).length=e.length-1:=by show((aW aV (fW (b6 e))).map cW).length=_;rw[cH,h.dl]
  have K:=List.length_pos_iff.2 h.pp.ne;refine(cyD (fT e) (dT e) v u W k hv s 1406 19 1406 3300000000000 b.len o.len (by decide) b.txt o.txt (CW (b.qf.nums (by decide)) (by decide)) (o.qf.nums (by decide)) h.vl_ (cxV (by rw[h.dl];omega) (jS _)) (z h) (r h) (fun D j c n hn=> ?_) (by decide) (by unfold aJ;decide) (by decide) (fun g=>by rw[N8,w] at g;omega) (fun _=> ?_) (by unfold aJ;decide)).mono ?_
  ·rw[A] at c hn;by_cases a:aW aV (fW (b6 e))=[]
   ·rw[a] at hn;have H:aS (cC [] D)=[]:=cG (by rw[dF];rfl)
    rw[H] at hn;cases hn
   ·exact h.dq.prim c (jS _) a n hn
  ·rw[N8,w];have G:e.length-(e.length-1)+2=3:=by omega
   rw[G];exact aH (eV _ (cO (by decide) (show e.length-1<=18 by omega))) (by decide)
  ·rintro F J ⟨t,T,rfl,l,q,m⟩;exact⟨t,T,rfl,l,fun _=>q (by rw[i,A];exact cz8 h.pp h.cop),m⟩
 ·have p:=d.tx;have E:=d.len;have B:∀x,x<=19->∀y,y<=19->(1406+1)*(y-x+2)*3^x<=3300000000000∨y<x:=by decide
  refine(cyD (fT e) (fT f) v u W k hv s 1406 19 1406 3300000000000 b.len p.len (by decide) b.txt p.txt (CW (b.qf.nums (by decide)) (by decide)) (CW (p.qf.nums (by decide)) (by decide)) h.vl_ d.vl_ (z h) (r h) (r d) (by decide) (by unfold aJ;decide) (by decide) (fun g=> ?_) (fun g=> ?_) (by unfold aJ;decide)).mono ?_
  ·rw[N8,N8] at g⊢;exact(B _ C _ E).resolve_right (by omega)
  ·rw[N8,N8] at g⊢;exact(B _ E _ C).resolve_right (by omega)
  ·rintro F J ⟨t,T,rfl,l,q,m⟩;exact⟨t,T,rfl,l,fun I=>q (by rw[i,i];exact cz7 h.pp d.pp I),m⟩
def RfO.lastLong{B:Nat}{r a g:List Int}{es:List (List Int)}(h:RfO B r a g es):∃e,es.getLast?=some e∧1<e.length:=by
 induction h with
 | @last r a g c k i j h f m=>exact⟨a,rfl,(RfO.last c k i j h f m).long⟩
 | @step r a g b o e es c k i j q h f p t n=>
  obtain⟨x,d,l⟩:=n;refine⟨x,?_,l⟩;cases es with
  |nil=>cases d
  |cons y s=>rw[List.getLast?_cons_cons];exact d
structure FacL(T:List (List UInt8))(es:List (List Int))(k:Rat):Prop where
 cnt:es.length<=T.length
 fac:∀e∈es,FaG e
 cop:es.Pairwise (fun e f=>Cop (aT 1 e) (aT 1 f))
 lst:es=[]∨∃e,es.getLast?=some e∧1<e.length
 deg:T8 (es.map b6) 1+1=T.length
 val:∀x,aI (aU T) x=k*(cf (aU T) (T.length-1)*O8 (es.map b6) 1 x)
def cz6{G:World}(R:Glob G){T:List (List UInt8)}(f:TxG T 35 19)(hv:vl T=true)(y:T≠[]):∃es k,FacL T es k∧∀v W,Glob W->StrsAt W v T->Calls prog 9 #[v] W fun e w'=>∃v,e= .returned (.tuple #[v,.int .i64 0])∧TsAt w' W.heap.size 22 v (tG (es.map b6))∧Below W.heap.size W w':=by
 have u:=(pJ hv).2.2;have w:=VS T;have lT:=f.len;have t:aU T≠[]:=fun e=>y (cG (by rw[<-w,e];rfl));have E:=f.qf.nums (by decide);obtain⟨D,l⟩:=U8 E;obtain⟨j,lw,Z⟩:=bxQ l u t;have s:=f.qf.prim l u t;obtain⟨es,hF,S⟩:=cxC (N:=19) (K:=1405) (B:=3300000000000) R j s (by omega) (by decide) (by decide) (by decide) (by unfold aJ;decide);have C:=(eI t).1 u;rw[w] at C;have Y:∃k,FacL T es k:=by
  rcases hF with ⟨h1,rfl⟩|⟨a,g,h⟩
  ·have F:T.length=1:=by omega
   refine⟨1,dC _,(fun e b=>by cases b),List.Pairwise.nil,.inl rfl,by rw[F];rfl,fun x=> ?_⟩;obtain⟨q,V⟩:=List.length_eq_one_iff.1 (show(aU T).length=1 by omega);rw[F,V];show 0*x+q=1*(q*1)
   grind
  ·obtain⟨d1, -⟩:=h.degs;obtain⟨⟨o,ac,J⟩, -⟩:=h.prod;obtain⟨H,I⟩:=h.cops;have m:=h.all (DvW.refl j);obtain⟨r,U,L⟩:=czG (es:=es) (fun e b=>⟨(m e b).ne,(m e b).tr⟩) 1;obtain⟨c,hc,O⟩:=Z.eq_smul;have M:∀x,aI (aU T) x=c*aX (aS (cC (aU T) D)) x:=fun x=>by
    rw[<-p3,<-iI];refine oT (fun i=> ?_) x;rw[mG (fun q=>c*q) (gX _),dS,Rat.one_mul];conv=>lhs;rw[O]
    rw[dS]
   refine⟨c*o*(1/(r*cf (aU T) (T.length-1))),by have:=h.short.1;omega,fun e b=> ?_,I,.inr h.lastLong,by rw[czF];omega,fun x=> ?_⟩
   ·have d:=m e b;exact⟨d.pp,by have:=d.len;omega,fun n hn=>aH (d.nums j.ne j.tr s (show _<=19 by omega) (by decide) n hn) (by decide),(H e b).1⟩
   ·rw[M,J,L];have P:=gW (a:=1) (m6 U C);generalize 1/(r*cf (aU T) (T.length-1))=z at *;generalize O9 es 1 x=p at *;have:c*(o*p)=c*(o*p)*(z*(r*cf (aU T) (T.length-1))):=by rw[P,Rat.mul_one]
    rw[this];grind
 obtain⟨k,A⟩:=Y;exact⟨es,k,A,fun v W Q X=>cxG T es D _ 35 19 35 2311 3300000000000 v W Q X f.len (by decide) f.txt E hv y l (by have:=A.cnt;omega) s (by decide) (by decide) (by decide) (by decide) (by decide) (by decide) (by unfold aJ;decide) S⟩
def cz2{w:World}{A f g:Option Addr}{c c' h:Nat}{a b d:List (List UInt8)}(k:StrsAt w (.slice A a.length c) a)(l:StrsAt w (.slice f b.length c') b)(m:StrsAt w (.slice g d.length h) d)(t:TypeId):
  azQ (w.alloc (.cells #[.slice A a.length c,.slice f b.length c',.slice g d.length h] t)) (.slice (some ⟨w.heap.size,0,none⟩) 3 3) [a,b,d]:=by
 have B:=Bx.new w [.slice A a.length c,.slice f b.length c',.slice g d.length h] t;have j:Below w.heap.size w (w.alloc (.cells #[.slice A a.length c,.slice f b.length c',.slice g d.length h] t)):=(aG _ _).alloc aE _;refine⟨w.heap.size,3,rfl,fun i p e=> ?_⟩;match i,e with
 |0,e=>
  simp at e;subst e;exact⟨A,c,B.cell 0 rfl,k.be j⟩
 |1,e=>
  simp at e;subst e;exact⟨f,c',B.cell 1 rfl,l.be j⟩
 |2,e=>
  simp at e;subst e;exact⟨g,h,B.cell 2 rfl,m.be j⟩
def StrsAt.cellAt'{w:World}{b off c l:Nat}{a:List (List UInt8)}(h:StrsAt w (.slice (some ⟨b,off,none⟩) l c) a){i:Nat}{t:List UInt8}(hi:a[i]? =some t):w.cell? ⟨b,off+i,none⟩=some (.string ⟨t.toArray⟩):=by
 obtain⟨f,g,e, -,d⟩:=h.at_ hi;simp only[Option.some.injEq,Addr.mk.injEq,and_true] at e;rw[e.1,e.2];exact d
def cy4{es:List (List Int)}{j:Nat}{e:List Int}(h:es[j]? =some e):(tG (es.map b6))[j]? =some (fT e):=by
 unfold tG;rw[iK,iK,h];rfl
def cz3{es:List (List Int)}{j:Nat}{e:List Int}(h:es[j]? =some e):(es.map b6).drop j=b6 e :: (es.map b6).drop (j+1):=by
 obtain⟨a,rfl⟩:=List.getElem?_eq_some_iff.1 h;rw[j5 (by rw[cH];exact a),List.getElem_map]
def cz4{O:List Rat}{e:List Int}{lead:Rat}{N:Nat}{G:Rat->Rat}{r n:Nat}{rest:List (List Rat)}(h:OuI lead 1406 N G (b6 e) (r+1) rest n O)(o:N<=18)(a:FaG e):OuI lead 1406 N G (b6 e) r rest n (aW aV (eF O (b6 e)))∧∀v u W,Glob W->StrsAt W v (O.map cW)->StrsAt W u (fT e)->Calls prog 13 #[v,u] W (G8 W ((aW aV (eF O (b6 e))).map cW) 0):=by
 have c:=uD a.pp.tr;have m:b6 e≠[]:=fun i=>a.pp.ne (cG (by rw[<-c.1,i];rfl));refine⟨h.next c.trim m a.one a.qf (by decide) (by omega),fun v u W j hv l=> ?_⟩;have q:=h.size;have s:=eV 1406 (show O.length-1<=18 by omega);have k:=cy5 h.qf (by omega) (by omega) (show O.length<=19 by omega);have b:=V1 k a.tx (by omega) (by decide) (by omega) (by decide) v u W j hv l;have d:vl (O.map cW)=true:=cxV (by omega) h.tr;have p:=a.len;obtain⟨-,f, -⟩:=V0 d a.vl_ (by rw[cH,N8];omega);have g:mT (O.map cW) (fT e)=(aW aV (eF O (b6 e))).map cW:=by
  unfold mT;rw[if_pos ⟨d,a.vl_⟩,P9,show aU (fT e)=b6 e from P9 _]
 rw[f,g] at b;exact b
def cz5(a b c:List (List UInt8))(va vb vc:Value)(w:World)(y:Glob w)(R:StrsAt w va a)(Z:StrsAt w vb b)(D:StrsAt w vc c)(a1:∀l∈a,l.length<=9223372036854775807)(a2:∀l∈b,l.length<=9223372036854775807)(a3:∀l∈c,l.length<=9223372036854775807):
  Calls prog 4 #[va,vb,vc] w fun e w'=>e= .returned (.bool true)∧Below w.heap.size w w':=by
 obtain⟨A,k1,rfl, -⟩:=R.form;obtain⟨A',k2,rfl, -⟩:=Z.form;obtain⟨A2,k3,rfl, -⟩:=D.form;have M:=cz2 R Z D 22;have d:Below w.heap.size w (w.alloc (.cells #[.slice A a.length k1,.slice A' b.length k2,.slice A2 c.length k3] 22)):=(aG _ _).alloc aE _
 have a6:=fun W v (M:azQ W v [a,b,c])=>show Calls prog 5 #[.int .i64 4,.int .i64 4,v] W fun e w'=>e= .returned (.bool (G7 4 4 [a,b,c]))∧W=w' from bzO 4 4 [a,b,c] v W M (by decide) (by decide) (by show 3<=1073741824;decide) (fun p M=>by
  simp only[List.mem_cons,List.not_mem_nil,or_false] at M;rcases M with rfl|rfl|rfl
  ·exact a1
  ·exact a2
  ·exact a3)
 clear a1 a2 a3;go_enter func4,ntmps4;go_wp2_with fail;replace R:=R.be d;replace Z:=Z.be d;replace D:=D.be d;generalize w.alloc (.cells #[.slice A a.length k1,.slice A' b.length k2,.slice A2 c.length k3] 22)=W at *;refine(a6 _ _ M).mono ?_;rintro e1 w1 ⟨rfl,rfl⟩;clear a6 M;cases hs:G7 4 4 [a,b,c] with
 |false=>
  clear hs;go_wp2_with fail;refine(aq2 _ (y.be d)).mono ?_;rintro H F ⟨rfl,o⟩;go_wp2;go_ret;exact⟨rfl,aC d o⟩
 |true=>
  have tx:∀p∈[a,b,c],TxG p 5 4:=fun p M=>by
   obtain⟨l,s⟩:=aqW hs M;exact⟨QF.short (pI (fun l hl=>aH (s l hl) (by decide))) (by rw[VS];exact l),l,fun l hl=>aH (s l hl) (by decide)⟩
  have ta:=tx a (by simp);have tb:=tx b (by simp);have Y:=tx c (by simp);have t1:=tb.mul tb (by decide) (by decide) (by decide) (by decide);have t2:=ta.mul t1 (by decide) (by decide) (by decide) (by decide);have t3:=Y.mul Y (by decide) (by decide) (by decide) (by decide);have t4:=t3.mul Y (by decide) (by decide) (by decide) (by decide);have V:=t2.mul t4 (by decide) (by decide) (by decide) (by decide);have c1:=V1 tb tb (by decide) (by decide) (by decide) (by decide);have c2:=V1 ta t1 (by decide) (by decide) (by decide) (by decide);have c3:=V1 Y Y (by decide) (by decide) (by decide) (by decide);have c4:=V1 t3 Y (by decide) (by decide) (by decide) (by decide);have c5:=V1 t2 t4 (by decide) (by decide) (by decide) (by decide);have HE:Hid (mE b b=1∨mE a (mT b b)=1∨mE c c=1∨(mE b b=0∧mE a (mT b b)=0∧mE c c=0∧mE (mT c c) c=0∧mE (mT a (mT b b)) (mT (mT c c) c)=0∧vl (mT (mT a (mT b b)) (mT (mT c c) c))=true)):=by
   by_cases vb:vl b=true
   ·by_cases va:vl a=true
    ·by_cases vc:vl c=true
     ·have l1:=ta.len;have l2:=tb.len;have l3:=Y.len;have l4:=t1.len;have l5:=t2.len;have l6:=t3.len;have l7:=t4.len
      obtain⟨v1,N, -⟩:=V0 vb vb (by omega);obtain⟨v2,z2, -⟩:=V0 va v1 (by omega);obtain⟨v3,z3, -⟩:=V0 vc vc (by omega);obtain⟨v4,z4, -⟩:=V0 v3 vc (by omega);obtain⟨v5,z5, -⟩:=V0 v2 v4 (by omega);exact .inr (.inr (.inr ⟨N,z2,z3,z4,z5,v5⟩))
     ·exact .inr (.inr (.inl (cy9 (fun h=>vc h.1))))
    ·exact .inr (.inl (cy9 (fun h=>va h.1)))
   ·exact .inl (cy9 (fun h=>vb h.1))
  unfold G8 at c1 c2 c3 c4 c5;clear hs tx ta tb Y t1 t2 t3 t4;generalize mT (mT a (mT b b)) (mT (mT c c) c)=T at *;generalize mE (mT a (mT b b)) (mT (mT c c) c)=E5 at *;generalize mT a (mT b b)=T2 at *;generalize mE a (mT b b)=E2 at *;generalize mT b b=T1 at *;generalize mE b b=E1 at *;generalize mT (mT c c) c=T4 at *;generalize mE (mT c c) c=E4 at *;generalize mT c c=T3 at *;generalize mE c c=E3 at *;go_wp2_with fail;refine(c1 _ _ _ (y.be d) Z Z).mono ?_;rintro e2 w2 ⟨v2,rfl,h2,aq⟩;replace R:=R.be aq;replace D:=D.be aq;replace d:=aC d aq;clear c1 Z;go_wp2_with fail;refine(c2 _ _ _ (y.be d) R h2).mono ?_;rintro e3 w3 ⟨v3,rfl,h3,ay⟩;replace D:=D.be ay;replace d:=aC d ay;clear c2 R h2;go_wp2_with fail;refine(c3 _ _ _ (y.be d) D D).mono ?_;rintro e4 w4 ⟨v4,rfl,h4,ar⟩;replace D:=D.be ar;replace h3:=h3.be ar;replace d:=aC d ar;clear c3;go_wp2_with fail;refine(c4 _ _ _ (y.be d) h4 D).mono ?_;rintro e5 w5 ⟨v5,rfl,h5,ai⟩;replace h3:=h3.be ai;replace d:=aC d ai;clear c4 h4 D;go_wp2_with fail;refine(c5 _ _ _ (y.be d) h3 h5).mono ?_;rintro e6 w6 ⟨v6,rfl,B,bj⟩;replace d:=aC d bj;clear c5 h3 h5;obtain⟨Ap,kp,rfl, -⟩:=B.form;rcases HE.out with rfl|rfl|rfl|⟨rfl,rfl,rfl,rfl,rfl,hv⟩
  ·clear HE B V;go_wp2_with fail;refine(aq2 _ (y.be d)).mono ?_;rintro H F ⟨rfl,o⟩;go_wp2;go_ret;exact⟨rfl,aC d o⟩
  ·clear HE B V;by_cases N:E1=0
   ·subst N;go_wp2_with fail;refine(aq2 _ (y.be d)).mono ?_;rintro H F ⟨rfl,o⟩;go_wp2;go_ret;exact⟨rfl,aC d o⟩
   ·have q1:(E1 != 0)=true:=by simpa using N
    clear N;go_wp2_with fail;refine(aq2 _ (y.be d)).mono ?_;rintro H F ⟨rfl,o⟩;go_wp2;go_ret;exact⟨rfl,aC d o⟩
  ·clear HE B V;by_cases N:E1=0
   ·subst N;by_cases z2:E2=0
    ·subst z2;go_wp2_with fail;refine(aq2 _ (y.be d)).mono ?_;rintro H F ⟨rfl,o⟩;go_wp2;go_ret;exact⟨rfl,aC d o⟩
    ·have q2:(E2 != 0)=true:=by simpa using z2
     clear z2;go_wp2_with fail;refine(aq2 _ (y.be d)).mono ?_;rintro H F ⟨rfl,o⟩;go_wp2;go_ret;exact⟨rfl,aC d o⟩
   ·have q1:(E1 != 0)=true:=by simpa using N
    clear N;go_wp2_with fail;refine(aq2 _ (y.be d)).mono ?_;rintro H F ⟨rfl,o⟩;go_wp2;go_ret;exact⟨rfl,aC d o⟩
  ·clear HE;by_cases I:T=[]
   ·have q0:((T.length:Int)==0)=true:=by rw[I];rfl
    clear I hv B V;go_wp2_with fail;refine(aq2 _ (y.be d)).mono ?_;rintro H F ⟨rfl,o⟩;go_wp2;go_ret;exact⟨rfl,aC d o⟩
   ·have q0:((T.length:Int)==0)=false:=by rw[beq_eq_false_iff_ne];have:=List.length_pos_iff.2 I;omega
    obtain⟨g,k,hF,a7⟩:=cz6 y V hv I;have lT:=V.len;have b4:=List.length_pos_iff.2 I;have HR:Hid ((aU T).map cW=T):=cyV (pJ hv).2.1;have tT:=(pJ hv).2.2;have al:=VS T;have nT:aU T≠[]:=fun e=>I (cG (by rw[<-al,e];rfl));obtain⟨m,hm⟩:∃m,T.length=m+1:=⟨T.length-1,by omega⟩;obtain⟨P,hP⟩:∃P,aU T=P:=⟨_,rfl⟩;rw[hP] at tT al nT HR;have ao:T[m]? =some (cW (cf P m)):=by
     rw[<-HR.out,iK,aR (by omega),fZ (by omega)];rfl
    have bh:=aB ao;obtain⟨bp,op,rfl, -, -⟩:=B.at_ ao;have o1:OuI (cf P m) 1406 m (fun x=>cf P m*O8 (g.map b6) 1 x) [] 0 (g.map b6) 1 [cf P m]:=by
     have hq:=V.qf.nums (by decide) (cf P m) (by rw[hP,fZ (by omega)];exact List.getElem_mem _);have hl:=(eI nT).1 tT;rw[show P.length-1=m by omega] at hl;refine⟨fun x hx=>by injection hx with hx;rw[<-hx];exact hl,by simp,rfl,by have:=hF.deg;rw[iJ,Nat.zero_mul];omega,(QF.one hq).mono (by rw[iJ];decide),fun x=> ?_⟩;rw[Rat.pow_zero];show(0*x+cf P m)*1*_=_
     grind
    have HF:=aB hF;have HD:Hid (∀O f n,OuI (cf P m) 1406 m (fun x=>cf P m*O8 (g.map b6) 1 x) f 0 [] n O->O.map cW=T):=fun O f n h=>by
     have e1:P.length-1=m:=by omega
     have:=OuI.done (P:=P) (k:=k) (by rw[e1];exact h) tT nT (fun x=>by have:=hF.val x;rw[hP,show T.length-1=m by omega] at this;exact this);rw[this];exact HR.out
    have i0:(0:Int)<=(m:Int):=by omega
    have i1:(m:Int)<(T.length:Int):=by omega
    have e1:(T.length:Int)-1=(m:Int):=by omega
    have bq:m<=18:=by omega
    have q1:¬(T.length:Int)<(g.length:Int):=by have:=hF.cnt;omega
    have q3:decide (T.length<g.length)=false:=decide_eq_false (by have:=hF.cnt;omega);have bu:g.length<=19:=by have:=hF.cnt;omega
    generalize (fun x=>cf P m*O8 (g.map b6) 1 x)=G at *;generalize cf P m=U at *;clear I hv V hP tT al nT HR hm ao hF;go_wp2_with fail;refine(a7 _ _ (y.be d) B).mono ?_;rintro e7 w7 ⟨v7,rfl,t,az⟩;obtain⟨A7,k7,rfl, -⟩:=t.form;have lR:(tG (g.map b6)).length=g.length:=by unfold tG;rw[cH,cH]
    rw[lR] at t⊢;replace B:=B.be az;replace d:=aC d az;have cT:=B.cellAt' bh.out;clear a7 lR;go_wp2_with fail;have x1:StrsAt (w7.alloc (.cells #[.string ⟨(cW U).toArray⟩] 9)) (.slice (some ⟨w7.heap.size,0,none⟩) 1 1) ([U].map cW):=StrsAt.built w7 [cW U] 9;have aj:Below w7.heap.size w7 (w7.alloc (.cells #[.string ⟨(cW U).toArray⟩] 9)):=(aG _ _).alloc aE _;replace B:=B.be aj;replace t:=t.be aj;replace d:=aC d aj;clear cT aj;generalize w7.alloc (.cells #[.string ⟨(cW U).toArray⟩] 9)=W8 at *;have z:=aG W8.heap.size W8;go_loopg [17,18] g.length (fun k vo vk wr=>∃(j n:Nat) (f O:List Rat) (X:List (List UInt8)),Hid (O.map cW=X)∧Hid (j+k=g.length)∧vk= .int .i64 j∧StrsAt wr vo X∧OuI U 1406 m G f 0 ((g.map b6).drop j) (j+1) O∧Below W8.heap.size W8 wr)
    case atStart=>exact⟨0,1,[],[U],_,rfl,by unfold Hid;omega,rfl,x1,by rw[List.drop_zero];exact o1,z⟩
    case round=>
     clear z x1 o1;obtain⟨j, -,f,O,X,Q,HJ,rfl,C,J,z⟩:=hrel;generalize wr=wy at *;have bz:(0:Int)<=(j:Int):=by omega
     obtain⟨AO,kO,rfl, -⟩:=C.form;cases gk with
     |zero=>
      have hj:j=g.length:=HJ.out;rw[List.drop_eq_nil_of_le (by rw[cH];omega)] at J;obtain rfl:T=X:=(HD.out O f _ J).symm.trans Q.out;have b3:¬(j:Int)<(g.length:Int):=by omega
      replace B:=B.be z;replace t:=t.be z;replace d:=aC d z;clear Q J HD z;go_wp2_with fail;refine(V9 T _ _ _ C B (by omega)).mono ?_;rintro e8 w8 ⟨rfl,K⟩;replace t:=t.be K;replace d:=aC d K;clear C B;rcases HF.out.lst with I|⟨e,L,bm⟩
      ·have q2:((g.length:Int)==0)=true:=by rw[I];rfl
       clear I;go_wp2_with fail;refine(aq2 _ (y.be d)).mono ?_;rintro H F ⟨rfl,o⟩;go_wp2;go_ret;exact⟨rfl,aC d o⟩
      ·obtain⟨n,hn⟩:∃n,g.length=n+1:=⟨g.length-1,by
        have h9:g≠[]:=fun h=>by
         rw[h] at L;cases L
        have:=List.length_pos_iff.2 h9;omega⟩
       have q2:((g.length:Int)==0)=false:=by rw[beq_eq_false_iff_ne];omega
       have a4:g[n]? =some e:=by rw[<-L,List.getLast?_eq_getElem?,hn];rfl
       obtain⟨bb,u,rfl,au,hu,E⟩:=t.at_ (cy4 a4);obtain⟨Au,cu,rfl, -⟩:=E.form;have bo:(1:Int)<((fT e).length:Int):=by rw[N8];omega
       have n0:(0:Int)<=(n:Int):=by omega
       have n1:(n:Int)<(g.length:Int):=by omega
       have n2:(g.length:Int)-1=(n:Int):=by omega
       clear L bm a4 hn E;go_wp2_with fail;refine(aq2 _ (y.be d)).mono ?_;rintro H F ⟨rfl,o⟩;go_wp2;go_ret;exact⟨rfl,aC d o⟩
     |succ r=>
      have bn:j<g.length:=by have:=HJ.out;omega
      have b0:(j:Int)<(g.length:Int):=by omega
      obtain⟨e,ae⟩:∃e,g[j]? =some e:=⟨_,aR bn⟩;have L:=HF.out.fac e (dG ae);have bg:=aB (cy4 ae);have bf:=aB ae;rw[cz3 ae] at J;have af:=J.open_;obtain⟨bb,u,e2,au,hu,E⟩:=(t.be z).at_ (cy4 ae);subst e2;obtain⟨Au,cu,rfl, -⟩:=E.form;have av:=cz9 L;have ad:=(cyC L).1;unfold G8 at av;unfold cy6 at ad;have bo:(((fT e).length:Int)==0)=false:=by rw[beq_eq_false_iff_ne,N8];have:=List.length_pos_iff.2 L.pp.ne;omega
      replace d:=aC d z;replace t:=t.be z;clear J ae;go_wp2_with fail;refine(av _ _ (y.be d) E).mono ?_;rintro e8 w8 ⟨v8,rfl,h8,K⟩;replace E:=E.be K;replace t:=t.be K;replace C:=C.be K;replace d:=aC d K;replace z:=aC z K;have ba:=(K.cell (p:=⟨bb,j,none⟩) au).trans hu;clear av;go_wp2_with fail;refine(ad _ _ _ (y.be d) E h8).mono ?_;rintro H F ⟨v9,T9,rfl,h9,a5,o⟩;replace E:=E.be o;replace t:=t.be o;replace C:=C.be o;replace d:=aC d o;replace z:=aC z o;have br:=(o.cell (p:=⟨bb,j,none⟩) (aZ au K.size)).trans ba;obtain⟨A9,k9,rfl, -⟩:=h9.form;have b5:((T9.length:Int) != 1)=false:=by rw[a5 trivial];rfl
      clear ad a5 h9 h8 hu ba;go_wp2_with fail;go_loopg [17,23] (j+1) (fun r vo vi wr=>∃(i:Nat) (O:List Rat) (X:List (List UInt8)),Hid (O.map cW=X)∧Hid (i+r=j+1)∧vi= .int .i64 i∧StrsAt wr vo X∧OuI U 1406 m G (b6 e) r ((g.map b6).drop (j+1)) (j+1+1) O∧Below F.heap.size F wr)
      case atStart=>exact⟨0,O,X,Q,by unfold Hid;omega,rfl,C,af,aG _ _⟩
      case round=>
       clear C af br Q;obtain⟨i,O,X,Q,HI,rfl,C,J,S⟩:=hrel;generalize wr=wx at *;have bv:(0:Int)<=(i:Int):=by omega
       obtain⟨AO,kO,rfl, -⟩:=C.form;cases gk with
       |zero=>
        have hi:¬(i:Int)<=(j:Int):=by have:=HI.out;omega
        have zz:=aC z S;go_wp2;go_roundg r
        case rel=>exact⟨j+1,1,b6 e,O,X,Q,by have:=HJ.out;unfold Hid;omega,by go_num,C,J,zz⟩
        case measure=>omega
       |succ q=>
        have bx:i<=j:=by have:=HI.out;omega
        have hi:(i:Int)<=(j:Int):=by omega
        have bw:(i:Int)<(g.length:Int):=by omega
        obtain⟨af,an⟩:=cz4 J bq L;unfold G8 at an;obtain⟨X2,ap⟩:∃X2,(aW aV (eF O (b6 e))).map cW=X2:=⟨_,rfl⟩;rw[ap,Q.out] at an;have ax:=aB ap;replace t:=t.be S;replace E:=E.be S;replace d:=aC d S;obtain⟨b1,u1,e3,a0,a8,ag⟩:=t.at_ bg.out;simp only[Option.some.injEq,Addr.mk.injEq,and_true] at e3;subst e3;obtain⟨A1,c1,rfl, -⟩:=ag.form;obtain⟨e',am⟩:∃e',g[i]? =some e':=⟨_,aR (by omega)⟩;have bk:=HF.out.fac e' (dG am);obtain⟨b2,u2,e4,bt,a9,ak⟩:=t.at_ (cy4 am);simp only[Option.some.injEq,Addr.mk.injEq,and_true] at e4;subst e4;obtain⟨Ai,ci,rfl, -⟩:=ak.form;have ad:=(cyC bk).2 e L;unfold cy6 at ad;have HC:Hid (i<j->Cop (aT 1 e') (aT 1 e)):=fun ah=>by
         obtain⟨p1,rfl⟩:=List.getElem?_eq_some_iff.1 am;obtain⟨p2,rfl⟩:=List.getElem?_eq_some_iff.1 bf.out;exact List.pairwise_iff_getElem.1 HF.out.cop i j p1 p2 ah
        clear J am E ap Q;go_wp2_with fail;refine(an _ _ _ (y.be d) C ag).mono ?_;rintro bs b8 ⟨b7,rfl,bi,ac⟩;replace t:=t.be ac;replace ag:=ag.be ac;replace ak:=ak.be ac;replace d:=aC d ac;replace S:=aC S ac;have g1:=(ac.cell (p:=⟨bb,j,none⟩) a0).trans a8;have g2:=(ac.cell (p:=⟨bb,i,none⟩) a0).trans a9;clear an C a8 a9;go_wp2_with fail
        go_region_with (first
         |(go_at_call 15;refine(ad _ _ _ (y.be d).up ak.up ag.up).mono ?_;rintro e5 w5 ⟨v5,T5,rfl,h5,aw,ai⟩;have:=St.mk ai))
        all_goals (
         have z7:=t.up (b:=w5);have bc:=bi.up (b:=w5);have zw:=bJ (b:=w5) S;obtain⟨A5,k5,rfl, -⟩:=h5.form;by_cases ah:i<j
         ·have r1:(i:Int)<(j:Int):=by omega
          have r2:((T5.length:Int) != 1)=false:=by rw[aw (HC.out ah)];rfl
          clear aw h5 ah;go_wp2;go_roundg q
          case rel=>exact⟨i+1,_,X2,ax,by have:=HI.out;unfold Hid;omega,by go_num,bc,af,zw⟩
          case measure=>omega
         ·have r1:¬(i:Int)<(j:Int):=by omega
          clear aw h5 ah;go_wp2;go_roundg q
          case rel=>exact⟨i+1,_,X2,ax,by have:=HI.out;unfold Hid;omega,by go_num,bc,af,zw⟩
          case measure=>omega)
