/- Laws. -/
import Derived.Test.YtjgbleapffgbcaaGreatDoorV22
set_option linter.all false
set_option maxHeartbeats 8000000
set_option maxRecDepth 99999
namespace Go.Proofs.YtjgbleapffgbcaaGreatDoor
open Go.RowKit Sos Tryz
variable{a b w w':World}{B:Nat}{v:Value}
section
variable (a b:List (List UInt8))(va vb:Value)(w:World)(ha:StrsAt w va a)(hb':StrsAt w vb b)(hla:a.length<=1000)(hlb:b.length<=1000)(hca:∀l∈a,l.length<=1073741824)(hcb:∀l∈b,l.length<=1073741824)(K:Nat)(hKa:∀q∈aU a,RL K q)(hKb:∀q∈aU b,RL K q)(hK1:1<=K)(hK:K<=1048576)
include ha hb' hla hlb hca hcb hKa hKb hK1 hK
end
def jH(n:Nat)(a:List (List UInt8)):Bool:=a.all (fun l=>decide (l.length<=n))
def LX(n:Nat)(a:List (List UInt8))(v:Value)(w:World)(hv:StrsAt w v a)(hn:n<=1073741824)(G:a.length<=1073741824)(y:∀l∈a,l.length<=9223372036854775807):
  Calls prog 5 #[.int .i64 n,v] w fun e w'=>e= .returned (.bool (jH n a))∧w=w':=by
 obtain⟨A,c,rfl,C⟩:=hv.form;go_enter func5,ntmps5;go_wp2_with fail;go_loopg [5] a.length (fun k i wr=>∃j,Hid (j+k=a.length)∧i= .int .i64 j∧Hid (jH n (a.take j)=true)∧w=wr)
 case atStart=>exact⟨0,by unfold Hid;omega,rfl,rfl,rfl⟩
 case round=>
  obtain⟨j,f,rfl,g,rfl⟩:=hrel;have E:(0:Int)<=(j:Int):=by omega
  cases gk with
  |zero=>
   have m:j=a.length:=f.out;have r:Hid (jH n a=true):=by
    have:=g.out;rwa [m,aq9] at this
   subst m;go_wp2;go_ret;rw[r.out];exact⟨rfl,rfl⟩
  |succ k=>
   have x:j<a.length:=by have:=f.out;omega
   have F:(j:Int)<(a.length:Int):=by omega
   obtain⟨t,d⟩:∃t,a[j]? =some t:=⟨_,aR x⟩;have p:jH n (a.take (j+1))=decide (t.length<=n):=by
    unfold jH;rw[Q9,d,aqO,byJ];have:=g.out;unfold jH at this;rw[this];simp
   have o:¬t.length<=n->jH n a=false:=fun h=>by
    unfold jH;rw[List.all_eq_false];exact⟨t,dG d,by simpa using h⟩
   have u:=aB p;have s:=aB o;have I:=y t (dG d);obtain⟨b,J,rfl,B,D⟩:=hv.at_ d;have H:(⟨t.toArray⟩:ByteArray).size=t.length:=by simp[ByteArray.size]
   clear p o d g;by_cases q:t.length<=n
   ·have z:¬(n:Int)<(t.length:Int):=by omega
    go_wp2;go_roundg k
    case rel=>exact⟨j+1,by have:=f.out;unfold Hid;omega,by go_num,by unfold Hid;rw[u.out];exact decide_eq_true q,rfl⟩
    case measure=>omega
   ·have z:(n:Int)<(t.length:Int):=by omega
    go_wp2;go_ret;rw[s.out q];exact⟨rfl,rfl⟩
def TsAt.up[u:Up a b]{c:List (List (List UInt8))}(h:TsAt a B 22 v c):TsAt b B 22 v c:=h.be u.out
def PRow.km{e:TypeId}{i:List Value}(h:PRow w B e v i)(c:w.grownBy w' v.ownBlock):KM w w':=⟨c.size,fun p k x a=>by
 refine(World.cell?_of_block (c.block p.block (block_lt_of_cell a) (fun b=> ?_))).trans a;rcases h with ⟨rfl,_⟩|⟨g,l,cur,rfl,_,f,_,_,_,_,hn⟩
 ·simp[Value.ownBlock] at b
 ·simp[Value.ownBlock] at b;unfold World.cell? at a;rw[b,f] at a;simp only at a;split at a
  ·cases a
  ·rw[<-Array.getElem?_toList] at a;obtain⟨j,m,c',d⟩:=hn _ (dG a);cases d⟩
end Go.Proofs.YtjgbleapffgbcaaGreatDoor
namespace Go.Proofs.YtjgbleapffgbcaaGreatDoor
open Sos
def dyL{x:Rat}(b:x≠0):1/x≠0:=fun e=>by
 have:=gW (a:=1) b;rw[e,aqQ] at this;exact absurd this (by decide)
end Go.Proofs.YtjgbleapffgbcaaGreatDoor
namespace Go.Proofs.YtjgbleapffgbcaaGreatDoor
open Go.RowKit Sos
variable{a g r w:List Int}{B:Nat}{es l:List (List Int)}
def RfO.quoW(d:DvW w r)(c:Pp a)(b:Pp g)(e:∀i,cf r i=conv (cf a) (cf g) i):DvW w a∧DvW w g:=
 d.quo c.ne c.tr b.ne b.tr b.pr (by have:=(K7 c.tr d.tr b.tr b.ne e).2 c.ne;omega) e
def RfO.short(h:RfO B r a g es):es.length<r.length∧es≠[]:=by
 induction h with
 |last f j c d h i n=>exact⟨f,by simp⟩
 | @step r a g b m e es f j c d l h i k t o=>
  have p:=(RfO.step f j c d l h i k t).long;have q:=(K7 c.tr j.tr d.tr d.ne i).2 c.ne;exact⟨by rw[eG];omega,by simp⟩
def DvW.refl(h:Pp w):DvW w w:=⟨h.ne,h.tr,h.pr,aE,[1],fun i=>(CO _ i).symm⟩
def exE{q:Nat}{j Q:List Int}(c:Pp w)(h:RfO q w a j es)(b:pO B w (bB w) g)(f:QuoOf w g Q)(v:Sqf B Q g l):l.map cE=es.map cE:=by
 obtain⟨E, -,F,G,k,y⟩:=h.facts;have n:=lZ w;have i:=lE c.tr;unfold pO at b;rw[if_neg (by omega),XC c.pr] at b;have z:bB w≠[]:=fun e=>by rw[e] at n;simp at n;omega
 have m:=XA b c.pr (.inr (xZ (nI i z)));have D:=o9 b c.tr (Q5 i);have d:Pp g:=⟨(fun e=>by rw[e] at m;cases m),D,m⟩;have r:DvE (aX g) (aT 1 j):=axV b (Q5 i) _ (kW (JS k).1) (kW (JS k).2);have s:DvE (aX j) (aT 1 g):=axV k (Q5 i) _ (kW (JS b).1) (kW (JS b).2);have o:=dy6 d.ne d.tr r s;have A:Aso w w:=⟨1,by decide,fun x=>by rw[azF]⟩;have u:=UX A o d.ne d.tr (fun x=>dY f.id_ x) (fun x=>dY y x);have C:Q≠[]:=fun t=>by
  obtain⟨x,p⟩:=gX c.ne c.tr;rw[dV,dY f.id_,t,DS,aqQ] at p;exact p rfl
 exact dqQ h ⟨C,f.trim,y3 c.pr f.id_⟩ d u o v
def RfO.all(h:RfO B r a g es):DvW w r->∀e∈es,DvW w e:=by
 induction h with
 |last l p i j h c q=>intro b e d;rw[List.mem_singleton.1 d];exact(RfO.quoW b i j c).1
 |step l p i j o h c d t m=>
  intro b x f;obtain⟨k,dg⟩:=RfO.quoW b i j c;obtain⟨-, -,n, -⟩:=t.facts;rcases List.mem_cons.1 f with rfl|f
  ·exact(RfO.quoW k o n d).1
  ·exact m dg x f
end Go.Proofs.YtjgbleapffgbcaaGreatDoor
namespace Go.Proofs.YtjgbleapffgbcaaGreatDoor
open Sos
variable{A:List Rat}
def dyI(c:Rat)(f:Nat->Rat)(i:Nat):conv (cf [c]) f i=c*f i:=by
 rw[gL (p':=fun k=>if k=0 then c else 0) (q':=f) (fun k=>by cases k<;>simp[cf]) (fun _=>rfl),qE,if_pos (dC i)];rfl
def dyJ{a b x:Rat}(d:x≠0)(h:a=b*x):a/x=b:=by
 have f:=gW (a:=a) d;have e:(a/x-b)*x=0:=by grind
 rcases Rat.mul_eq_zero.1 e with c|c
 ·grind
 ·exact absurd c d
def dyK{K:Nat}(d:∀q∈A,RL K q):∃D,ComDen A D (max 1 (A.length*K)):=by
 induction A with
 |nil=>exact⟨1,by decide,(fun q b=>by cases b),aH (cJ (m:=1) (by unfold BN;decide)) (Nat.le_max_left _ _)⟩
 |cons q A e=>
  have b:=(d q (iC ..)).2;have k:=q.den_pos;by_cases h:A=[]
  ·subst h;exact⟨(q.den:Int),by omega,fun x a=>by rw[List.mem_singleton.1 a];exact Int.dvd_refl _,by rw[dD,iJ,aqD];omega⟩
  ·obtain⟨D,c⟩:=e (fun q b=>d q (j8 _ b));have i:Nat.lcm D.natAbs q.den≠0:=Nat.lcm_ne_zero (by have:=c.pos;omega) q.den_nz;have g:=List.length_pos_iff.2 h;have hn:=c.nl_;have f:1<=K:=xR (d q (iC ..));have j:=aqK g f;refine⟨((Nat.lcm D.natAbs q.den:Nat):Int),by omega,fun x a=> ?_,?_⟩
   ·rcases List.mem_cons.1 a with rfl|a
    ·exact Int.ofNat_dvd.2 (Nat.dvd_lcm_right _ _)
    ·exact Int.ofNat_dvd.2 (bzF (Int.ofNat_dvd_left.1 (c.dvd x a)) (Nat.dvd_lcm_left _ _))
   ·rw[dD,eG,aq2];have:=VK D.natAbs q.den;omega
def exC{N M:List Int}{x y:Int}(D:0<x)(E:0<y)(P:aN N)(d:N≠[])(O:aN M)(K:M≠[])(A:N.length=M.length)(h:∀i,cf N i*x=cf M i*y):aS N=aS M:=by
 have R:=nI P d;have S:=nI O K;have L:=xZ R;have p2:=xZ S;have I:=lW N;have J:=lW M;have H:(aS N).length=(aS M).length:=by rw[dF,dF,A]
 obtain⟨a,l⟩:∃a:Int,(bC N:Int)*x=a:=⟨_,rfl⟩;obtain⟨b,o⟩:∃b:Int,(bC M:Int)*y=b:=⟨_,rfl⟩;have u:0<a:=by rw[<-l];exact Int.mul_pos (by omega) D
 have T:0<b:=by rw[<-o];exact Int.mul_pos (by omega) E
 have t:∀i,cf (aS N) i*a=cf (aS M) i*b:=fun i=>by
  rw[<-l,<-o,<-Int.mul_assoc,<-Int.mul_assoc,I,J];exact h i
 have G:∀i,((cf (aS N) i:Int):Rat)*a=((cf (aS M) i:Int):Rat)*b:=fun i=>by
  rw[<-eJ,<-eJ,t]
 have m:=gJ (show a≠0 by omega);have e:=gW (a:=(b:Rat)) m
 obtain⟨q, -,C⟩:=D7 (xs:=aS N) (g:=aS M) (Q:=[(b:Rat)/a]) p2 (fun i=>by
  rw[dyI];have c:(((cf (aS N) i:Int):Rat)-(b:Rat)/a*((cf (aS M) i:Int):Rat))*a=0:=by have:=G i;grind
  rcases Rat.mul_eq_zero.1 c with f|f
  ·grind
  ·exact absurd f m)
 have hn:(b:Rat)/a=((cf q 0:Int):Rat):=C 0;generalize cf q 0=n at *;have B:n*a=b:=by
  rw[hn,<-eJ] at e;exact Rat.intCast_inj.1 e
 have U:0<n:=by
  rcases azO 0 n with k|k
  ·exact k
  ·have:=eH k (fP u);rw[bxB] at this;omega
 have r:∀i,cf (aS N) i=n*cf (aS M) i:=fun i=>by
  have s:=t i;rw[<-B] at s;refine Int.eq_of_mul_eq_mul_right (show a≠0 by omega) ?_;rw[s,Int.mul_left_comm,Int.mul_assoc]
 have p:n.natAbs∣bC (aS N):=CM (fun z F=>by
  obtain⟨j,w,rfl⟩:=List.mem_iff_getElem.1 F;rw[<-fZ w,r];exact Int.dvd_mul_of_dvd_left (Int.natAbs_dvd.2 (Int.dvd_refl n)))
 rw[L] at p;have d:n=1:=by have:=Nat.dvd_one.1 p;omega
 refine bzO H (fun j v c=> ?_);rw[<-fZ v,<-fZ c,r,d,az5]
def exD{D a:Int}{K d:Nat}(h:ComDen A D K)(b:ComDen A a d)(t:aN A)(c:A≠[]):aS (cC A D)=aS (cC A a):=
 exC b.pos h.pos (oO h.pos h.dvd t) (fun e=>c ((kS A D).1 e)) (oO b.pos b.dvd t) (fun e=>c ((kS A a).1 e)) (by rw[oN,oN]) (fun i=>by
  have f:=JC A D h.dvd i;have g:=JC A a b.dvd i;refine Rat.intCast_inj.1 ?_;rw[eJ,eJ,f,g];grind)
end Go.Proofs.YtjgbleapffgbcaaGreatDoor
namespace Go.Proofs.YtjgbleapffgbcaaGreatDoor
open Go.RowKit Sos
end Go.Proofs.YtjgbleapffgbcaaGreatDoor
namespace Go.Proofs.YtjgbleapffgbcaaGreatDoor
open Sos
variable{A B O P f:List Rat}{K L N n r:Nat}{k lead q:Rat}{rest:List (List Rat)}
section
variable {G:List Rat}{g s:List Int}{r0 r1 s0 s1:List Rat}
end
def QF(A:List Rat)(K:Nat):Prop:=∃(f:Nat->Int) (D:Int),0<D∧nl D.natAbs<=K∧(∀i,nl (f i).natAbs<=K)∧∀i,cf A i*(D:Rat)=((f i:Int):Rat)
def QF.mono(h:QF A K)(a:K<=L):QF A L:=by
 obtain⟨f,D,b,c,d,e⟩:=h;exact⟨f,D,b,aH c a,fun i=>aH (d i) a,e⟩
def QF.nums(h:QF A K)(a:1<=K):∀q∈A,RL K q:=fun q b=>by
 obtain⟨f,D,g,c,d,e⟩:=h;obtain⟨i,hi,rfl⟩:=List.mem_iff_getElem.1 b;rw[<-fZ hi,<-dyJ (gJ (show D≠0 by omega)) (e i).symm];exact pM (d i) c a
def QF.mul(c:QF A K)(d:QF B L)(s:A.length+B.length<=1073741824):QF (aW aV (dX A B)) (K+L+1):=by
 obtain⟨f,D,h,o,q,e⟩:=c;obtain⟨g,E,l,p,r,b⟩:=d;refine⟨fun i=>if i<A.length+B.length then conv f g i else 0,D*E,Int.mul_pos h l,aH (gT _ _ _ _ o p) (Nat.le_succ _),fun i=> ?_,fun i=> ?_⟩
 ·show nl (if i<A.length+B.length then conv f g i else 0).natAbs<=_
  split
  ·exact K6 q r (by omega)
  ·exact aH (cJ (m:=0) (n:=0) (by decide)) (dC _)
 ·rw[iS,x5];show _=(((if i<A.length+B.length then conv f g i else 0:Int)):Rat)
  split
  ·rw[oD,gL (fun k=>(e k).symm.trans (byD _ _)) (fun k=>(b k).symm.trans (byD _ _)),eI,rF,eJ];grind
  ·rw[rG (fun j a=>bV a) (fun j a=>bV a) (by omega)];simp
def QF.short(b:∀q∈A,RL 1 q)(c:A.length<=4):QF A 5:=by
 obtain⟨D,a⟩:=dyK b;have d:=a.nl_;exact⟨cf (cC A D),D,a.pos,by omega,fun i=>aH (iU (sA A D 1 4 b (by omega)) i) (by decide),fun i=>(JC A D a.dvd i).symm⟩
def QF.nil:QF [] 1:=⟨fun _=>0,1,by decide,cJ (m:=1) (by unfold BN;decide),fun _=>show nl (0:Int).natAbs<=1 from cJ (m:=1) (by unfold BN;decide),fun i=>by rw[eR,aqQ,aq4]⟩
def exA(q:Rat):q*((q.den:Int):Rat)=(q.num:Rat):=by
 have b:=gJ (show(q.den:Int)≠0 by have:=q.den_pos;omega);have h:=gW (a:=(q.num:Rat)) b;rw[aq3] at h⊢;rwa [<-VF] at h
def QF.one(h:RL K q):QF [q] K:=⟨fun i=>if i=0 then q.num else 0,(q.den:Int),by have:=q.den_pos;omega,h.2,fun i=>by
 show nl (if i=0 then q.num else 0).natAbs<=K
 split
 ·exact h.1
 ·exact aH (cJ (m:=0) (n:=0) (by decide)) (dC _),fun i=>by
 cases i with
 |zero=>exact exA q
 |succ i=>rw[bV (by simp)];show _=(((if i+1=0 then q.num else 0:Int)):Rat);rw[if_neg (by omega),aqQ,aq4]⟩
def QF.der(h:QF A K)(c:A.length<=1073741824):QF (aW aV (fW A)) (K+1):=by
 obtain⟨f,D,a,d,b,e⟩:=h;refine⟨fun i=>if i<A.length then f (i+1)*((i:Int)+1) else 0,D,a,by omega,fun i=> ?_,fun i=> ?_⟩
 ·show nl (if i<A.length then f (i+1)*((i:Int)+1) else 0).natAbs<=_
  split
  ·exact gT _ _ _ _ (b _) (cJ (by rw[show((i:Int)+1).natAbs=i+1 by omega];unfold BN;omega))
  ·exact aH (cJ (m:=0) (n:=0) (by decide)) (dC _)
 ·rw[iS,tV];show _=(((if i<A.length then f (i+1)*((i:Int)+1) else 0:Int)):Rat)
  split
  ·rw[eJ,<-e,show(((i:Int)+1:Int):Rat)=((i+1:Nat):Rat) by rw[show((i:Int)+1)=((i+1:Nat):Int) from rfl,aq3]];grind
  ·rw[bV (by omega),aqQ,aqQ,aq4]
def QF.mon_{e:List Int}(d:e≠[])(g:aN e)(a:∀n∈e,nl n.natAbs<=K):QF (cE e) K:=by
 have f:=(dR d).1 g;have c:=iU a (e.length-1);have b:∀i,cf (cE e) i*((cf e (e.length-1):Int):Rat)=((cf e i:Int):Rat):=fun i=>by
  show cf (tT e (cf e (e.length-1))) i*_=_
  rw[xN];exact gW (gJ f)
 generalize cf e (e.length-1)=l at *;rcases azO 0 l with h|h
 ·exact⟨cf e,l,h,c,iU a,b⟩
 ·exact⟨fun i=> -cf e i, -l,by omega,by rw[azJ];exact c,fun i=>by rw[azJ];exact iU a i,fun i=>by rw[bx4,bx4,<-b i];grind⟩
def exB(k:aN A)(l:aN B)(b:A≠[])(c:B≠[]):(aW aV (dX A B)).length+1=A.length+B.length∧cf (aW aV (dX A B)) ((aW aV (dX A B)).length-1)=cf A (A.length-1)*cf B (B.length-1):=by
 have s:=List.length_pos_iff.2 b;have t:=List.length_pos_iff.2 c;have d:∀i,cf (aW aV (dX A B)) i=conv (cf A) (cf B) i:=fun i=>by rw[iS,x5]
 have e:=p5 (p:=cf A) (q:=cf B) (m:=A.length-1) (n:=B.length-1) (fun i g=>bV (by omega)) (fun i g=>bV (by omega));have f:cf A (A.length-1)*cf B (B.length-1)≠0:=m6 ((dR b).1 k) ((dR c).1 l);have o:(aW aV (dX A B)).length<=A.length+B.length-1:=XT (fun j a=>by rw[x5];exact rG (fun j a=>bV a) (fun j a=>bV a) (by omega));have r:A.length-1+(B.length-1)<(aW aV (dX A B)).length:=by
  rcases dE (A.length-1+(B.length-1)) (aW aV (dX A B)).length with h|h
  ·exact h
  ·exact absurd (by rw[<-e,<-d,bV h]) f
 exact⟨by omega,by rw[d,show(aW aV (dX A B)).length-1=A.length-1+(B.length-1) by omega,e]⟩
def dyG(A B:List Rat)(x:Rat):aI (aW aV (dX A B)) x=aI A x*aI B x:=by
 rw[<-fY];exact oT (fun i=>by rw[iS,x5,uU]) x
def X1:List (List Rat)->Nat->Nat
 |[],_=>0
 |f :: F,n=>n*(f.length-1)+X1 F (n+1)
def zQ:List (List Rat)->Nat->Rat->Rat
 |[],_,_=>1
 |f :: F,n,x=>aI f x^n*zQ F (n+1) x
structure OuI(lead:Rat)(K N:Nat)(G:Rat->Rat)(f:List Rat)(r:Nat)(rest:List (List Rat))(n:Nat)(O:List Rat):Prop where
 tr:aN O
 ne:O≠[]
 le:cf O (O.length-1)=lead
 len:O.length+r*(f.length-1)+X1 rest n=N+1
 qf:QF O (41+K*(O.length-1))
 ev:∀x,aI O x*aI f x^r*zQ rest n x=G x
def OuI.next{G:Rat->Rat}(h:OuI lead K N G f (r+1) rest n O)(o:aN f)(d:f≠[])(a:cf f (f.length-1)=1)(m:QF f (K-1))(p:1<=K)(q:N<=1000):OuI lead K N G f r rest n (aW aV (dX O f)):=by
 obtain⟨b,l⟩:=exB h.tr o h.ne d;have t:=List.length_pos_iff.2 h.ne;have s:=List.length_pos_iff.2 d;have k:=h.len;rw[aq2] at k;refine⟨jS _,fun e=>by rw[e] at b;simp at b;omega,by rw[l,h.le,a,aqP],by omega,?_,fun x=>by rw[dyG,<-h.ev x,azH];grind⟩;by_cases g:f.length=1
 ·have e:aW aV (dX O f)=O:=oZ (jS _) h.tr (fun i=>by
   obtain⟨c,rfl⟩:=List.length_eq_one_iff.1 g;have j:c=1:=a;subst j;rw[iS,x5,sO,dyI,azF])
  rw[e];exact h.qf
 ·refine(h.qf.mul m (by omega)).mono ?_;have e:(aW aV (dX O f)).length-1=O.length-1+(f.length-1):=by omega
  rw[e,iL];have:=eV K (show 1<=f.length-1 by omega);omega
def OuI.size{G:Rat->Rat}(h:OuI lead K N G f r rest n O):O.length<=N+1:=by have:=h.len;omega
def OuI.done{G:Rat->Rat}(h:OuI (cf P (P.length-1)) K (P.length-1) G f 0 [] n O)(l:aN P)(j:P≠[])(p:∀x,aI P x=k*G x):O=P:=by
 have g:=h.len;have t:=List.length_pos_iff.2 j;rw[azW] at g;have s:O.length=P.length:=by unfold X1 at g;omega
 have e:∀i,cf P i=k*cf O i:=fun i=>by
  have:=LL (a:=P) (b:=O.map (fun q=>k*q)) (fun x=>by
   rw[iI,p,<-h.ev x,azM];unfold zQ;grind) i
  rw[this,mG (fun q=>k*q) (dU _)]
 have m:=e (P.length-1);have c:=h.le;rw[s] at c;rw[c] at m;have o:=(dR j).1 l;have r:k=1:=by
  have:(k-1)*cf P (P.length-1)=0:=by grind
  rcases Rat.mul_eq_zero.1 this with d|d
  ·grind
  ·exact absurd d o
 refine oZ h.tr l (fun i=> ?_);rw[e i,r,azF]
def GA(e:List Int)(x:Rat):aI (cE e) x=(1/((cf e (e.length-1):Int):Rat))*aX e x:=by
 rw[pN,<-dV,<-iI];exact oT (fun i=>by rw[dS,mG (fun q=>(1/((cf e (e.length-1):Int):Rat))*q) (dU _),dS,azF]) x
def GB{x:Rat}(h:x≠0):∀n:Nat,x^n≠0
 |0=>by rw[azM];decide
 |n+1=>by rw[azH];exact m6 (GB h n) h
def Y2(x y:Rat):∀n:Nat,(x*y)^n=x^n*y^n
 |0=>by rw[azM,azM,azM,aqP]
 |n+1=>by rw[azH,azH,azH,Y2 x y n];grind
def dyH{es:List (List Int)}(h:∀e∈es,e≠[]∧aN e):∀n,∃k:Rat,k≠0∧∀x,zQ (es.map cE) n x=k*dZ es n x:=by
 induction es with
 |nil=>exact fun n=>⟨1,by decide,fun x=>by show(1:Rat)=1*1;rw[aqP]⟩
 |cons e es f=>
  intro n;obtain⟨k,c,a⟩:=f (fun e b=>h e (j8 _ b)) (n+1);obtain⟨g,i⟩:=h e (iC ..);have d:=dyL (gJ ((dR g).1 i));refine⟨(1/((cf e (e.length-1):Int):Rat))^n*k,m6 (GB d n) c,fun x=> ?_⟩;show aI (cE e) x^n*zQ (es.map cE) (n+1) x=_*(aX e x^n*dZ es (n+1) x)
  rw[a,GA,Y2];grind
end Go.Proofs.YtjgbleapffgbcaaGreatDoor
namespace Go.Proofs.YtjgbleapffgbcaaGreatDoor
open Go.RowKit Sos
variable{Q a c g p r w y:List Int}{x:Rat}{es l:List (List Int)}{B K N:Nat}
def FV(l:List Rat):l≠[]->0<cf l (l.length-1)->∃X m:Rat,0<m∧∀x,X<=x->m<=aI l x:=by
 induction l with
 |nil=>exact fun h=>absurd rfl h
 |cons a p g=>
  intro _ h;by_cases b:p=[]
  ·subst b;refine⟨0,a,h,fun x _=> ?_⟩;show a<=0*x+a
   grind
  ·have r:=List.length_pos_iff.2 b;have e:cf (a :: p) ((a :: p).length-1)=cf p (p.length-1):=by
    rw[eG,show p.length+1-1=(p.length-1)+1 by omega];rfl
   rw[e] at h;obtain⟨X,m,f,d⟩:=g b h;have k:(m-a)/m*m=m-a:=gW (by grind);refine⟨max (max X 0) ((m-a)/m),m,f,fun x n=> ?_⟩;have i:=d x (by grind);have c:0<=x:=by grind
   have j:(m-a)/m<=x:=by grind
   show m<=aI p x*x+a
   have o:=cA (show 0<=aI p x-m by grind) c;have q:=cA (show 0<=x-(m-a)/m by grind) (show 0<=m by grind);grind
def zF(i:Int)(hi:0<i):aP a i x=(cf a (a.length-1)).sign:=by
 unfold aP;rw[if_neg (by omega),if_neg (by omega)]
def dyC(b:a≠[])(k:aN a):∃X:Rat,∀x,X<=x->aP a 0 x=aP a 1 0:=by
 have l:=(dR b).1 k;rcases azO 0 (cf a (a.length-1)) with h|h
 ·obtain⟨X,m,j,c⟩:=FV (aT 1 a) (fun e=>b (bX (by rw[<-fX 1 a,e];rfl))) (by
   rw[fX,dS,azF];exact_mod_cast h)
  refine⟨X,fun x d=> ?_⟩;have:=c x d;rw[zF 1 (by decide),aqI h,<-yI];exact yK (show 0<aX a x by rw[uQ];grind)
 ·have f:cf a (a.length-1)<0:=by omega
  obtain⟨X,m,j,c⟩:=FV (aT (-1) a) (fun e=>b (bX (by rw[<-fX (-1) a,e];rfl))) (by
   rw[fX,dS];have:((cf a (a.length-1):Int):Rat)<0:=by exact_mod_cast f
   grind)
  refine⟨X,fun x d=> ?_⟩;have g:=c x d;have e:aI (aT (-1) a) x= -1*aX a x:=by
   rw[uQ,<-iI];exact oT (fun i=>by rw[dS,mG (fun q=> -1*q) (dU _),dS,azF]) x
  rw[zF 1 (by decide),aqT f,<-yI];exact yL (show aX a x<0 by rw[e] at g;grind)
def dyD(L:List (List Int)):(∀a∈L,a≠[]∧aN a)->∃X:Rat,∀x,X<=x->∀a∈L,aP a 0 x=aP a 1 0:=by
 induction L with
 |nil=>exact fun _=>⟨0,fun x _ a c=>by cases c⟩
 |cons b L f=>
  intro h;obtain⟨X,d⟩:=f (fun a c=>h a (j8 _ c));obtain⟨Y,e⟩:=dyC (h b iC).1 (h b iC).2;refine⟨max X Y,fun x g a c=> ?_⟩;rcases List.mem_cons.1 c with rfl|c
  ·exact e x (by grind)
  ·exact d x (by grind) a c
def VY{x:Rat}(h:0<x):∀n:Nat,0<x^n
 |0=>by rw[azM];decide
 |n+1=>by rw[azH];exact azA (VY h n) h
def dyE(h:x≠0):0<x*x:=by
 rcases iY x with k|k|k
 ·have:=azA (show 0< -x by grind) (show 0< -x by grind);grind
 ·exact absurd k h
 ·exact azA k k
def ex5(h:x≠0)(n:Nat)(hn:n%2=1->0<x):0<x^n:=by
 rcases Nat.mod_two_eq_zero_or_one n with k|k
 ·obtain⟨m,rfl⟩:∃m,n=m+m:=⟨n/2,by omega⟩;rw[LE];exact dyE (GB h m)
 ·exact VY (hn k) n
def ex6{a b:Rat}(es:List (List Int)):∀n,(∀e∈es,aX e a≠0∧aX e b≠0)->(∀(j:Nat) (e:List Int),es[j]? =some e->(n+j)%2=1->0<aX e a*aX e b)->0<dZ es n a*dZ es n b:=by
 induction es with
 |nil=>intro n _ _;show(0:Rat)<1*1;rw[aqP];decide
 |cons e es o=>
  intro n d h;have m:=o (n+1) (fun e c=>d e (j8 _ c)) (fun j l c p=>h (j+1) l c (by omega));obtain⟨g,i⟩:=d e iC;have f:=ex5 (m6 g i) n (fun k=>h 0 e rfl (by omega));rw[Y2] at f;show 0<aX e a^n*dZ es (n+1) a*(aX e b^n*dZ es (n+1) b)
  have:=azA f m;grind
def dyF{a:Rat}(es:List (List Int)):∀n,1<=n->dZ es n a≠0->∀e∈es,aX e a≠0:=by
 induction es with
 |nil=>intro n _ _ e b;cases b
 |cons f es g=>
  intro n hn h e b c;rcases List.mem_cons.1 b with rfl|b
  ·refine h ?_;show aX e a^n*_=0
   obtain⟨m,rfl⟩:∃m,n=m+1:=⟨n-1,by omega⟩;rw[c,azH,dU,aqQ]
  ·exact g (n+1) (by omega) (fun d=>h (by show _*dZ es (n+1) a=0;rw[d,dU])) e b c
def lR(a:List Int)(x:Rat):(aP a 0 x=1↔0<aX a x)∧(aP a 0 x=0↔aX a x=0)∧(aP a 0 x= -1↔aX a x<0):=by
 rw[<-yI];rcases uS x (aX a) with ⟨h,e⟩|⟨h,e⟩|⟨h,e⟩<;>rw[e]<;>refine⟨⟨fun k=> ?_,fun k=> ?_⟩,⟨fun k=> ?_,fun k=> ?_⟩,⟨fun k=> ?_,fun k=> ?_⟩⟩<;>first|(exact h)|(cases k;done)|rfl|(exfalso;grind)
def ex7{k:Rat}(A:w≠[])(D:aN w)(f:∀e∈es,e≠[]∧aN e)(c:∀y,aX w y=k*dZ es 1 y)(s:aP w 1 0=1)(z:aP w 0 x= -1):∃(j:Nat) (e:List Int),es[j]? =some e∧j%2=0∧aP e 0 x≠0∧aP e 0 x≠aP e 1 0:=by
 obtain⟨X,t⟩:=dyD (w :: es) (fun a i=>by
  rcases List.mem_cons.1 i with rfl|i
  ·exact⟨A,D⟩
  ·exact f a i)
 have o:=t X byB;have l:=(lR w X).1.1 ((o w iC).trans s);have g:=(lR w x).2.2.1 z;have B:dZ es 1 x≠0:=fun e=>by rw[c,e,dU] at g;exact absurd g (by decide)
 have C:dZ es 1 X≠0:=fun e=>by rw[c,e,dU] at l;exact absurd l (by decide)
 have q:=dyF es 1 aE B;have E:=dyF es 1 aE C;rcases Classical.em (∃(j:Nat) (e:List Int),es[j]? =some e∧j%2=0∧aP e 0 x≠0∧aP e 0 x≠aP e 1 0) with h|h
 ·exact h
 ·exfalso
  have v:=ex6 (a:=x) (b:=X) es 1 (fun e f=>⟨q e f,E e f⟩) (fun j e m K=>by
   have n:=dG m;have p:aP e 0 x≠0:=fun r=>q e n ((lR e x).2.1.1 r);have d:aP e 0 x=aP e 1 0:=bz0 (fun d=>h ⟨j,e,m,by omega,p,d⟩);rw[<-o e (j8 _ n)] at d;rcases qX e 0 x with k|k|k
   ·exact azA ((lR e x).1.1 k) ((lR e X).1.1 (d ▸ k))
   ·exact absurd k p
   ·have F:=(lR e x).2.2.1 k;have G:=(lR e X).2.2.1 (d ▸ k);have:=azA (show 0< -aX e x by grind) (show 0< -aX e X by grind);grind)
  have H:aX w x*aX w X=k*k*(dZ es 1 x*dZ es 1 X):=by rw[c,c];grind
  have u:k≠0:=fun e=>by rw[c,e,aqQ] at g;exact absurd g (by decide)
  have I:=azA (dyE u) v;have J:=azA (show 0< -aX w x by grind) l;grind
def dM(a:List (List UInt8)):Int:=if vl a=true then (if a=[] then 5 else 0) else 1
def uL(a:List (List UInt8)):dM a=0∧vl a=true∧a≠[]∨dM a=1∧vl a=false∨dM a=5∧vl a=true∧a=[]:=by
 unfold dM;cases vl a with
 |false=>exact .inr (.inl ⟨rfl,rfl⟩)
 |true=>
  by_cases h:a=[]
  ·exact .inr (.inr ⟨by rw[if_pos rfl,if_pos h],rfl,h⟩)
  ·exact .inl ⟨by rw[if_pos rfl,if_neg h],rfl,h⟩
def dyO(b:Pp y)(e:∀i,cf y i=conv (cf Q) (cf c) i):Q≠[]:=fun d=>by
 obtain⟨x,a⟩:=gX b.ne b.tr;rw[dV,dY e,d,DS,aqQ] at a;exact a rfl
def QuoOf.dvw(a:DvW w y)(b:Pp c)(h:QuoOf y c Q):DvW w Q∧DvW w c:=
 RfO.quoW a ⟨dyO a.pp h.id_,h.trim,y3 a.pr h.id_⟩ b h.id_
def Sqf.all(h:Sqf B p r l):DvW w p->DvW w r->∀f∈l,DvW w f:=by
 induction h with
 |done=>intro _ _ f a;cases a
 |step n g i j t k=>
  intro b c f a;obtain⟨d, -, -, -⟩:=dy5 b.pp c.pp g;have e:=QuoOf.dvw b d i;have m:=QuoOf.dvw c d j;rcases List.mem_cons.1 a with rfl|a
  ·exact e.1
  ·exact k e.2 m.1 f a
def H3(b:Pp w)(a:pO B w (bB w) g):Pp g∧Dv (cf w) g:=by
 have i:=lZ w;have f:=lE b.tr;unfold pO at a;rw[if_neg (by omega),XC b.pr] at a;have h:aS (bB w)=[]∨bC (aS (bB w))=1:=by
  by_cases d:bB w=[]
  ·exact .inl (bX (by rw[dF,d];rfl))
  ·exact .inr (xZ (nI f d))
 have c:=XA a b.pr h;exact⟨⟨(fun e=>by rw[e] at c;cases c),o9 a b.tr (Q5 f),c⟩,(JS a).1⟩
def exH{W:World}(r:Glob W){e:Nat}(b:Pp w)(t:∀n∈w,nl n.natAbs<=e)(u:w.length<=N)(o:N<=1000)(s:e+2*N*(e+1)+2<=K)(p:(K+1)*3^N<=B)(q:5*B+8<=aJ):
  ∃es,(w.length=1∧es=[]∨∃a g,RfO B w a g es)∧∀d g Q l,pO d w (bB w) g->QuoOf w g Q->Sqf d Q g l->l.map cE=es.map cE:=by
 have v:=List.length_pos_iff.2 b.ne;by_cases m:1<w.length
 ·obtain⟨a,g,es,h, -⟩:=dqO r b.ne b.tr t u o s p q w.length w aE (DvW.refl b) m;exact⟨es,.inr ⟨a,g,h⟩,fun d g Q l i c f=>exE b h i c f⟩
 ·refine⟨[],.inl ⟨by omega,rfl⟩,fun d g Q l i c f=> ?_⟩;obtain⟨j, -⟩:=H3 b i;have x:=(K7 c.trim b.tr j.tr j.ne c.id_).2 (dyO b c.id_);have y:=List.length_pos_iff.2 j.ne;cases f with
  |done=>rfl
  |step k=>omega
def dyP{b:Nat}(a:Pp w)(c:∀n∈w,nl n.natAbs<=b)(i:w.length<=N)(j:N<=1000)(f:b+1<=K)(d:(K+1)*3^N<=B):GcdFit K B w (bB w):=by
 have k:=List.length_pos_iff.2 a.ne;have g:=lZ w;refine⟨a.tr,lE a.tr,fun n hn=>aH (c n hn) (by omega),fun n hn=>aH (pL c (by omega) n hn) f,fun h=>by omega,fun _=> ?_,by omega,by omega⟩;have e:(K+1)*(w.length-(bB w).length+2)*3^(bB w).length=(K+1)*3^w.length:=by
  rw[g,show w.length-(w.length-1)+2=3 by omega,iW,dN 3,<-dH,show(w.length-1).succ=w.length by omega]
 rw[e];exact aH (eV _ (cO (by decide) i)) d
def exI{c:Nat}(a:Pp w)(o:∀n∈w,nl n.natAbs<=c)(q:w.length<=N)(l:N<=1000)(m:c+2*N*(c+1)+1<=K)(p:pO B w (bB w) g):∃Q n,QuoOf w g Q∧(∀x∈g,nl x.natAbs<=K)∧(∀x∈Q,nl x.natAbs<=K)∧g.length<=1073741824∧n<=1073741824∧FB w n Q g:=by
 obtain⟨b,k⟩:=H3 a p;obtain⟨e,s,t,j,r,f⟩:=F6 b.pr b.tr a.tr a.ne k;obtain⟨d,dg⟩:=(DvW.refl a).quo t j e b.tr b.pr r f;have i:=fun {x:List Int} (h:DvW w x) (n:Int) (hn:n∈x)=>aH (h.nums a.ne a.tr o q l n hn) m;exact⟨s,s.length+g.length,⟨j,e,b.tr,f⟩,i dg,i d,by have:=dg.len;omega,by have:=dg.len;have:=d.len;omega,d,dg,rfl,by omega⟩
def H6{A:List Rat}{D:Int}(h:ComDen A D K)(t:aN A)(a:A≠[]):Pp (aS (cC A D))∧(aS (cC A D)).length=A.length∧Prp A (aS (cC A D)):=by
 have c:cC A D≠[]:=fun e=>a ((kS _ D).1 e);have tn:=oO h.pos h.dvd t;have b:(aS (cC A D)).length=A.length:=by rw[dF,oN]
 exact⟨⟨fun e=>a (bX (by rw[<-b,e];rfl)),Q5 tn,xZ (nI tn c)⟩,b,nM (uE h t)⟩
end Go.Proofs.YtjgbleapffgbcaaGreatDoor
namespace Go.Proofs.YtjgbleapffgbcaaGreatDoor
open Sos
def dyN{A B:List Rat}{g:List Int}(a:Pp g)(m:DvE (aI A) (aT 1 g))(n:DvE (aI B) (aT 1 g))(h:Cop A B):g.length=1:=by
 obtain⟨u,r⟩:=m;obtain⟨v,hv⟩:=n;obtain⟨U,V,k⟩:=h;have s:=List.length_pos_iff.2 a.ne;rcases dE 1 g.length with f|f
 ·exfalso;have e:∀x,aI (fG (j0 (fG U u) (fG V v)) (aT 1 g)) x=aI [1] x:=fun x=>by
   rw[fY,lG,fY,fY,show aI [1] x=0*x+1 from rfl];have:=k x;rw[r,hv] at this;grind
  generalize j0 (fG U u) (fG V v)=q at *;have c:aW aV q≠[]:=fun d=>by
   have j:=e 0;rw[fY,<-oT (iS q),d,show aI [] (0:Rat)=0 from rfl,aqQ,show aI [1] (0:Rat)=0*0+1 from rfl] at j;grind
  have t:=List.length_pos_iff.2 c;have o:cf (aT 1 g) (g.length-1)≠0:=by rw[dS,azF];exact gJ ((dR a.ne).1 a.tr)
  have b:=LL e ((aW aV q).length-1+(g.length-1));rw[uU,<-gL (iS q) (fun _=>rfl),p5 (fun i p=>bV (by omega)) (fun i p=>bV (by rw[fX];omega)),bV (l:=[(1:Rat)]) (by rw[iJ];omega)] at b;exact m6 ((dR c).1 (jS q)) o b
 ·omega
end Go.Proofs.YtjgbleapffgbcaaGreatDoor
namespace Go.Proofs.YtjgbleapffgbcaaGreatDoor
open Go.RowKit Sos Tryz
variable{A:Option Addr}{B K L M l:Nat}{a e f g ns s:List Int}{d k x y:Rat}{c es:List (List Int)}{W w:World}{Q p:List Rat}{u v:Value}{D i:Int}
structure TxG(T:List (List UInt8))(K L:Nat):Prop where
 qf:QF (aU T) K
 len:T.length<=L
 txt:∀l∈T,l.length<=1073741824
def mT(a b:List (List UInt8)):List (List UInt8):=if vl a=true∧vl b=true then (aW aV (dX (aU a) (aU b))).map cW else []
def exF(A B:List Rat):(aW aV (dX A B)).length<=A.length+B.length-1:=by
 refine aH (oY _ _) ?_;unfold dX;split
 ·simp
 ·rw[cH,bxZ];exact aE
def dyM{A:List Rat}(h:QF A K)(b:1<=K)(d:K<=1000000)(a:A.length<=L):TxG (A.map cW) K L:=
 ⟨by rw[gH];exact h,by rw[cH];exact a,fun l a=>by
  obtain⟨q,c,rfl⟩:=List.mem_map.1 a;exact aH (cx1 (h.nums b q c)) (by omega)⟩
def TxG.mul{a b:List (List UInt8)}{k:Nat}(c:TxG a K k)(d:TxG b L l)(i:1<=K)(j:1<=L)(m:K+L<=1000)(f:k+l<=64):TxG (mT a b) (K+L+1) (k+l-1):=by
 have n:=c.len;have o:=d.len;have g:=exF (aU a) (aU b);rw[VS,VS] at g;unfold mT;split
 ·exact dyM (c.qf.mul d.qf (by rw[VS,VS];omega)) (by omega) (by omega) (by omega)
 ·exact⟨QF.nil.mono (by omega),dC _,fun l f=>by cases f⟩
structure FaG(e:List Int):Prop where
 pp:Pp e
 len:e.length<=19
 num:∀n∈e,nl n.natAbs<=1405
 cop:Cop (aT 1 e) (fW (aT 1 e))
def fT(e:List Int):List (List UInt8):=(cE e).map cW
def dT(e:List Int):List (List UInt8):=(aW aV (fW (cE e))).map cW
section
variable {e:List Int}(h:FaG e)
include h
def FaG.qf:QF (cE e) 1405:=QF.mon_ h.pp.ne h.pp.tr h.num
def FaG.tx:TxG (fT e) 1405 19:=dyM h.qf (by decide) (by decide) (by rw[(uD h.pp.tr).1];exact h.len)
def FaG.dq:QF (aW aV (fW (cE e))) 1406:=h.qf.der (by rw[(uD h.pp.tr).1];have:=h.len;omega)
def FaG.dl:(aW aV (fW (cE e))).length=e.length-1:=by
 rw[(MI (uD h.pp.tr)).2,qO,(uD h.pp.tr).1]
def FaG.one:cf (cE e) ((cE e).length-1)=1:=by
 rw[(uD h.pp.tr).1];unfold cE;rw[xN];exact dyJ (gJ ((dR h.pp.ne).1 h.pp.tr)) (azF _).symm
end
def Cop.scale{a b f g:List Rat}{c:Rat}(h:Cop a b)(l:c≠0)(m:d≠0)(i:∀x,aI f x=c*aI a x)(j:∀x,aI g x=d*aI b x):Cop f g:=by
 obtain⟨u,v,k⟩:=h;have p:=gW (a:=1) l;have r:=gW (a:=1) m;refine⟨u.map (fun q=>(1/c)*q),v.map (fun q=>(1/d)*q),fun x=> ?_⟩;rw[iI,iI,i,j];have:=k x;generalize 1/c=n at *;generalize 1/d=o at *;grind
def exG(a:Pp e)(h:Cop (aT 1 e) (fW (aT 1 e))):Cop (cE e) (aW aV (fW (cE e))):=by
 have b:=dyL (gJ ((dR a.ne).1 a.tr));refine h.scale b b (GA e) (fun x=> ?_);rw[oT (iS _),<-qW,<-qW,<-axU];exact axS (fun i=>LL (fun y=>by rw[GA,iI,dV]) i) x
def ex2{b:List Int}(h:Euc B a b g):1<a.length->g.length=1->g=[1]:=by
 induction h with
 |done a=>intro f c;omega
 |one d=>exact fun _ _=>rfl
 |step d h t e=>exact fun _ c=>e d c
structure NnF(w:List Int)(l:List (List Int)):Prop where
 pp:∀f∈l,DvW w f∧Cop (aT 1 f) (fW (aT 1 f))
 pw:∃k:Rat,∀y,aX w y=k*dZ l 1 y
def dyB(b:Pp e)(x:Rat):aX e x=((cf e (e.length-1):Int):Rat)*aI (cE e) x:=by
 have c:=gJ ((dR b.ne).1 b.tr);have:=gW (a:=1) c;rw[GA];generalize 1/((cf e (e.length-1):Int):Rat)=z at *;grind
def ex3(g:Pp e)(a:Pp f)(h:cE f=cE e)(d:Cop (aT 1 e) (fW (aT 1 e))):Cop (aT 1 f) (fW (aT 1 f)):=by
 have b:=exG g d;rw[<-h] at b;have c:=gJ ((dR a.ne).1 a.tr);refine b.scale c c (fun x=>by rw[dV];exact dyB a x) (fun x=> ?_);rw[oT (iS _),<-qW,<-qW,<-axU];exact axS (fun i=>LL (fun y=>by rw[iI,dV];exact dyB a y) i) x
def ex4(e:f.length<=1)(a:StT K f (aS (bB f)) c)(i:Int)(x:Rat)(j:Int)(y:Rat):c=[]:=by
 have b:aS (bB f)=[]:=bX (by rw[dF,lZ];omega);rw[b] at a;cases a with
 |done=>rfl
 |step d=>exact absurd rfl d
structure NnA(w:List Int)(es:List (List Int))(i:Int)(x:Rat)(N:Nat->Int):Prop where
 cnt:es.length<=w.length
 fac:NnF w es
 same:∀B g Q l,pO B w (bB w) g->QuoOf w g Q->Sqf B Q g l->l.map cE=es.map cE∧∀f∈l,DvW w f∧Cop (aT 1 f) (fW (aT 1 f))
 num:∀(j:Nat) (e f:List Int) (c:List (List Int)),es[j]? =some e->DvW w f->Cop (aT 1 f) (fW (aT 1 f))->cE f=cE e->StT 110079 f (aS (bB f)) c->fF f c i x 1 0=N j
def VX(g:f.length<=1)(b:f≠[])(h:aN f)(d:StT K f (aS (bB f)) c)(i:Int)(x:Rat):fF f c i x 1 0=0:=by
 obtain rfl:=ex4 g d i x 1 0;have k:=List.length_pos_iff.2 b;obtain⟨y,rfl⟩:=List.length_eq_one_iff.1 (show f.length=1 by omega);have j:=h y rfl;have e:∀(i:Int) (x:Rat),aY 0 ([[y]].map (fun a=>aP a i x))=0:=fun i x=>by
  show(if aP [y] i x=0 then 0 else (if (0:Int)≠0∧aP [y] i x≠0 then 1 else 0)+0)=0
  split
  ·rfl
  ·rw[if_neg (by simp)]
 unfold fF;rw[e,e];rfl
def kI(ns:List Int)(n:Nat)(N:Nat->Int)(i:Int)(x:Rat):Prop:=ns=[]∨(0<=aP ns 1 0∧0<=aP ns i x∧∀j,j<n->j%2=0->N j<=0)
def ex0(tn:aN ns)(k:ns≠[])(i:Int)(x:Rat):aP (aS ns) i x=aP ns i x:=by
 have d:0<(bC ns:Int):=by have:=nI tn k;omega
 have j:∀a:Int,((bC ns:Int)*a).sign=a.sign:=fun a=>by rw[Int.sign_mul,aqI d,az5]
 by_cases c:i=0
 ·subst c;rw[<-yI,<-yI];have e:=pR ns x;have f:(0:Rat)<((bC ns:Int):Rat):=by exact_mod_cast d
  rcases uS x (aX (aS ns)) with ⟨h,b⟩|⟨h,b⟩|⟨h,b⟩
  ·rw[b];exact(yL (by rw[e];have:=azA f (show 0< -aX (aS ns) x by grind);grind)).symm
  ·rw[b];exact(axI (by rw[e,h,dU])).symm
  ·rw[b];exact(yK (by rw[e];exact azA f h)).symm
 ·have g:cf ns (ns.length-1)=(bC ns:Int)*cf (aS ns) (ns.length-1):=by rw[fD];exact(lW ns _).symm
  unfold aP;rw[if_neg c,if_neg c,dF,g,j]
def ex1(tn:aN ns)(b:ns≠[])(h:0<=aP ns 1 0):aP ns 1 0=1:=by
 have a:=(dR b).1 tn;rw[zF 1 (by decide)] at h⊢;rcases aqL (cf ns (ns.length-1)) 0 with k|k|k
 ·rw[aqT k] at h;omega
 ·exact absurd k a
 ·exact aqI k
def Cop.pow{e a:List Rat}(h:Cop e a):∀n,Cop e (fJ a n)
 |0=>Cop.const (k:=1) (by decide) (fun x=>by show(0:Rat)*x+1=1;grind)
 |n+1=>(Cop.pow h n).mul h (fun x=>fY _ _ x)
def dqD{e:List Rat}(es:List (List Int)):(∀f∈es,Cop e (aT 1 f))->∀n,∃r:List Rat,(∀x,aI r x=dZ es n x)∧Cop e r:=by
 induction es with
 |nil=>exact fun _ n=>⟨[1],fun x=>by show(0:Rat)*x+1=1;grind,Cop.const (k:=1) (by decide) (fun x=>by show(0:Rat)*x+1=1;grind)⟩
 |cons f es d=>
  intro h n;obtain⟨r,c,a⟩:=d (fun g b=>h g (j8 _ b)) (n+1);refine⟨fG (fJ (aT 1 f) n) r,fun x=> ?_,((h f iC).pow n).mul a (fun x=>fY _ _ x)⟩;rw[fY,t6,c];rfl
def dqE(es:List (List Int)):es.Pairwise (fun e f=>Cop (aT 1 e) (aT 1 f))->∀(n j:Nat) (e:List Int),es[j]? =some e->∃r:List Rat,Cop (aT 1 e) r∧∀x,dZ es n x=aX e x^(n+j)*aI r x:=by
 induction es with
 |nil=>intro _ n j e h;simp at h
 |cons f es m=>
  intro l n j e h;obtain⟨c,i⟩:=List.pairwise_cons.1 l;cases j with
  |zero=>
   injection h with h;subst h;obtain⟨r,b,a⟩:=dqD es (fun g k=>c g k) (n+1);exact⟨r,a,fun x=>by rw[b];rfl⟩
  |succ j=>
   have d:es[j]? =some e:=h;obtain⟨r,a,b⟩:=m i (n+1) j e d;refine⟨fG (fJ (aT 1 f) n) r,((c e (dG d)).symm.pow n).mul a (fun x=>fY _ _ x),fun x=> ?_⟩;rw[fY,t6,dV];show aX f x^n*dZ es (n+1) x=_
   rw[b,show n+1+j=n+(j+1) by omega];grind
def dqF{w:List Int}(h:RfO B w a g es)(C:∀e∈es,Pp e)(G:∃x,aI p x≠0)(y:k≠0)(F:∀x,aX w x=k*(aI p x*aI p x))(j:Nat)(e:List Int)(f:es[j]? =some e)(I:j%2=0):e.length=1:=by
 obtain⟨⟨b,c,t⟩, -⟩:=h.prod;obtain⟨l,m⟩:=h.cops;have i:=dG f;obtain⟨r,D,v⟩:=dqE es m 1 j e f
 have A:k/b≠0:=fun n=>y (by
  have:=gW (a:=k) c;rw[n,aqQ] at this;exact this.symm)
 obtain⟨u,E⟩:=dqL (k:=k/b) A (l e i).1 D (j/2) p G (fun x=>by
  have o:=t x;rw[F,v,show 1+j=2*(j/2)+1 by omega] at o;have H:k/b*b=k:=gW c;rw[dV];generalize aX e x^(2*(j/2)+1)=z at *;have s:(k/b*(aI p x*aI p x)-z*aI r x)*b=0:=by
   generalize k/b=q at *;grind
  rcases Rat.mul_eq_zero.1 s with h|h
  ·grind
  ·exact absurd h c)
 have d:DvE (aI (aT 1 e)) (aT 1 e):=⟨[1],fun x=>by show _=(0*x+1)*_;grind⟩;exact dyN (C e i) d d ⟨u,[],fun x=>by rw[E];show(1:Rat)+0*_=1;grind⟩
def dqG(l:List Rat)(w:x<y)(h:aI l x*aI l y<0)(f:∀z,x<=z->z<=y->aI l z≠0):∀n:Nat,∃a b,x<=a∧a<b∧b<=y∧b-a=(y-x)/2^n∧aI l a*aI l b<0:=by
 intro n;induction n with
 |zero=>exact⟨x,y,by grind,w,by grind,by rw[azM];grind,h⟩
 |succ n A=>
  obtain⟨a,b,g,B,j,r,C⟩:=A;have e:(b-a)/2=(y-x)/2^(n+1):=by
   rw[r,azH];have i:(2:Rat)^n≠0:=GB (by decide) n;generalize (2:Rat)^n=t at *;have d:=gW (a:=y-x) i;have c:=gW (a:=y-x) (b:=t*2) (by grind);generalize (y-x)/t=u at *;generalize (y-x)/(t*2)=v at *;have:(u/2-v)*t=0:=by grind
   rcases Rat.mul_eq_zero.1 this with k|k
   ·grind
   ·exact absurd k i
  have p:=f ((a+b)/2) (by grind) (by grind);by_cases k:aI l a*aI l ((a+b)/2)<0
  ·exact⟨a,(a+b)/2,g,by grind,by grind,by rw[<-e];grind,k⟩
  ·refine⟨(a+b)/2,b,by grind,by grind,j,by rw[<-e];grind,?_⟩;have s:=f a g (by grind);have o:=f b (by grind) j;generalize aI l ((a+b)/2)=m at *;generalize aI l a=u at *;generalize aI l b=v at *;rcases iY u with d|d|d
   ·have hv:0<v:=by
     rcases iY v with c|c|c
     ·have:=azA (show 0< -u by grind) (show 0< -v by grind);grind
     ·exact absurd c o
     ·exact c
    have q:m<0:=by
     rcases iY m with c|c|c
     ·exact c
     ·exact absurd c p
     ·have:=azA (show 0< -u by grind) c;grind
    have:=azA (show 0< -m by grind) hv;grind
   ·exact absurd d s
   ·have hv:v<0:=by
     rcases iY v with c|c|c
     ·exact c
     ·exact absurd c o
     ·have:=azA d c;grind
    have q:0<m:=by
     rcases iY m with c|c|c
     ·have:=azA d (show 0< -m by grind);grind
     ·exact absurd c p
     ·exact c
    have:=azA q (show 0< -v by grind);grind
def dqH{l g:List Rat}(E:0<d)(h:∀z,x<=z->z<=y->d<=aI l z*aI g z∨aI l z*aI g z<= -d)(L:x<y):0<aI l x*aI l y:=by
 have i:∀z,x<=z->z<=y->aI l z≠0:=fun z P Q k=>by
  have:=h z P Q;rw[k,aqQ] at this;rcases this with h|h<;>grind
 have s:=m6 (i x (by grind) (by grind)) (i y (by grind) (by grind));rcases iY (aI l x*aI l y) with k|k|k
 ·exfalso;obtain⟨R,m,o,p⟩:∃R:Rat,0<=R∧ab x R∧ab y R:=⟨max (max x (-x)) (max y (-y)),by grind,⟨by grind,by grind⟩,⟨by grind,by grind⟩⟩;obtain⟨M,V,H⟩:=axR l m;obtain⟨G,U,F⟩:=axQ g m;obtain⟨n,hn⟩:=axG E (M*G*(y-x)+1);obtain⟨a,b,w,S,T,A,e⟩:=dqG l L k i n;have r:ab a R:=⟨by have:=o.1;grind,by have:=p.2;grind⟩;have D:ab b R:=⟨by have:=o.1;grind,by have:=p.2;grind⟩;have j:=H a b r D (by grind);have B:=F a r;have C:=h a w (by grind);have J:=VY (x:=2) (by decide) n;have I:=gW (a:=y-x) (show(2:Rat)^n≠0 by grind);rw[A] at j;generalize (2:Rat)^n=t at *;generalize (y-x)/t=q at *;generalize aI l a=u at *;generalize aI l b=v at *;generalize aI g a=z at *;have K:ab u (M*q):=by
   obtain⟨N,O⟩:=j;rcases iY u with f|f|f
   ·have hv:0<v:=by
     rcases iY v with c|c|c
     ·have:=azA (show 0< -u by grind) (show 0< -v by grind);grind
     ·rw[c,dU] at e;exact absurd e (by decide)
     ·exact c
    constructor<;>grind
   ·rw[f,aqQ] at e;exact absurd e (by decide)
   ·have hv:v<0:=by
     rcases iY v with c|c|c
     ·exact c
     ·rw[c,dU] at e;exact absurd e (by decide)
     ·have:=azA f c;grind
    constructor<;>grind
  obtain⟨N,O⟩:=K.mul B;have f:M*q*G<d:=by
   by_cases k:M*q*G<d
   ·exact k
   ·have c:=cA (show 0<=M*q*G-d by grind) (az6 J);have W:M*q*G*t=M*G*(y-x):=by rw[<-I];grind
    grind
  rcases C with h|h<;>grind
 ·exact absurd k s
 ·exact k
def eY:List Rat->List Rat
 |[]=>[]
 |a :: l=>a :: (eY l).map (fun q=> -1*q)
def dy0(l:List Rat):(eY l).length=l.length:=by
 induction l with
 |nil=>rfl
 |cons a l b=>show((eY l).map _).length+1=l.length+1;rw[cH,b]
def dy1(l:List Rat)(x:Rat):aI (eY l) x=aI l (-x):=by
 induction l with
 |nil=>rfl
 |cons a l b=>
  show aI ((eY l).map (fun q=> -1*q)) x*x+a=aI l (-x)*(-x)+a
  rw[iI,b];grind
def dq9(l:List Rat):∀i,cf (eY l) i=if i%2=0 then cf l i else -cf l i:=by
 induction l with
 |nil=>intro i;show cf ([]:List Rat) i=_;rw[eR];split<;>grind
 |cons a l e=>
  intro i;cases i with
  |zero=>rfl
  |succ i=>
   have b:cf (eY (a :: l)) (i+1)=cf ((eY l).map (fun q=> -1*q)) i:=rfl;have d:cf (a :: l) (i+1)=cf l i:=rfl;rw[b,d,mG (fun q=> -1*q) (dU _),e];rcases Nat.mod_two_eq_zero_or_one i with k|k
   ·rw[if_pos k,if_neg (by omega)];grind
   ·rw[if_neg (by omega),if_pos (by omega)];grind
def dy2(b:a≠[])(p:aN a):∃X:Rat,∀x,x<=X->aP a 0 x=aP a (-1) 0:=by
 have r:=gJ ((dR b).1 p);have t:=List.length_pos_iff.2 b;have f:cf (eY (aT 1 a)) (a.length-1)=if a.length%2=0 then -((cf a (a.length-1):Int):Rat) else ((cf a (a.length-1):Int):Rat):=by
  rw[dq9,dS,azF];rcases Nat.mod_two_eq_zero_or_one a.length with k|k
  ·rw[if_neg (by omega),if_pos k]
  ·rw[if_pos (by omega),if_neg (by omega)]
 have j:aP a (-1) 0=(cf (eY (aT 1 a)) (a.length-1)).num.sign:=by
  rw[f];unfold aP;rw[if_neg (by decide)];by_cases k:a.length%2=0
  ·rw[if_pos ⟨by decide,k⟩,if_pos k,Rat.neg_num,Rat.num_intCast,Int.sign_neg]
  ·rw[if_neg (fun h=>k h.2),if_neg k,Rat.num_intCast]
 have i:eY (aT 1 a)≠[]:=fun e=>by
  have:=congrArg List.length e;rw[dy0,fX] at this;simp at this;exact b this
 have g:(eY (aT 1 a)).length=a.length:=by rw[dy0,fX]
 rw[j];rcases iY (cf (eY (aT 1 a)) (a.length-1)) with k|k|k
 ·obtain⟨X,m,l,d⟩:=FV ((eY (aT 1 a)).map (fun q=> -1*q)) (fun e=>i (List.map_eq_nil_iff.1 e)) (by
   rw[cH,g,mG (fun q=> -1*q) (dU _),Rat.neg_mul,azF];clear f j;generalize cf (eY (aT 1 a)) (a.length-1)=q at *;grind)
  refine⟨-X,fun x o=> ?_⟩;have:=d (-x) (by grind);rw[iI,dy1,show- -x=x by grind] at this;rw[(fS _).2 k,<-yI];exact yL (show aX a x<0 by rw[uQ];grind)
 ·exfalso;rw[f] at k;split at k<;>grind
 ·obtain⟨X,m,l,d⟩:=FV (eY (aT 1 a)) i (by rw[g];exact k);refine⟨-X,fun x o=> ?_⟩;have:=d (-x) (by grind);rw[dy1,show- -x=x by grind] at this;rw[(fS _).1 k,<-yI];exact yK (show 0<aX a x by rw[uQ];grind)
def dqA(L:List (List Int)):(∀a∈L,a≠[]∧aN a)->∃X:Rat,∀x,x<=X->∀a∈L,aP a 0 x=aP a (-1) 0:=by
 induction L with
 |nil=>exact fun _=>⟨0,fun x _ a d=>by cases d⟩
 |cons b L g=>
  intro h;obtain⟨X,e⟩:=g (fun a d=>h a (j8 _ d));obtain⟨Y,f⟩:=dy2 (h b iC).1 (h b iC).2;refine⟨min X Y,fun x i a d=> ?_⟩;rcases List.mem_cons.1 d with rfl|d
  ·exact f x (by grind)
  ·exact e x (by grind) a d
section
variable {K:Nat}{w s:List Int}{c:List (List Int)}(h:Cn K w s c)(tw:aN w)(hK:∀n∈s,nl n.natAbs<=K)(kd:∀n∈aS (bB s),nl n.natAbs<=K)
include h tw hK kd
def dy3(x:Rat):∃n d,Vs (p2 n) d (fun x=>aY 0 ((s :: c).map (fun a=>aP a 0 x))) (fun x=>aP s 0 x)∧ -p2 n<x∧x<p2 n∧aP s 0 (p2 n)=aP s 1 0∧
  aY 0 ((s :: c).map (fun a=>aP a 1 0))=aY 0 ((s :: c).map (fun a=>aP a 0 (p2 n)))∧aY 0 ((s :: c).map (fun a=>aP a (-1) 0))=aY 0 ((s :: c).map (fun a=>aP a 0 (-p2 n))):=by
 have l:=Q5 (lE h.sq.ts);have f:=h.st.mem l kd;have e:∀a∈s :: c,a≠[]∧aN a:=fun a b=>by
  rcases List.mem_cons.1 b with rfl|b
  ·exact⟨h.sq.ne,h.sq.ts⟩
  ·exact⟨(f _ b).1,(f _ b).2.1⟩
 obtain⟨X,i⟩:=dyD (s :: c) e;obtain⟨Y,j⟩:=dqA (s :: c) e;obtain⟨n,hn⟩:=cx9 (max (max X (-Y)) (max (x+1) (-x+1)));obtain⟨d,hv⟩:=ex9 (n:=n) h tw hK kd;have g:=i (p2 n) (by grind);have k:=j (-p2 n) (by grind);refine⟨n,d,hv,by grind,by grind,g s iC,?_,?_⟩
 ·rw[by3 (fun a b=>(g a b).symm)]
 ·rw[by3 (fun a b=>(k a b).symm)]
def dqB(j:∀x y,x<y->0<aX s x*aX s y):fF s c (-1) 0 1 0=0:=by
 obtain⟨n,d,hv,m,o, -,g,i⟩:=dy3 h tw hK kd 0;have p:=jZ n
 have:aY 0 ((s :: c).map (fun a=>aP a 0 (-p2 n)))=aY 0 ((s :: c).map (fun a=>aP a 0 (p2 n))):=hv.none (-p2 n) (p2 n) ⟨by grind,by grind⟩ ⟨by grind,by grind⟩ (by grind) (fun x y _ l _ _=>by
  have k:=j x y l;simp only[<-yI];rcases uS x (aX s) with ⟨f,e⟩|⟨f,e⟩|⟨f,e⟩
  ·rw[e];refine yL ?_;rcases iY (aX s y) with b|b|b
   ·exact b
   ·rw[b,dU] at k;exact absurd k (by decide)
   ·have:=azA (show 0< -aX s x by grind) b;grind
  ·rw[f,aqQ] at k;exact absurd k (by decide)
  ·rw[e];refine yK ?_;rcases iY (aX s y) with b|b|b
   ·have:=azA f (show 0< -aX s y by grind);grind
   ·rw[b,dU] at k;exact absurd k (by decide)
   ·exact b)
 unfold fF;rw[g,i];omega
def dqC(x:Rat)(p:aP s 0 x≠0)(o:aP s 0 x≠aP s 1 0):0<fF s c (-1) 0 1 0:=by
 obtain⟨n,d,hv,l,e,g,i,j⟩:=dy3 h tw hK kd x;have t:=jZ n;have m:ab (-p2 n) (p2 n):=⟨by grind,by grind⟩;have f:ab (p2 n) (p2 n):=⟨by grind,by grind⟩;have b:ab x (p2 n):=⟨by grind,by grind⟩;have u:aY 0 ((s :: c).map (fun a=>aP a 0 x))<=aY 0 ((s :: c).map (fun a=>aP a 0 (-p2 n))):=hv.mono (-p2 n) x m b l;have q:aY 0 ((s :: c).map (fun a=>aP a 0 (p2 n)))<=aY 0 ((s :: c).map (fun a=>aP a 0 x)):=hv.mono x (p2 n) b f e;have r:aY 0 ((s :: c).map (fun a=>aP a 0 x))=aY 0 ((s :: c).map (fun a=>aP a 0 (p2 n)))->aP s 0 (p2 n)≠0∧(aP s 0 x≠0->aP s 0 (p2 n)=aP s 0 x):=hv.same x (p2 n) b f e;unfold fF;rw[i,j];rcases dE (aY 0 ((s :: c).map (fun a=>aP a 0 (p2 n)))) (aY 0 ((s :: c).map (fun a=>aP a 0 x))) with k|k
 ·omega
 ·have:=(r (byS k q)).2 p;exact absurd (this.symm.trans g) o
end
def PX{w:List Int}(a:Pp w)(b:∀n∈w,nl n.natAbs<=23000)(c:w.length<=9)(d:DvW w f):Sy f:=⟨by have:=d.len;omega,fun n hn=>aH (d.nums a.ne a.tr b c (by decide) n hn) (by decide)⟩
def dz9(G:Glob W){w:List Int}(j:Pp w)(H:∀n∈w,nl n.natAbs<=23000)(O:w.length<=9):∃es,(w.length=1∧es=[]∨∃a g,RfO 9000000000 w a g es)∧∀B g Q l,pO B w (bB w) g->QuoOf w g Q->Sqf B Q g l->NnF w l∧l.map cE=es.map cE:=by
 obtain⟨es,hF,J⟩:=exH (N:=9) (K:=437020) (B:=9000000000) G j H O (by decide) (by decide) (by decide) (by unfold aJ;decide);refine⟨es,hF,fun B g Q l t r s=> ?_⟩;have i:=J B g Q l t r s;obtain⟨S, -⟩:=H3 j t;obtain⟨v,dg⟩:=QuoOf.dvw (DvW.refl j) S r;have d:=s.all v dg;refine⟨?_,i⟩;rcases hF with ⟨D,rfl⟩|⟨a,T,h⟩
 ·obtain rfl:l=[]:=List.map_eq_nil_iff.1 i;refine⟨(fun f c=>by cases c),((cf w 0:Int):Rat),fun y=> ?_⟩;obtain⟨q,rfl⟩:=List.length_eq_one_iff.1 D;show(0:Rat)*y+1*(q:Rat)=(q:Rat)*1
  grind
 ·obtain⟨⟨P,U,x⟩, -⟩:=h.prod;obtain⟨u, -⟩:=h.cops;have k:=h.all (DvW.refl j);obtain⟨m,M,A⟩:=dyH (es:=es) (fun e b=>⟨(k e b).ne,(k e b).tr⟩) 1;obtain⟨R,V,C⟩:=dyH (es:=l) (fun e b=>⟨(d e b).ne,(d e b).tr⟩) 1;refine⟨fun f c=>⟨d f c,?_⟩,P*(1/m*R),fun y=> ?_⟩
  ·have L:cE f∈es.map cE:=by rw[<-i];exact List.mem_map_of_mem c
   obtain⟨e,b,I⟩:=List.mem_map.1 L;exact ex3 (k e b).pp (d f c).pp I.symm (u e b).1
  ·have E:=A y;have o:=C y;rw[i,E] at o;have F:=gW (a:=1) M;rw[x];generalize 1/m=z at *;generalize dZ es 1 y=p at *;have:p=z*(m*p):=by rw[<-azC,F,azF]
   rw[this,o];grind
def Q0(o:Glob W){w:List Int}(v:Pp w)(p:∀n∈w,nl n.natAbs<=23000)(t:w.length<=9)(d:DvW w f)(m:Cop (aT 1 f) (fW (aT 1 f)))(l:1<f.length)(q:StT 9000000000 f (aS (bB f)) c):Cn 9000000000 f f c∧Sqp 9000000000 f f:=by
 have j:=PX v p t d;have r:GcdFit 437021 9000000000 f (bB f):=dyP (N:=9) d.pp j.2 j.1 (by decide) (by decide) (by decide);obtain⟨g,a⟩:=dyA o r (by decide) (by unfold aJ;omega);obtain⟨z,k⟩:=H3 d.pp a;unfold pO at a;rw[if_neg (by have:=lZ f;omega),XC d.pr] at a
 have s:g.length=1:=dyN z (A:=aT 1 f) (B:=fW (aT 1 f)) (by
  obtain⟨u,b⟩:=kW k;exact⟨u,fun x=>by rw[dV];exact b x⟩) (by
  obtain⟨u,b⟩:=kW (JS a).2;refine⟨u.map (fun y=>((bC (bB f):Int):Rat)*y),fun x=> ?_⟩;rw[<-qW,<-yM,pR,b,iI];grind) m
 have e:=ex2 a l s;subst e;have h:Sqp 9000000000 f f:=⟨⟨[1],a,by decide,oB rfl,by decide,by simp,fun i=>(CO _ i).symm⟩,d.ne,d.tr⟩;exact⟨⟨h,q⟩,h⟩
structure NyA(w:List Int)(es:List (List Int))(i:Int)(x:Rat)(N:Nat->Int):Prop where
 cnt:es.length<=w.length
 fac:NnF w es
 same:∀B g Q l,pO B w (bB w) g->QuoOf w g Q->Sqf B Q g l->l.map cE=es.map cE∧∀f∈l,DvW w f∧Cop (aT 1 f) (fW (aT 1 f))
 num:∀(j:Nat) (e f:List Int) (c:List (List Int)),es[j]? =some e->DvW w f->Cop (aT 1 f) (fW (aT 1 f))->cE f=cE e->StT 9000000000 f (aS (bB f)) c->fF f c i x 1 0=N j
def dzA(A:Glob W){w:List Int}(z:Pp w)(C:∀n∈w,nl n.natAbs<=23000)(D:w.length<=9)(i:Int)(x:Rat):∃es N,(w.length=1∧es=[]∨∃a g,RfO 9000000000 w a g es)∧NyA w es i x N:=by
 obtain⟨es,hF,U⟩:=dz9 A z C D;have V:NnF w es:=by
  rcases hF with ⟨r,rfl⟩|⟨a,g,h⟩
  ·refine⟨(fun f v=>by cases v),((cf w 0:Int):Rat),fun y=> ?_⟩;obtain⟨q,rfl⟩:=List.length_eq_one_iff.1 r;show(0:Rat)*y+1*(q:Rat)=(q:Rat)*1
   grind
  ·obtain⟨⟨Z,ac,M⟩, -⟩:=h.prod;obtain⟨K, -⟩:=h.cops;have S:=h.all (DvW.refl z);exact⟨fun f v=>⟨S f v,(K f v).1⟩,Z,M⟩
 have Y:∀(f m:List Int) (c p:List (List Int)),DvW w f->Cop (aT 1 f) (fW (aT 1 f))->DvW w m->Cop (aT 1 m) (fW (aT 1 m))->cE f=cE m->StT 9000000000 f (aS (bB f)) c->StT 9000000000 m (aS (bB m)) p->fF f c i x 1 0=fF m p i x 1 0:=fun f m c p d k o E t s u=>by
  have ad:f.length=m.length:=by rw[<-(uD d.tr).1,<-(uD o.tr).1,t]
  by_cases r:1<f.length
  ·obtain⟨q, -⟩:=Q0 A z C D d k r s;obtain⟨q', -⟩:=Q0 A z C D o E (by omega) u;have J:=uD o.tr;rw[<-t] at J;exact q.unique q' (by decide) (by decide) (uD d.tr) J i x 1 0
  ·rw[VX (by omega) d.ne d.tr s,VX (by omega) o.ne o.tr u]
 obtain⟨R,F⟩:∃R:Nat->Int->Prop,R=fun j n=>∃e f c,es[j]? =some e∧DvW w f∧Cop (aT 1 f) (fW (aT 1 f))∧cE f=cE e∧StT 9000000000 f (aS (bB f)) c∧fF f c i x 1 0=n:=⟨_,rfl⟩;have T:es.length<=w.length:=by
  rcases hF with ⟨-,rfl⟩|⟨a,g,h⟩
  ·exact dC _
  ·have:=h.short.1;omega
 refine⟨es,fun j=>Classical.epsilon (R j),hF,T,V,fun B g Q l r O P=> ?_,fun j e f c G d k t s=> ?_⟩
 ·obtain⟨a,b⟩:=U B g Q l r O P;exact⟨b,a.pp⟩
 ·have h:∃n,R j n:=⟨fF f c i x 1 0,by rw[F];exact⟨e,f,c,G,d,k,t,s,rfl⟩⟩;have I:=Classical.epsilon_spec h;generalize Classical.epsilon (R j)=n at *;rw[F] at I;obtain⟨L,m,p,H,o,E,X,u,hn⟩:=I;obtain rfl:e=L:=by rw[G] at H;injection H
  rw[<-hn];exact Y f m c p d k o E (t.trans X.symm) s u
def ZA(v:Value):Prop:=∃s A k c,v= .agg #[.bool s,.slice A k c]
def ZC(w':World)(a:List (List UInt8))(E:Int)(v b:Value):Prop:=E=0->∃D,vl a=true∧a≠[]∧ComDen (aU a) D 8∧WholeAt w' v (cC (aU a) D)∧IntAt w' b D
def uK(w:World)(a:List (List UInt8))(e:Ending)(w':World):Prop:=∃A k c b,e= .returned (.tuple #[.slice A k c,b,.int .i64 (dM a)])∧ZA b∧ZC w' a (dM a) (.slice A k c) b∧Below w.1.size w w'
def NatAt.uniqI{a b:Nat}(m:NatAt w u a)(n:NatAt w u b):a=b:=by
 obtain⟨A,c,rfl,_,r,_⟩:=m;obtain⟨t,v,e,_,s,_⟩:=n;simp only[Value.slice.injEq] at e;obtain⟨rfl,x,_⟩:=e;have q:dg a=dg b:=by
  refine aq6 (fun i=> ?_);by_cases f:i<nl a
  ·have j:i<nl b:=by omega
   rcases r with h|⟨g,z,rfl,_,o⟩
   ·rw[<-aK,h] at f;simp at f
   ·rcases s with h|⟨y,B,l,_,p⟩
    ·rw[<-aK,h] at j;simp at j
    ·simp only[Option.some.injEq,Addr.mk.injEq] at l;obtain⟨rfl,rfl,_⟩:=l;have k:=o i (by rw[aK];exact f);have d:=p i (by rw[aK];exact j);rw[k] at d;simp only[Option.some.injEq,Value.int.injEq,true_and] at d;rw[aR (by rw[aK];exact f),aR (by rw[aK];exact j)];rw[eE,eE,aR (by rw[aK];exact f),aR (by rw[aK];exact j)] at d;exact congrArg some d
  ·rw[fU (by rw[aK];omega),fU (by rw[aK];omega)]
 have k:=cU a;have d:=cU b;rw[q,d] at k;omega
def IntAt.uniqI{x y:Int}(c:IntAt w v x)(d:IntAt w v y):x=y:=by
 obtain⟨u,rfl,a⟩:=c;obtain⟨g,e,b⟩:=d;simp at e;obtain⟨f,rfl⟩:=e;have:=a.uniqI b;omega
def WholeAt.offI{c g:Nat}{x m:Int}(h:WholeAt w (.slice A l c) (x :: ns))(q:IntBx w g m)(t:x≠m):∀b,A=some ⟨b,0,none⟩->b≠g:=fun b e p=>by
 subst p;obtain⟨v,s,B,z,d,j,_,k,o,hi⟩:=h.at_ (i:=0) (n:=x) rfl;rw[e] at j;simp only[Option.some.injEq,Addr.mk.injEq] at j;obtain⟨rfl,_⟩:=j;obtain⟨D,u,y,c',C,r⟩:=q;have a:=C.cell 0 rfl;have f:=C.cell 1 rfl;rw[azW] at k o;rw[k] at a;rw[o] at f;injection a with a;injection f with f;rw[a,f] at hi;exact t (hi.uniqI r)
def WholeAt.apart{B:Option Addr}{c g k d:Nat}{s:Bool}(h:WholeAt w (.slice A l c) ns)(o:ns≠[])(p:aN ns)(j:Bx w g [.bool s,.slice B k d] 60)(q:IntAt w (.agg #[.bool s,.slice B k d]) 0):∀b,A=some ⟨b,0,none⟩->b≠g:=fun b e m=>by
 subst m;cases ns with
 |nil=>exact o rfl
 |cons x ns=>
  cases ns with
  |nil=>exact h.offI ⟨_,_,_,_,j,q⟩ (p x rfl) b e rfl
  |cons y ns=>
   obtain⟨t,C,r,z,u,a,_,f,v,hi⟩:=h.at_ (i:=1) (n:=y) rfl;rw[e] at a;simp only[Option.some.injEq,Addr.mk.injEq] at a;obtain⟨rfl,_⟩:=a;rw[cell_of_row w b _ _ _ _ j] at f;simp at f
def exJ(B:Nat)(w':World)(a:List (List UInt8))(E:Int)(v b:Value):Prop:=E=0->∃D,vl a=true∧a≠[]∧ComDen (aU a) D B∧WholeAt w' v (cC (aU a) D)∧IntAt w' b D
def Y5(B:Nat)(w:World)(a:List (List UInt8))(e:Ending)(w':World):Prop:=∃A k c b,e= .returned (.tuple #[.slice A k c,b,.int .i64 (dM a)])∧ZA b∧exJ B w' a (dM a) (.slice A k c) b∧Below w.1.size w w'
def dyQ(d:List (List UInt8))(K:Nat)(v:Value)(w:World)(B:Glob w)(hv:StrsAt w v d)(hl:d.length<=7)(T:∀l∈d,l.length<=1073741824)(N:∀q∈aU d,RL K q)(ae:K<=1048576):Calls prog 35 #[v] w (Y5 (1+7*K) w d):=by
 obtain⟨A,c,rfl,hc⟩:=hv.form;have X:=fun W B hv=>VD d (.slice A d.length c) W B hv (by omega) (fun _=>T) K (1+7*K) 7 (fun _=>N) (fun _=>hl) (by decide) aE (by unfold aJ;omega);have S:(aU d).length=d.length:=cH _;unfold Y5;have P:=uL d;obtain⟨E,M⟩:∃E,dM d=E:=⟨_,rfl⟩;rw[M] at P⊢;clear M N T;obtain⟨W,J,a,R⟩:=bI w [.bool false,.slice none 0 0] 60;have cM:=R.g2;go_enter func35,ntmps35;go_wp2_with fail;(try rw[J]);clear J;refine(X _ (B.be a) (hv.be a)).mono ?_;rintro e1 w1 ⟨v1,ah,xs,D,rfl,s,t,u,O⟩;obtain⟨Z,c1,rfl,ag⟩:=s.form;obtain⟨k,g,j,i,rfl⟩:=t.form;replace R:=R.be O;replace a:=aC a O;have af:=R.lt;obtain⟨w2,n,x,F⟩:=bI w1 [.bool k,.slice g j i] 60;replace R:=R.be x;replace s:=s.be x;replace t:=t.be x;replace a:=aC a x;have cF:=F.k2;have cM:=aa R.g2 F.k2;clear X;rcases P with ⟨rfl,f,p⟩|⟨rfl,f⟩|⟨rfl,f,p⟩
 ·obtain⟨rfl,r⟩:=u f;have y:(cC (aU d) D).length=d.length:=by rw[oN,S]
  have Q:(cC (aU d) D).length≠0:=fun e=>p (bX (by omega));have V:=oO r.pos r.dvd (pJ f).2.2;have ad:=s.apart (fun e=>Q (by rw[e];rfl)) V R (IntAt.zero _);have q0:(((cC (aU d) D).length:Int)==0)=false:=by rw[beq_eq_false_iff_ne];omega
  have z:=aB (And.intro f (And.intro p r));rw[f];clear u f p r y Q V;obtain⟨H,G⟩:∃H,cC (aU d) D=H:=⟨_,rfl⟩;have ac:=aB G;rw[G] at s q0⊢;clear G;go_wp2_with fail;(try rw[n]);(try clear n);go_region
  all_goals (
   go_wp2_with fail;obtain⟨-,U⟩:=IntBx.stored (w:=w2) (b:=w.1.size) (m:=0) ⟨_,_,_,_,R,IntAt.zero _⟩ t;have Y:=s.step U ad;clear U;obtain⟨I,o,R,a,C,L⟩:=R.put2 a (by omega) (.bool k) (.slice g j i) rfl rfl;rw[o] at Y;have zD:=t.ke C;rw[o];exact aM (v:= .tuple #[.slice Z H.length c1,.agg #[.bool k,.slice g j i],.int .i64 0]) (by simp[results,results35,go_sem,R.k2]) rfl ⟨_,_,_,_,rfl,⟨_,_,_,_,rfl⟩,(fun _=>⟨D,z.out.1,z.out.2.1,z.out.2.2,by rw[ac.out];exact Y.drew,zD.drew⟩),a.drew⟩)
 ·rw[f];clear u f;go_wp2_with fail;(try rw[n]);(try clear n);go_region
  all_goals (
   go_wp2_with fail;obtain⟨I,o,R,a,C,L⟩:=R.put2 a (by omega) (.bool k) (.slice g j i) rfl rfl;rw[o];exact aM (v:= .tuple #[.slice none 0 0,.agg #[.bool k,.slice g j i],.int .i64 1]) (by simp[results,results35,go_sem,R.k2]) rfl ⟨_,_,_,_,rfl,⟨_,_,_,_,rfl⟩,(fun h=>absurd h (by decide)),a.drew⟩)
 ·obtain⟨rfl,r⟩:=u f;have y:(cC (aU d) D).length=0:=by rw[oN,S,p];rfl
  rw[f,y];clear u f p r y;go_wp2_with fail;(try rw[n]);(try clear n);go_region
  all_goals (
   go_wp2_with fail;obtain⟨I,o,R,a,C,L⟩:=R.put2 a (by omega) (.bool k) (.slice g j i) rfl rfl;rw[o];exact aM (v:= .tuple #[.slice none 0 0,.agg #[.bool k,.slice g j i],.int .i64 5]) (by simp[results,results35,go_sem,R.k2]) rfl ⟨_,_,_,_,rfl,⟨_,_,_,_,rfl⟩,(fun h=>absurd h (by decide)),a.drew⟩)
def D5(a:List (List UInt8))(v:Value)(w:World)(d:Glob w)(hv:StrsAt w v a)(b:a.length<=7)(c:∀l∈a,l.length<=6):Calls prog 35 #[v] w (uK w a):=dyQ a 1 v w d hv b (fun l h=>aH (c l h) (by decide)) (pI (fun l b=>aH (c l b) (by decide))) (by decide)
def Euc.mono{d:Nat}{b:List Int}(h:Euc B a b g)(e:B<=d):Euc d a b g:=by
 induction h with
 |done a=>exact .done a
 |one c=>exact .one c
 |step c h t f=>exact .step c (h.mono e) f
def Sqp.mono{a:Nat}{w:List Int}(h:Sqp B w s)(d:B<=a):Sqp a w s:=by
 obtain⟨g,b,c⟩:=h.out;exact⟨⟨g,b.mono d,c⟩,h.ne,h.ts⟩
def EdT(a:List UInt8):Prop:=a.length<=1073741824∧(rd a=true->RL 20000000 ((cL a).getD 0))
def EdT.short{a:List UInt8}(h:a.length<=18):EdT a:=⟨by omega,fun c=>by
 obtain⟨q,b⟩:=Option.isSome_iff_exists.1 c;rw[b];exact bU (lS b h) (by decide)⟩
def KR{l:List UInt8}(h:l.length<=18):RL 1 (m5 l):=by
 unfold m5;split
 ·exact iG (mC 1)
 ·cases hr:cL l with
  |none=>exact iG (mC 1)
  |some q=>exact lS hr h
def KT(l:List UInt8){d:Int}(h: -1<=d∧d<=1): -1<=lC l d∧lC l d<=1:=by
 unfold lC;split
 ·exact h
 ·decide
def oS(c:List (List UInt8))(a b:List UInt8):Int:=if dM c=1∨nJ a=false∨nJ b=false then 1 else dM c
def KU(A:List Rat)(i:Int)(x:Rat)(j:Int)(y:Rat)(E n:Int):Prop:=(E≠0->n=0)∧(E=0->CntR A i x j y n)
def uM(w:World)(c:List (List UInt8))(a b:List UInt8)(e:Ending)(w':World):Prop:=∃n:Int,e= .returned (.tuple #[.int .i64 n,.int .i64 (oS c a b)])∧ -1024<=n∧n<=1024∧KU (aU c) (lC a (-1)) (m5 a) (lC b 1) (m5 b) (oS c a b) n∧Below w.1.size w w'
def ZD(f:List (List UInt8))(a b:List UInt8)(v:Value)(w:World)(j:Glob w)(hv:StrsAt w v f)(y:f.length<=7)(hs:∀l∈f,l.length<=6)(ha:a.length<=12)(a1:b.length<=12):
  Calls prog 64 #[v,.string ⟨a.toArray⟩,.string ⟨b.toArray⟩] w (uM w f a b):=by
 obtain⟨A,c,rfl,hc⟩:=hv.form;have ak:=fun W j h=>D5 f (.slice A f.length c) W j h y hs;have ah:=fun W j=>J2 a (-1) W j (by omega);have ai:=fun W j=>J2 b 1 W j (by omega);have ra:=bU (KR (l:=a) (by omega)) (show 1<=30000000 by decide);have rb:=bU (KR (l:=b) (by omega)) (show 1<=30000000 by decide);have ia:=KT a (d:= -1) (by decide);have ib:=KT b (d:=1) (by decide);have ap:∀q∈aU f,RL 1 q:=pI (fun l y=>aH (hs l y) (by decide));have aw:(aU f).length=f.length:=cH _;unfold uK at ak;unfold J1 at ah ai;unfold uM;have i:oS f a b=if dM f=1∨nJ a=false∨nJ b=false then 1 else dM f:=rfl;have hR:=uL f;obtain⟨E,ao⟩:∃E,oS f a b=E:=⟨_,rfl⟩;rw[ao] at i⊢;clear ao;generalize dM f=R at *;generalize nJ a=oa at *;generalize nJ b=z at *;generalize lC a (-1)=I at *;generalize lC b 1=J at *;generalize m5 a=B at *;generalize m5 b=C at *;go_enter func64,ntmps64;go_wp2_with fail;refine(ak _ j hv).mono ?_;rintro e1 w1 ⟨A1,k1,c1,a2,rfl,⟨s2,A2,k2,c2,rfl⟩,H,g⟩;obtain⟨w2,e2,ac,F⟩:=bI w1 [.bool s2,.slice A2 k2 c2] 60;replace g:=aC g ac;replace H:R=0->∃D,vl f=true∧f≠[]∧ComDen (aU f) D 8∧WholeAt w2 (.slice A1 k1 c1) (cC (aU f) D):=fun h=>by
  obtain⟨D,U,V,m,Z,p⟩:=H h;exact⟨D,U,V,m,Z.be ac⟩
 have am:=aB H;clear H ak;have cF:=F.k2;go_wp2_with fail;(try rw[e2]);(try clear e2);refine(ah _ (j.be g)).mono ?_;rintro e3 w3 ⟨v3,rfl,m,ad⟩;obtain⟨s4,L,k4,P,s5,M,k5,Q,rfl⟩:=m.form;obtain⟨w4,e4,ae,X⟩:=bI w3 [.bool s4,.slice L k4 P,.bool s5,.slice M k5 Q,.int .i64 I] 107;replace m:=m.be ae;have G:=aC ad ae;replace g:=aC g G;have cX:=X.k5;clear ah;go_wp2_with fail;(try rw[e4]);(try clear e4);refine(ai _ (j.be g)).mono ?_;rintro e5 w5 ⟨v5,rfl,p,af⟩;obtain⟨s6,N,k6,S,s7,O,k7,T,rfl⟩:=p.form;obtain⟨w6,k,ag,Y⟩:=bI w5 [.bool s6,.slice N k6 S,.bool s7,.slice O k7 T,.int .i64 J] 107;replace p:=p.be ag;have t:=aC af ag;replace m:=m.be t;replace X:=X.be t;replace g:=aC g t;have an:=aC G t;have cX:=X.k5;have cY:=Y.k5;clear ai;rcases hR with ⟨rfl, -, -⟩|⟨rfl, -⟩|⟨rfl, -, -⟩
 ·cases oa with
  |false=>
   obtain rfl:E=1:=by rw[i];rfl
   clear i;cases z
   all_goals (
    go_wp2_with fail;all_goals (try rw[k])
    all_goals (try clear k)
    all_goals go_ret2
    all_goals exact⟨0,rfl,by decide,by decide,⟨fun _=>rfl,(fun h=>absurd h (by decide))⟩,g⟩
   )
  |true=>
   cases z with
   |false=>
    obtain rfl:E=1:=by rw[i];rfl
    clear i;go_wp2_with fail;all_goals (try rw[k])
    all_goals (try clear k)
    all_goals go_ret2
    all_goals exact⟨0,rfl,by decide,by decide,⟨fun _=>rfl,(fun h=>absurd h (by decide))⟩,g⟩
   |true=>
    obtain rfl:E=0:=by rw[i];rfl
    clear i;obtain⟨D,al,h0,x,K⟩:=am.out rfl;replace K:=K.be an;have ar:(cC (aU f) D).length=f.length:=by rw[oN,aw]
    have au:cC (aU f) D≠[]:=fun e=>h0 (bX (by rw[<-ar,e];rfl));have ax:=oO x.pos x.dvd (pJ al).2.2;have aj:=sA _ D 1 _ ap x.nl_;have av:=nM (uE x (pJ al).2.2);obtain⟨A8,c8,e8, -⟩:=K.form;simp only[Value.slice.injEq] at e8;obtain⟨rfl,rfl,rfl⟩:=e8;have a0:=fun W j h=>CZ (cC (aU f) D) (.slice A1 (cC (aU f) D).length c1) W j h ax au (by omega) aj;have aq:=fun s W u j h (o:Sqp 24057 (aS (cC (aU f) D)) s) (r:Sz s) m p=>J0 s I J B C u (.agg #[.bool s4,.slice L k4 P,.bool s5,.slice M k5 Q,.int .i64 I]) (.agg #[.bool s6,.slice N k6 S,.bool s7,.slice O k7 T,.int .i64 J]) W j h o.ts o.ne r m p ia ib ra rb;unfold xA at aq
    have HF:Hid (∀s n,Sqp 24057 (aS (cC (aU f) D)) s->Sz s->(jO I B J C=false->n=0)->(jO I B J C=true->∃c,StT 110079 s (aS (bB s)) c∧n=fF s c I B J C)->CntR (aU f) I B J C n):=fun s n o r U V=>⟨U,fun y=>by
     obtain⟨c,m,Z⟩:=V y;exact⟨_,s,c,av,⟨⟨o.mono (by decide),m⟩,o,r,by rw[dF];omega,gU aj⟩,Z⟩⟩
    clear am al h0 x ar au ax aj av ap aw G t an ac ad ae af ag;generalize cC (aU f) D=ns at *;go_wp2_with fail;(try rw[k]);(try clear k)
    go_region_held3 (fun w'=>C5 w' w3.1.size (.bool s4) (.slice L k4 P) (.bool s5) (.slice M k5 Q) (.int .i64 I)∧C5 w' w5.1.size (.bool s6) (.slice N k6 S) (.bool s7) (.slice O k7 T) (.int .i64 J)) (with_reducible exact⟨X.up.k5,Y.up.k5⟩)
     (first
      |(go_at_call 36;refine(a0 _ (j.be g).up K.up).mono ?_;rintro e7 w7 ⟨v7,s,rfl,h7,o,r,ay⟩;have:=St.mk ay)
      |(go_at_call 110;refine(aq s _ _ (j.be g).up h7.up o r m.up p.up).mono ?_;rintro e9 w9 ⟨n,rfl,n1,n2,n3,n4,az⟩;have:=St.mk az))
    all_goals (
     go_wp2;go_ret2;exact⟨n,rfl,n1,n2,⟨(fun h=>absurd rfl h),(fun _=>HF.out s n o r n3 n4)⟩,bJ (b:=w9) g⟩)
 ·obtain rfl:E=1:=by rw[i,if_pos (.inl rfl)]
  clear i;cases oa<;>cases z
  all_goals (
   go_wp2_with fail;all_goals (try rw[k])
   all_goals (try clear k)
   all_goals go_ret2
   all_goals exact⟨0,rfl,by decide,by decide,⟨fun _=>rfl,(fun h=>absurd h (by decide))⟩,g⟩
  )
 ·cases oa with
  |false=>
   obtain rfl:E=1:=by rw[i];rfl
   clear i;cases z
   all_goals (
    go_wp2_with fail;all_goals (try rw[k])
    all_goals (try clear k)
    all_goals go_ret2
    all_goals exact⟨0,rfl,by decide,by decide,⟨fun _=>rfl,(fun h=>absurd h (by decide))⟩,g⟩
   )
  |true=>
   cases z with
   |false=>
    obtain rfl:E=1:=by rw[i];rfl
    clear i;go_wp2_with fail;all_goals (try rw[k])
    all_goals (try clear k)
    all_goals go_ret2
    all_goals exact⟨0,rfl,by decide,by decide,⟨fun _=>rfl,(fun h=>absurd h (by decide))⟩,g⟩
   |true=>
    obtain rfl:E=5:=by rw[i];rfl
    clear i;go_wp2_with fail;all_goals (try rw[k])
    all_goals (try clear k)
    all_goals go_ret2
    all_goals exact⟨0,rfl,by decide,by decide,⟨fun _=>rfl,(fun h=>absurd h (by decide))⟩,g⟩
def KV(a:List (List UInt8))(v:Value)(w:World)(d:Glob w)(hv:StrsAt w v a)(e:a.length<=7)(f:∀l∈a,l.length<=6):
  Calls prog 20 #[v] w (uM w a [] []):=by
 obtain⟨A,c,rfl,i⟩:=hv.form;have h:=ZD a [] [] (.slice A a.length c) w d hv e f (by decide) (by decide);unfold uM at *;generalize oS a [] []=E at *;go_enter func20,ntmps20;go_wp2_with fail;refine h.mono ?_;rintro g j ⟨n,rfl,b⟩;go_wp2;go_ret2;exact⟨n,rfl,b⟩
def RetNg(w:World)(P:Prop)(e:Ending)(w':World):Prop:=∃b:Bool,e= .returned (.bool b)∧(b=true↔P)∧Below w.1.size w w'
def dz8(ns:List Int)(i:Int)(x:Rat)(es:List (List Int))(N:Nat->Int)(v u:Value)(w:World)(Y:Glob w)(hv:WholeAt w v ns)(hx:EndAt w u i x)(tn:aN ns)(hl:ns.length<=9)(Z:∀n∈ns,nl n.natAbs<=23000)(hi:i=0∨i= -1)(kx:RL 1 x)(r:ns≠[]->Pp (aS ns)∧(∀n∈aS ns,nl n.natAbs<=23000)∧NyA (aS ns) es i x N):
  Calls prog 68 #[v,u] w (RetNg w (kI ns es.length N i x)):=by
 obtain⟨A,c,rfl,hc⟩:=hv.form;obtain⟨S,C,P,G,T,D,R,H,rfl⟩:=hx.form;unfold RetNg;by_cases o:ns=[]
 ·have q0:((ns.length:Int)==0)=true:=by rw[o];rfl
  have F:Hid (kI ns es.length N i x):= .inl o;clear o r;obtain⟨W,I,a,X⟩:=bI w [.bool S,.slice C P G,.bool T,.slice D R H,.int .i64 i] 107;have s:=X.g5;go_enter func68,ntmps68;go_wp2_with fail;(try rw[I]);clear I;go_ret;exact⟨true,rfl,⟨fun _=>F.out,fun _=>rfl⟩,a⟩
 ·obtain⟨y,M,r⟩:=r o;have q0:((ns.length:Int)==0)=false:=by rw[beq_eq_false_iff_ne];have:=List.length_pos_iff.2 o;omega
  have lp:=dF ns;have p:Hid (kI ns es.length N i x↔0<=aP ns 1 0∧0<=aP ns i x∧∀j,j<es.length->j%2=0->N j<=0):=⟨fun h=>h.resolve_left o,.inr⟩;have ai:=fun W h=>wS ns (.slice A ns.length c) W h o (by omega);have aj:=fun W u h=>qG (cf ns (ns.length-1)) u W h (aH (iU Z _) (by decide));have af:=fun W u h h'=>UM i x ns u (.slice A ns.length c) W h h' (by omega) o (by omega) 23000 Z (bU kx (by decide)) (by decide);have ak:=fun W Y h=>dq8 ns (.slice A ns.length c) W Y h tn 437020 9000000000 (fun n hn=>aH (Z n hn) (by decide)) (by decide) (by unfold aJ;decide) (by unfold aJ;decide) (by omega) (FB (aS ns)) (dqX (N:=9) y.ne y.tr M (by omega) (by decide) (by decide) (by decide)) (dyP (N:=9) y M (by omega) (by decide) (by decide) (by decide)) (fun g hg=>exI (N:=9) y M (by omega) (by decide) (by decide) hg);have V:Hid (∀B g Q l,pO B (aS ns) (bB (aS ns)) g->QuoOf (aS ns) g Q->Sqf B Q g l->l.length=es.length∧l.length<=9∧∀(j:Nat) (f:List Int),l[j]? =some f->Sy f∧aN f∧f≠[]∧∀c,StT 9000000000 f (aS (bB f)) c->fF f c i x 1 0=N j):=fun B g Q l J h2 h3=>by
   obtain⟨hm,K⟩:=r.same B g Q l J h2 h3;have ax:=congrArg List.length hm;rw[cH,cH] at ax;have hd:=fun f h=>PX y M (show(aS ns).length<=9 by omega) (K f h).1;have h7:l.length<=9:=by
    have:=r.cnt;omega
   refine⟨ax,h7,fun j f hj=> ?_⟩;have ay:=dG hj;obtain⟨d,k⟩:=K f ay;have t:∃e,es[j]? =some e∧cE f=cE e:=by
    have m:=congrArg (fun L=>L[j]?) hm;simp only[iK,hj,bzX] at m;cases t:es[j]? with
    |none=>rw[t] at m;cases m
    |some e=>rw[t] at m;injection m with m;exact⟨e,rfl,m⟩
   obtain⟨e,t,a4⟩:=t;exact⟨hd f ay,d.tr,d.ne,fun c hc=>r.num j e f c t d k a4 hc⟩
  have an:(cf ns (ns.length-1)).sign=aP ns 1 0:=(zF 1 (by decide)).symm;rw[an] at aj;unfold dW at ai;unfold eO at af;unfold U5 at ak;clear y M r lp an Z tn o;generalize aP ns 1 0=S1 at *;generalize aP ns i x=S2 at *;obtain⟨W,I,a,X⟩:=bI w [.bool S,.slice C P G,.bool T,.slice D R H,.int .i64 i] 107;have s:=X.g5;go_enter func68,ntmps68;go_wp2_with fail;(try rw[I]);clear I;refine(ai _ (hv.be a)).mono ?_;rintro e1 w1 ⟨v1,rfl,J,ap⟩;obtain⟨s3,A3,k3,c3,rfl⟩:=J.form;replace X:=X.be ap;replace a:=aC a ap;go_wp2_with fail;refine(aj _ _ J).mono ?_;rintro e2 w2 ⟨rfl,aq⟩;replace X:=X.be aq;replace a:=aC a aq;replace s:=X.k5;clear ai aj J;by_cases z1:S1<0
  ·have E:Hid (¬kI ns es.length N i x):=fun h=>by have:=(p.out.1 h).1;omega
   clear p V;go_wp2;go_ret;exact⟨false,rfl,⟨fun h=>(by cases h),fun h=>absurd h E.out⟩,a⟩
  ·have O:EndAt w2 (.agg #[.bool S,.slice C P G,.bool T,.slice D R H,.int .i64 i]) i x:=hx.be a;go_wp2_with fail;refine(af _ _ O (hv.be a)).mono ?_;rintro e3 w3 ⟨rfl,ar⟩;replace X:=X.be ar;replace a:=aC a ar;replace s:=X.k5;clear af O;by_cases z2:S2<0
   ·have E:Hid (¬kI ns es.length N i x):=fun h=>by have:=(p.out.1 h).2.1;omega
    clear p V;go_wp2;go_ret;exact⟨false,rfl,⟨fun h=>(by cases h),fun h=>absurd h E.out⟩,a⟩
   ·have am:Hid (kI ns es.length N i x↔∀j,j<es.length->j%2=0->N j<=0):=⟨fun h=>(p.out.1 h).2.2,fun h=>p.out.2 ⟨by omega,by omega,h⟩⟩;clear p;go_wp2_with fail;refine(ak _ (Y.be a) (hv.be a)).mono ?_;rintro e4 w4 ⟨v4,g,Q,l,rfl,m,av,hQ,ao,au⟩;obtain⟨A4,c4,rfl,a6⟩:=m.form;obtain⟨ll,l7,K⟩:=V.out _ g Q l av hQ ao;have a0:=aB K;have al:=aB ll;replace X:=X.be au;replace a:=aC a au;replace s:=X.k5;clear ak av hQ ao V K ll;go_wp2_with fail;go_loopg [23] l.length (fun k vi wr=>∃j:Nat,Hid (j+k=l.length)∧vi= .int .i64 j∧WsAt wr w3.1.size 64 (.slice A4 l.length c4) l∧Bx wr w.1.size [.bool S,.slice C P G,.bool T,.slice D R H,.int .i64 i] 107∧Hid (∀q,q<j->q%2=0->N q<=0)∧Below w.1.size w wr)
    case atStart=>exact⟨0,by unfold Hid;omega,rfl,m,X,fun q hq=>by omega,a⟩
    case round=>
     clear m X a;obtain⟨j,U,rfl,m,X,F,a⟩:=hrel;generalize wr=wy at *;have a8:(0:Int)<=(j:Int):=by omega
     have s:=X.k5;cases gk with
     |zero=>
      have hj:j=l.length:=U.out;subst hj;go_wp2;go_ret;exact⟨true,rfl,⟨fun _=>am.out.2 (fun q hq hp=>F.out q (by have:=al.out;omega) hp),fun _=>rfl⟩,a⟩
     |succ k=>
      have a3:j<l.length:=by have:=U.out;omega
      have a9:(j:Int)<(l.length:Int):=by omega
      obtain⟨f,ag⟩:∃f,l[j]? =some f:=⟨_,aR a3⟩;obtain⟨b,u,rfl,a5,hu,ah⟩:=m.at_ ag;obtain⟨Au,cu,rfl,a7⟩:=ah.form;obtain⟨hz,tf,f0,hn⟩:=a0.out j f ag;have a1:=aB hn;clear hn ag;by_cases hp:j%2=0
      ·have r0:(j:Int).tmod 2=0:=by rw[bz3 (by omega)];omega
       have O:EndAt wy (.agg #[.bool S,.slice C P G,.bool T,.slice D R H,.int .i64 i]) i x:=hx.be a;have aw:EndAt wy (.agg #[.bool false,.slice none 0 0,.bool false,.slice none 0 0,.int .i64 1]) 1 0:=⟨_,_,_,_,_,_,_,_,rfl,BW wy⟩;have ae:=dxP f i 1 x 0 (.slice Au f.length cu) _ _ wy (Y.be a) ah tf f0 hz O aw (by omega) (by decide) (bU kx (by decide)) (iG (by decide));unfold BA at ae;go_wp2_with fail;refine ae.mono ?_;rintro e5 w5 ⟨n,rfl,n1,n2, -,hN,ad⟩;have az:n=N j:=by
        obtain⟨c',a2,rfl⟩:=hN (by unfold jO;rw[if_pos (.inl (by omega))];exact decide_eq_true (by omega));exact a1.out c' a2
       have HE:=aB az;replace X:=X.be ad;replace m:=m.be ad;replace a:=aC a ad;replace s:=X.k5;clear ae hN az O aw hu ah;by_cases ba:0<n
       ·have E:Hid (¬kI ns es.length N i x):=fun h=>by
         have:=am.out.1 h j (by have:=al.out;omega) hp;have:=HE.out;omega
        go_wp2;go_ret;exact⟨false,rfl,⟨fun h=>(by cases h),fun h=>absurd h E.out⟩,a⟩
       ·go_wp2;go_roundg k
        case rel=>exact⟨j+1,by have:=U.out;unfold Hid;omega,by go_num,m,X,fun q hq ac=>by
         have:=HE.out;rcases dE q j with z|z
         ·exact F.out q z ac
         ·obtain rfl:q=j:=by omega
          omega,a⟩
        case measure=>omega
      ·have r0:(j:Int).tmod 2=1:=by rw[bz3 (by omega)];omega
       go_wp2;go_roundg k
       case rel=>exact⟨j+1,by have:=U.out;unfold Hid;omega,by go_num,m,X,fun q hq ac=>by
        rcases dE q j with z|z
        ·exact F.out q z ac
        ·exact absurd (by rw[show j=q by omega];exact ac) hp,a⟩
       case measure=>omega
def dyT(Q:List Rat)(D x:Rat):aI (Q.map (·*D)) x=aI Q x*D:=by
 induction Q with
 |nil=>show(0:Rat)=0*D;rw[aqQ]
 |cons a Q b=>
  show aI (Q.map (·*D)) x*x+a*D=(aI Q x*x+a)*D
  rw[b];grind
def dyU(c:∀q∈Q,(q.den:Int)∣D):(cC Q D).map (fun n:Int=>(n:Rat))=Q.map (·*(D:Rat)):=by
 refine aq6 (fun i=> ?_);have h:=JC Q D c i;by_cases a:i<Q.length
 ·have b:i<(cC Q D).length:=by rw[oN];exact a
  rw[fZ b,fZ a] at h;rw[iK,iK,aR b,aR a,bzX,bzX,h]
 ·rw[fU (by rw[cH,oN];omega),fU (by rw[cH];omega)]
def exO(m:0<D)(j:∀q∈Q,(q.den:Int)∣D)(x:Rat)(i:Q.length=M+1):(fE (cC Q D) x.num x.den:Rat)/((D*(x.den:Int)^M:Int):Rat)=aI Q x:=by
 have a:(x.den:Int)≠0:=by have:=x.den_nz;omega
 have h:=WR (cC Q D) x.num x.den a;rw[WQ,oN,i,dyU j,dyT,gR] at h;have l:((x.num:Int):Rat)/((x.den:Int):Rat)=x:=by rw[aq3,<-oU]
 rw[l] at h;have c:(((x.den:Int):Rat))≠0:=fun e=>a (Rat.intCast_inj.1 e);have g:(D:Rat)≠0:=fun e=>by have:=Rat.intCast_inj.1 (e.trans (show(0:Rat)=((0:Int):Rat) from rfl));omega
 have k:(((x.den:Int)^M:Int):Rat)≠0:=fun e=>Int.pow_ne_zero a (Rat.intCast_inj.1 e);rw[eJ] at h⊢;generalize (((x.den:Int)^M:Int):Rat)=p at *;generalize ((x.den:Int):Rat)=b at *;generalize (fE (cC Q D) x.num x.den:Rat)=v at *;generalize aI Q x=s at *;have d:v=p*(s*D):=by
  have:v*b*b⁻¹=p*b*(s*D)*b⁻¹:=by rw[h]
  rw[azC,Rat.mul_inv_cancel _ c,aqP] at this;rw[this,show p*b*(s*D)*b⁻¹=p*(s*D)*(b*b⁻¹) by grind,Rat.mul_inv_cancel _ c,aqP]
 have f:(D:Rat)*p≠0:=fun e=>(Rat.mul_eq_zero.1 e).elim g k;rw[d,show p*(s*D)=s*(D*p) by grind,azE,azC,Rat.mul_inv_cancel _ f,aqP]
def WholeAt.blk_lt{c:Nat}(h:WholeAt w (.slice A l c) ns)(f:ns≠[]):∀b,A=some ⟨b,0,none⟩->b<w.1.size:=fun b e=>by
 obtain⟨i,c',d,_,h⟩:=h;simp only[Value.slice.injEq] at d;obtain⟨rfl,_,rfl⟩:=d;obtain⟨j,rows,a,g,_⟩:=h.resolve_left f;rw[e] at a;simp at a;subst a;exact g.lt
def exP{g:Nat}{c d:Value}(h:Keep w W)(e:(w.setCell ⟨g,0,none⟩ c).setCell ⟨g,1,none⟩ d=W):kR g w W:=by
 subst e;exact⟨h,fun b a=>by rw[Below.heap_setCell _ ⟨g,1,none⟩ _ b a,Below.heap_setCell _ ⟨g,0,none⟩ _ b a],by simp,rfl,rfl,rfl⟩
def exQ(d:List (List UInt8))(x:List UInt8)(v:Value)(w:World)(i:Glob w)(hv:StrsAt w v d)(hl:d.length<=1024)(a5:∀l∈d,l.length<=1073741824)(hx:x.length<=1073741824)(K:Nat)(hK:∀q∈aU d,RL K q)(J:RL K ((cL x).getD 0))(bf:K<=65536):
  Calls prog 12 #[v,.string ⟨x.toArray⟩] w (pQ w d x):=by
 obtain⟨A,c,rfl,hc⟩:=hv.form;have U:=VS d;go_enter func12,ntmps12;go_wp2_with fail;refine(T1 d _ _ i hv (by omega) (fun _=>a5) K (1+65*K) (fun _=>hK) aE (by unfold aJ;omega)).mono ?_;rintro e1 w1 ⟨v1,bk,xs,D,rfl,m,S,af,ai⟩;obtain⟨A1,c1,rfl,bi⟩:=m.form;obtain⟨s1,B1,k1,d1,rfl⟩:=S.form;have ag:=fun B=>m.blk_lt B;obtain⟨w2,e2,aj,X⟩:=bI w1 [.bool s1,.slice B1 k1 d1] 60;have f:=aC ai aj;go_wp2_with fail;(try rw[e2]);clear e2;refine(wU x _ (i.be f) hx).mono ?_;rintro e3 w3 ⟨v3,rfl,g,C⟩;obtain⟨L,o,H,t,N,p,I,z,rfl⟩:=g.form;have ad:(cL x).isSome=rd x:=rfl;rw[ad];obtain⟨w4,Z,j,P⟩:=bI w3 [.bool L,.slice o H t,.bool N,.slice p I z] 76;have bb:w1.1.size<w3.1.size:=aZ X.lt C.size;replace X:=(X.be C).be j;replace m:=((m.be aj).be C).be j;replace S:=((S.be aj).be C).be j;replace g:=g.be j;replace f:=(aC f C).trans (j.mono (aC f C).size);have cM:=aa X.g2 P.k4;have a3:w.1.size<=w1.1.size:=ai.size;generalize w1.1.size=gx at *;cases ha:vl d with
 |false=>
  have r:Hid (¬(vl d=true∧rd x=true)):=by unfold Hid;rw[ha];simp
  clear ha ad;clear af;go_wp2;go_ret2;unfold pQ;rw[if_neg r.out];(try clear Z);exact⟨rfl,by first|exact f|exact j⟩
 |true=>
  cases hr:rd x with
  |false=>
   have r:Hid (¬(vl d=true∧rd x=true)):=by unfold Hid;rw[hr];simp
   clear ha hr ad;clear af;go_wp2;go_ret2;unfold pQ;rw[if_neg r.out];(try clear Z);exact⟨rfl,by first|exact f|exact j⟩
  |true=>
   have r:Hid (vl d=true∧rd x=true):=⟨ha,hr⟩;obtain⟨rfl,G⟩:=af ha;have lx:=oN (aU d) D;clear af hr ad;by_cases B:d.length=0
   ·have HZ:Hid (cW (aI (aU d) ((cL x).getD 0))=[48]):=by
     have:d=[]:=bX B;unfold Hid;rw[this];exact dxV
    have q0:(((cC (aU d) D).length:Int)==0)=true:=by rw[lx,U,B];rfl
    clear ha B lx G U;go_wp2;go_ret2;unfold pQ;rw[if_pos r.out,HZ.out];exact⟨rfl,f⟩
   ·obtain⟨M,hM⟩:∃M,d.length=M+1:=⟨d.length-1,by omega⟩;have ah:(cC (aU d) D).length=M+1:=by rw[lx,U,hM]
    have q0:(((cC (aU d) D).length:Int)==0)=false:=by rw[beq_eq_false_iff_ne];omega
    have bh:((cC (aU d) D).length:Int)-1=(M:Int):=by omega
    have bx:=sA _ D K _ hK G.nl_;have bD:=G.nl_;have ax:=exO G.pos G.dvd ((cL x).getD 0) (show(aU d).length=M+1 by rw[U,hM]);have bc:=(pJ ha).1;have bg:M<=64:=by omega
    have ao:=CJ hK J;rw[U] at ao;have a4:d.length*(2*K+1)<=1024*(2*K+1):=dK _ hl;have a6:M*K<=64*K:=dK _ (by omega);have kd:nl ((((cL x).getD 0).den:Int)).natAbs<=K:=J.2;have an:=fun W h=>pD ((cL x).getD 0) (.agg #[.bool L,.slice o H t,.bool N,.slice p I z]) W h (aH J.2 (by omega));have az:=fun W=>JO (cC (aU d) D).length c1 A1 W (by omega)
    have ar:=fun W v h=>dzP (((cL x).getD 0).den:Int) M v W h (by unfold BN;omega) (by
     have:M*nl ((((cL x).getD 0).den:Int)).natAbs<=M*K:=eV _ kd;unfold aJ;omega)
    have aw:nl ((((cL x).getD 0).den:Int)^M).natAbs<=64*K+1:=by
     rw[Int.natAbs_pow];refine aH (RW _ _) ?_;have:M*nl ((((cL x).getD 0).den:Int)).natAbs<=M*K:=eV _ kd;omega
    have a0:=gT D ((((cL x).getD 0).den:Int)^M) _ _ bD aw;have aq:=fun W u h R=>jB D ((((cL x).getD 0).den:Int)^M) (.agg #[.bool s1,.slice B1 k1 d1]) u W h R (by omega);have ay:=fun W h R=>CB (cC (aU d) D) ((cL x).getD 0) (.slice A1 (cC (aU d) D).length c1) (.agg #[.bool L,.slice o H t,.bool N,.slice p I z]) W h R (K+(1+65*K)) bx (bU J (by omega)) (by omega) (by omega);have au:=xK (ns:=cC (aU d) D) (a:=((cL x).getD 0).num) (b:=((cL x).getD 0).den) (T:=BN^(K+(1+65*K))) (fun n h=>mS (bx n h)) (mS (aH J.1 (by omega))) (mS (aH kd (by omega)));have av:nl (fE (cC (aU d) D) ((cL x).getD 0).num ((cL x).getD 0).den).natAbs<=(K+(1+65*K))*65+1:=by
     refine cJ (jI au.1 (aZ (xL (by omega)).1 (cO (by decide) ?_)));have:=eV (K+(1+65*K)) (show(cC (aU d) D).length<=65 by omega);omega
    have ac:=fun W u v i h R=>I3 (fE (cC (aU d) D) ((cL x).getD 0).num ((cL x).getD 0).den) (D*(((cL x).getD 0).den:Int)^M) u v W i h R ((K+(1+65*K))*65+1) av (by omega) (by unfold aJ;omega);rw[ax] at ac;have ae:=fun W v i h=>I4 (aI (aU d) ((cL x).getD 0)) v W i h _ ao (by omega);replace ag:=ag (fun e=>by rw[e] at ah;cases ah);obtain⟨T,hT⟩:∃T,aI (aU d) ((cL x).getD 0)=T:=⟨_,rfl⟩;rw[hT] at ac ae;have HT:=aB hT;unfold dW at an ar aq ay;unfold iF at ac;clear au av a0 aw bx bD ao a4 a6 kd hT ax G B lx ah ha J hK hM;generalize hy:(cL x).getD 0=y at *;have HY:=aB hy;clear hy;generalize fE (cC (aU d) D) y.num y.den=V at *;generalize D*(y.den:Int)^M=E at *;generalize (y.den:Int)^M=F at *;generalize (y.den:Int)=yd at *;generalize cC (aU d) D=ns at *;go_upto_region 7 with fail;(try rw[Z]);clear Z j;generalize w3.1.size=gp at *;go_cut [] (fun O=>∃s A k c,Bx O gx [.bool s,.slice A k c] 60∧IntAt O (.agg #[.bool s,.slice A k c]) E∧Bx O gp [.bool L,.slice o H t,.bool N,.slice p I z] 76∧WholeAt O (.slice A1 ns.length c1) ns∧RatAt O (.agg #[.bool L,.slice o H t,.bool N,.slice p I z]) y∧Below w.1.size w O)
    case first=>
     have bj:IntKind.u64.wrap (M:Int)=(M:Int):=by
      rw[show IntKind.u64.wrap (M:Int)=(M:Int)%18446744073709551616 by simp[IntKind.wrap,IntKind.bits,IntKind.signed]];omega
     go_wp2_with fail
     go_region_with (first
      |(go_at_call 54;refine(an _ g.up).mono ?_;rintro e5 w5 ⟨v5,rfl,h5,a1⟩;obtain⟨s5,A5,k5,c5,rfl⟩:=h5.form;have:=St.mk a1;have a8:=(X.up (b:=w5)).k2;have a7:=(P.up (b:=w5)).k4)
      |(go_at_call 56;refine(az _).mono ?_;rintro Q w6 ⟨rfl,rfl⟩)
      |(go_at_call 55;refine(ar _ _ h5.up).mono ?_;rintro e7 w7 ⟨v7,rfl,h7,al⟩;obtain⟨s7,A7,k7,c7,rfl⟩:=h7.form;have:=St.mk al;have a9:=(X.up (b:=w7)).k2)
      |(go_at_call 34;refine(aq _ _ S.up h7.up).mono ?_;rintro e8 Y ⟨v8,rfl,h8,am⟩;obtain⟨s8,A8,k8,c8,rfl⟩:=h8.form;have:=St.mk am;have X8:=X.up (b:=Y);have P8:=P.up (b:=Y);have ba:=X8.g2;have a2:=bJ (b:=Y) f))
     all_goals (
      go_wp2_with fail;obtain⟨W6,Q,X6,ak,ap,ff⟩:=X8.put2 a2 a3 (.bool s8) (.slice A8 k8 c8) rfl rfl;have ae:=exP ap Q;rw[Q];clear Q;go_meet;exact⟨_,_,_,_,X6,h8.ke ap,ff P8 (by omega),m.up.step ae (fun b e=>bxQ (ag b e)),g.up.ke ap,ak⟩)
    case rest=>
     clear X P cM g S f m an az ar aq;obtain⟨s5,A5,k5,c5,X,hE,P,m,g,f⟩:=hcut;go_wp2_with fail
     go_region_held3 (fun w'=>C2 w' gx (.bool s5) (.slice A5 k5 c5)∧C4 w' gp (.bool L) (.slice o H t) (.bool N) (.slice p I z)) (with_reducible exact⟨X.up.k2,P.up.k4⟩)
      (first
       |(go_at_call 49;refine(ay _ m.up g.up).mono ?_;rintro Q w6 ⟨v6,rfl,h6,ak⟩;have:=St.mk ak)
       |(go_at_call 39;refine(ac _ _ _ (i.be (bJ f)) h6.up hE.up).mono ?_;rintro e7 w7 ⟨v7,rfl,h7,al⟩;have:=St.mk al)
       |(go_at_call 51;refine(ae _ _ (i.be (bJ f)) h7.up).mono ?_;rintro e8 Y ⟨rfl,am⟩;have:=St.mk am))
     all_goals (
      go_wp2;go_ret2;unfold pQ;rw[if_pos r.out,HY.out,HT.out];exact⟨rfl,bJ (b:=Y) f⟩)
section
variable {A:List Rat}{D:Int}{K:Nat}(hD:ComDen A D K)(tA:aN A)
def JJ(a:A≠[]):cC A D≠[]:=fun e=>a ((kS _ D).1 e)
include hD
def KA(x:Rat):aX (cC A D) x=aI A x*D:=by
 rw[uQ,<-dyT,<-dyU hD.dvd];exact oT (fun i=>by rw[dS,azF,mG (fun n:Int=>(n:Rat)) aq4]) x
def KW:(0:Rat)<(D:Rat):=by exact_mod_cast hD.pos
def exK(a:aI A x<0)(n:Nat)(N:Nat->Int):¬kI (cC A D) n N 0 x:=by
 have b:A≠[]:=fun e=>by rw[e] at a;exact absurd (show(0:Rat)<0 from a) (by decide)
 rintro (h|⟨-,h, -⟩)
 ·exact JJ b h
 ·have:=(lR (cC A D) x).2.2.2 (by
   rw[KA hD];have:=azA (show 0< -aI A x by grind) (KW hD);grind)
  omega
include tA
def dyR(i:A≠[]):∃k:Rat,0<k∧∀x,aX (aS (cC A D)) x=k*aI A x:=by
 have tn:=oO hD.pos hD.dvd tA;have c:0<(bC (cC A D):Int):=by have:=nI tn (JJ i);omega
 have d:(0:Rat)<((bC (cC A D):Int):Rat):=by exact_mod_cast c
 have b:=KW hD;have f:(D:Rat)/((bC (cC A D):Int):Rat)*((bC (cC A D):Int):Rat)=D:=gW (by grind);refine⟨(D:Rat)/((bC (cC A D):Int):Rat),?_,fun x=> ?_⟩
 ·rw[azE];exact azA b (Rat.inv_pos.2 d)
 ·have e:=pR (cC A D) x;rw[KA hD] at e;generalize (D:Rat)/((bC (cC A D):Int):Rat)=k at *;generalize ((bC (cC A D):Int):Rat)=g at *;have a:g*(aX (aS (cC A D)) x-k*aI A x)=0:=by rw[<-f] at e;grind
  rcases Rat.mul_eq_zero.1 a with h|h<;>grind
def dyS(d:A≠[])(hi:i=1∨i= -1)(b:∀x,0<=aI A x):0<=aP (cC A D) i 0:=by
 have a:=JJ (D:=D) d;have tn:=oO hD.pos hD.dvd tA;have h:∃X:Rat,aP (cC A D) 0 X=aP (cC A D) i 0:=by
  rcases hi with rfl|rfl
  ·obtain⟨X,h⟩:=dyC a tn;exact⟨X,h X byB⟩
  ·obtain⟨X,h⟩:=dy2 a tn;exact⟨X,h X byB⟩
 obtain⟨X,h⟩:=h;rw[<-h];rcases qX (cC A D) 0 X with k|k|k
 ·omega
 ·omega
 ·exfalso;have c:=(lR (cC A D) X).2.2.1 k;rw[KA hD] at c;have:=cA (b X) (show 0<=(D:Rat) by have:=KW hD;grind);grind
def exL(u:A≠[]->∃x,aI p x≠0)(l:∀x,aI A x=aI p x*aI p x){N:Nat->Int}(hF:(aS (cC A D)).length=1∧es=[]∨∃a g,RfO B (aS (cC A D)) a g es)(h:NyA (aS (cC A D)) es (-1) 0 N):kI (cC A D) es.length N (-1) 0:=by
 by_cases b:A=[]
 ·exact .inl ((kS _ D).2 b)
 ·have m:∀x,0<=aI A x:=fun x=>by
   rw[l];rcases iY (aI p x) with k|k|k
   ·have:=azA (show 0< -aI p x by grind) (show 0< -aI p x by grind);grind
   ·rw[k,dU];exact byB
   ·have:=azA k k;grind
  refine .inr ⟨dyS hD tA b (.inl rfl) m,dyS hD tA b (.inr rfl) m,fun j f o=> ?_⟩;obtain⟨k,w,s⟩:=dyR hD tA b;have c:es[j]? =some es[j]:=aR f;have r:=aq0 f;obtain⟨d,t⟩:=h.fac.pp _ r;rcases hF with ⟨-,n⟩|⟨a,g,q⟩
  ·rw[n] at f;simp at f
  ·have v:=dqF q (fun e c=>(h.fac.pp e c).1.pp) (u b) (show k≠0 by grind) (fun x=>by rw[s,l]) j _ c o;have i:StT 9000000000 es[j] (aS (bB es[j])) []:=by
    rw[show aS (bB es[j])=[] from bX (by rw[dF,lZ];omega)];exact .done _
   rw[<-h.num j _ _ [] c d t rfl i,VX (by omega) d.ne d.tr i];exact aq5 _
def exM(m:Glob W)(r:aI A x<0){N:Nat->Int}(o:∀n∈aS (cC A D),nl n.natAbs<=23000)(I:A.length<=9)(b:NyA (aS (cC A D)) es (-1) 0 N):¬kI (cC A D) es.length N (-1) 0:=by
 have t:A≠[]:=fun e=>by rw[e] at r;exact absurd (show(0:Rat)<0 from r) (by decide)
 have i:=JJ (D:=D) t;have tn:=oO hD.pos hD.dvd tA;obtain⟨f,L, -⟩:=H6 hD tA t
 have k:aP (cC A D) 0 x= -1:=(lR (cC A D) x).2.2.2 (by
  rw[KA hD];have:=azA (show 0< -aI A x by grind) (KW hD);grind)
 rintro (h|⟨h1, -,h3⟩)
 ·exact i h
 ·have l:=ex1 tn i h1;obtain⟨κ,G⟩:=b.fac.pw;rw[<-ex0 tn i] at k l;obtain⟨j,e,a,F,H,u⟩:=ex7 f.ne f.tr (fun e a=>⟨(b.fac.pp e a).1.ne,(b.fac.pp e a).1.tr⟩) G l k;obtain⟨d,s⟩:=b.fac.pp e (dG a);have g:=PX f o (by omega) d;obtain⟨w,v,C,hv⟩:=V1 W e;obtain⟨_,_,_,c, -, -,p, -⟩:=dy9 (dxO e v w (m.be C) hv d.tr d.ne g);have E:1<e.length:=by
   rcases dE 1 e.length with q|q
   ·exact q
   ·exfalso;have J:=List.length_pos_iff.2 d.ne;obtain⟨y,rfl⟩:=List.length_eq_one_iff.1 (show e.length=1 by omega);refine u ?_;rw[zF 1 (by decide),<-yI];have z:aX [y] x=y:=by show(0:Rat)*x+1*(y:Rat)=y;grind
    unfold sF;rw[z,xJ];rfl
  obtain⟨hn, -⟩:=Q0 m f o (by omega) d s E p;have B:=dqC hn d.tr (fun n hn=>aH (g.2 n hn) (by decide)) (fun n hn=>aH (gU (pL g.2 (by have:=g.1;omega)) n hn) (by decide)) x H u;rw[b.num j e e c a d s rfl p] at B;have:=h3 j (List.getElem?_eq_some_iff.1 a).1 F;omega
def exN(q:0<d)(h:∀x,d<=aI A x)(f:Sqp 9000000000 (aS (cC A D)) s)(a:Sy s)(p:StT 9000000000 s (aS (bB s)) c):fF s c (-1) 0 1 0=0:=by
 have j:A≠[]:=fun e=>by
  have:=h 0;rw[e] at this;exact absurd (show d<=0 from this) (by grind)
 obtain⟨u, -, -⟩:=H6 hD tA j;obtain⟨k,t,v⟩:=dyR hD tA j;obtain⟨g, -, -, -, -, -,r⟩:=f.out;refine dqB ⟨f,p⟩ u.tr (fun n hn=>aH (a.2 n hn) (by decide)) (fun n hn=>aH (gU (pL a.2 (by have:=a.1;omega)) n hn) (by decide)) (fun x y w=> ?_);have e:∀z,aX s z*aX g z=k*aI A z:=fun z=>by
  have:=sH (m:=1) (A:=aS (cC A D)) (Q:=s) (B:=g) (C:=[]) (fun i=>by rw[az5,r,eR];simp) z;rw[DS,v] at this;have o:((1:Int):Rat)=1:=rfl;rw[o] at this;grind
 refine dqH (l:=aT 1 s) (g:=aT 1 g) (d:=k*d) (azA t q) (fun z _ _=> .inl ?_) w;have b:=e z;rw[uQ,uQ] at b;rw[b];have:=cA (show 0<=k by grind) (show 0<=aI A z-d by have:=h z;grind);grind
end
def YZ(x:Int)(n:Nat)(v:Value)(w:World)(hv:IntAt w v x)(hn:n<18446744073709551616)(Q:nl x.natAbs+n/64+1<=17592186044416):Calls prog 41 #[v,.int .u64 n] w (dW w (x*2^n)):=by
 obtain⟨S,rfl,b⟩:=hv;obtain⟨k,m,rfl, -⟩:=id b;have t:(x*2^n).natAbs=x.natAbs*2^n:=by rw[fL,Int.natAbs_pow];rfl
 have A:x*2^n=if decide (x<0) then -((x.natAbs*2^n:Nat):Int) else ((x.natAbs*2^n:Nat):Int):=by
  have H:(0:Int)<2^n:=aqH (by decide);by_cases h:x<0
  ·have:=Int.mul_neg_of_neg_of_pos h H;simp only[h,decide_true,if_true];omega
  ·have:=gB (show 0<=x by omega) (show 0<=(2:Int)^n by omega);simp only[h,decide_false];simp only[Bool.false_eq_true,if_false];omega
 have E:nl (2^n)<=n/64+1:=cJ (by
  have e:BN^(n/64+1)=2^(64*(n/64+1)):=by rw[azL];rfl
  rw[e];exact by9 (by decide) (by omega))
 have G:=fI x.natAbs (2^n);have z:=fun W h=>tC x.natAbs n (.slice k (nl x.natAbs) m) W h hn (by unfold aJ;omega);have y:=fun W u h=>p7 (decide (x<0)) u (x.natAbs*2^n) (x*2^n) W h (by omega) A;have C:=aB t;obtain⟨f,q⟩:∃f,Hid (decide (x*2^n<0)=f):=⟨_,rfl⟩;rw[q.out] at y;unfold jK at z;clear t A E G;generalize decide (x<0)=B at *;generalize x.natAbs*2^n=P at *;obtain⟨W,r,a,X,R⟩:=eL w [.bool B,.slice k (nl x.natAbs) m] 60 [.bool false,.slice none 0 0] 60;have g:=aa X.g2 R.g2;go_enter func41,ntmps41;go_wp2_with fail;(try rw[r]);clear r;replace b:=b.be a;replace b:=b.drew;replace X:=X.drew;replace R:=R.drew;replace a:=a.drew;replace g:=aa X.k2 R.g2;have I:w.1.size+1≠w.1.size:=by omega
 go_region_held3 (fun J=>C2 J w.1.size (.bool B) (.slice k (nl x.natAbs) m))
  (first|(with_reducible exact X.k2)|((repeat (first|with_reducible exact X.k2|with_reducible refine fQ I ?_))))
  (first
   |(go_at_call 92;refine(z _ b).mono ?_;rintro M U ⟨T,rfl,d,O,i⟩;obtain⟨l,o,rfl, -⟩:=id d;replace X:=X.be i;replace R:=R.be i;replace g:=aa X.k2 R.g2;replace c:=Keep.be i;replace b:=b.ke c;(try replace F:=F.ke c);replace a:=aC a i)
   |(go_at_call 81;refine(y _ _ d).mono ?_;rintro N K ⟨rfl,j⟩;replace X:=X.be j;replace R:=R.be j;replace g:=aa X.k2 R.g2;replace c:=Keep.be j;replace b:=b.ke c;(try replace d:=d.ke c);replace a:=aC a j))
 all_goals (
  have p:IntAt K (.agg #[.bool f,.slice l (nl P) o]) (x*2^n):=⟨_,by rw[q.out],by rw[C.out];exact d⟩;go_wp2_with fail;obtain⟨L,s,R,a,c,D⟩:=R.put2 a (by omega) (.bool f) (.slice l (nl P) o) rfl rfl;replace X:=D X (by omega);replace p:=p.ke c;rw[s];clear s;replace g:=aa X.k2 R.k2;exact aM (v:= .agg #[.bool f,.slice l (nl P) o]) (by simp[results,results41,go_sem,R.k2]) rfl ⟨_,rfl,p,a⟩
 )
end Go.Proofs.YtjgbleapffgbcaaGreatDoor
namespace Go.Proofs.YtjgbleapffgbcaaGreatDoor
open Sos
variable{K i:Nat}{l:List Int}
def jE(l:List Int):Int:=l.foldl (fun g c=>if g<(c.natAbs:Int) then (c.natAbs:Int) else g) 0
def iH(q:Rat):Rat:=if q.num.sign<0 then -q else q
def Y6(d:Rat)(l:List Rat):Rat:=l.foldl (fun b q=>if b<iH (q/d) then iH (q/d) else b) 0
def KG{α β:Type}(f:β->α->β)(b:β)(l:List α){a:α}(h:l[i]? =some a):(l.take (i+1)).foldl f b=f ((l.take i).foldl f b) a:=by
 rw[Q9,h,aqO,List.foldl_append];rfl
def KH{c:Int}(h:l[i]? =some c):jE (l.take (i+1))=if jE (l.take i)<(c.natAbs:Int) then (c.natAbs:Int) else jE (l.take i):=KG _ _ l h
def KJ(h:∀n∈l,nl n.natAbs<=K)(i:Nat):nl (jE (l.take i)).natAbs<=K:=by
 induction i with
 |zero=>show nl (0:Int).natAbs<=K;rw[Int.natAbs_zero,dO];omega
 |succ i b=>
  by_cases a:i<l.length
  ·rw[KH (aR a)];split
   ·rw[dD];exact h _ (aq0 a)
   ·exact b
  ·rw[cZ (by omega)];rwa [cZ (by omega)] at b
def Z1(n:Int):((n.natAbs:Int):Rat)=iH (n:Rat):=by
 unfold iH;rw[xJ];by_cases h:n<0
 ·rw[if_pos (by rw[aqT h];decide),show((n.natAbs:Int))= -n by omega,bx4]
 ·have:¬n.sign<0:=by rcases Int.lt_or_eq_of_le (Int.not_lt.1 h) with h|h
                     ·rw[aqI h];decide
                     ·rw[<-h];decide
  rw[if_neg this,show((n.natAbs:Int))=n by omega]
def KO(q:Rat):iH q=q∧0<=q∨iH q= -q∧q<0:=by
 unfold iH;rcases iY q with h|h|h
 ·rw[if_pos (by rw[(fS q).2 h];decide)];exact .inr ⟨rfl,h⟩
 ·rw[h];exact .inl ⟨by decide,by decide⟩
 ·rw[if_neg (by rw[(fS q).1 h];decide)];exact .inl ⟨rfl,by grind⟩
def KP{c:Rat}(a:0<c)(q:Rat):iH (c*q)=c*iH q:=by
 unfold iH;rw[tU a];split
 ·grind
 ·rfl
def Z2{L:Int}{D:Rat}(j:L≠0)(u:D≠0)(l:List Int):Y6 ((L:Rat)/D) (l.map (fun n:Int=>(n:Rat)/D))=((jE l:Int):Rat)/((L.natAbs:Int):Rat):=by
 have v:=gJ j;have t:0<((L.natAbs:Int):Rat):=by
  have:(0:Int)<(L.natAbs:Int):=by omega
  exact_mod_cast this
 have i:0<((L.natAbs:Int):Rat)⁻¹:=Rat.inv_pos.2 t;have e:∀n:Int,iH ((n:Rat)/D/((L:Rat)/D))=((n.natAbs:Int):Rat)/((L.natAbs:Int):Rat):=fun n=>by
  have d:(n:Rat)/D/((L:Rat)/D)=(n:Rat)/L:=by grind
  rw[d,Z1 n];rcases Int.lt_or_lt_of_ne j with h|h
  ·have a:((L.natAbs:Int):Rat)= -(L:Rat):=by rw[show(L.natAbs:Int)= -L by omega,bx4]
   have f:(n:Rat)/L=(((L.natAbs:Int):Rat)⁻¹)*(-(n:Rat)):=by rw[a];grind
   rw[f,KP i,azE,byD];congr 1;rcases KO (n:Rat) with ⟨m,o⟩|⟨m,o⟩<;>rcases KO (-(n:Rat)) with ⟨p,r⟩|⟨p,r⟩<;>grind
  ·have a:((L.natAbs:Int):Rat)=(L:Rat):=by rw[show(L.natAbs:Int)=L by omega]
   have f:(n:Rat)/L=(((L.natAbs:Int):Rat)⁻¹)*(n:Rat):=by rw[a];grind
   rw[f,KP i,azE,byD]
 unfold Y6 jE;suffices h:∀(l:List Int) (g:Int),(l.map (fun n:Int=>(n:Rat)/D)).foldl (fun b q=>if b<iH (q/((L:Rat)/D)) then iH (q/((L:Rat)/D)) else b) ((g:Rat)/((L.natAbs:Int):Rat))=((l.foldl (fun g c=>if g<(c.natAbs:Int) then (c.natAbs:Int) else g) g:Int):Rat)/((L.natAbs:Int):Rat) by
  have:=h l 0;have z:((0:Int):Rat)/((L.natAbs:Int):Rat)=0:=by rw[aq4,azE,aqQ]
  rwa [z] at this
 intro l;induction l with
 |nil=>intro g;rfl
 |cons n l k=>
  intro g;rw[fM,List.foldl_cons,List.foldl_cons,e];have d:((g:Rat)/((L.natAbs:Int):Rat)<((n.natAbs:Int):Rat)/((L.natAbs:Int):Rat))↔g<(n.natAbs:Int):=by
   rw[azE,azE];constructor
   ·intro h;have:(g:Rat)<((n.natAbs:Int):Rat):=by
     by_cases a:(g:Rat)<((n.natAbs:Int):Rat)
     ·exact a
     ·have f:((n.natAbs:Int):Rat)*(((L.natAbs:Int):Rat))⁻¹<=(g:Rat)*(((L.natAbs:Int):Rat))⁻¹:=Rat.mul_le_mul_of_nonneg_right (by grind) (az6 i);grind
    exact_mod_cast this
   ·intro h;have a:(g:Rat)<((n.natAbs:Int):Rat):=by exact_mod_cast h
    exact Rat.mul_lt_mul_of_pos_right a i
  by_cases h:g<(n.natAbs:Int)
  ·rw[if_pos (d.2 h),if_pos h];exact k _
  ·rw[if_neg (fun s=>h (d.1 s)),if_neg h];exact k _
