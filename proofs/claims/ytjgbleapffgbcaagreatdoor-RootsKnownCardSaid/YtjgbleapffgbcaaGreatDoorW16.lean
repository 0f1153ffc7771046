/- Laws. -/
import Derived.Test.YtjgbleapffgbcaaGreatDoorW15
set_option linter.all false
set_option maxHeartbeats 8000000
set_option maxRecDepth 99999
namespace Go.Proofs.YtjgbleapffgbcaaGreatDoor
open Sos Lib
variable{K a b i:Nat}{q x y:Rat}{l p:List Rat}
def WN(m n:Nat):nl (m+n)<=max (nl m) (nl n)+1:=by
 have a:=cyD m;have b:=cyD n;refine cJ ?_;have c:BN^nl m<=BN^max (nl m) (nl n):=cO (by decide) (Nat.le_max_left _ _);have d:BN^nl n<=BN^max (nl m) (nl n):=cO (by decide) (Nat.le_max_right _ _);rw[dH];have e:2*BN^max (nl m) (nl n)<=BN^max (nl m) (nl n)*BN:=by rw[dN];exact eV _ (by decide)
 omega
def pM{n d:Int}(hn:nl n.natAbs<=K)(b:nl d.natAbs<=K)(a:1<=K):RL K ((n:Rat)/d):=CA n d K hn b a
def xR(h:RL K q):1<=K:=by
 have b:=h.2;rcases iB K with a|a
 ·subst a;have:=cyD q.den;rw[show nl q.den=0 by omega] at this;have:=q.den_pos;simp at *;omega
 ·exact a
def o6(c:RL a x)(d:RL b y):RL (a+b) (x*y):=by
 rw[<-yV];refine pM ?_ ?_ (by have:=xR c;omega)
 ·rw[fL];exact aH (fI _ _) (by5 c.1 d.1)
 ·rw[fL];exact aH (fI _ _) (by5 c.2 d.2)
def CI(c:RL a x)(d:RL b y):RL (a+b+1) (x+y):=by
 rw[<-EB];refine pM ?_ ?_ (by omega)
 ·refine aH (cK (bz2 _ _)) (aH (WN _ _) ?_);have g:=fI x.num.natAbs y.den;have h:=fI y.num.natAbs x.den;have e:(x.num*y.den).natAbs=x.num.natAbs*y.den:=by rw[fL,dD]
  have f:(y.num*x.den).natAbs=y.num.natAbs*x.den:=by rw[fL,dD]
  rw[e,f];have:=c.1;have:=c.2;have:=d.1;have:=d.2;omega
 ·rw[fL];exact aH (fI _ _) (by have:=c.2;have:=d.2;simp only[dD];omega)
def JM(c:RL a x)(d:RL b y):RL (a+b+1) (x-y):=by
 rw[Rat.sub_eq_add_neg];exact CI c (C7 d)
def xS(c:RL a x)(e:RL b y):RL (a+b) (x/y):=by
 by_cases d:y=0
 ·rw[d,azE,Rat.inv_zero,dU];exact iG (by have:=xR c;omega)
 ·rw[<-ED x y d];refine pM ?_ ?_ (by have:=xR c;omega)
  ·rw[fL];exact aH (fI _ _) (by5 c.1 e.2)
  ·rw[fL];exact aH (fI _ _) (by5 c.2 e.1)
def lV(h:∀q∈l,RL K q)(b:RL K 0)(i:Nat):RL K (cf l i):=by
 by_cases a:i<l.length
 ·rw[fZ a];exact h _ (aq0 a)
 ·rw[bV (by omega)];exact b
def aI(p:List Rat)(x:Rat):Rat:=p.foldr (fun a s=>s*x+a) 0
def CJ(b:∀q∈p,RL K q)(f:RL K x):RL (1+p.length*(2*K+1)) (aI p x):=by
 induction p with
 |nil=>exact iG (by omega)
 |cons a p g=>
  have c:=g (fun q e=>b q (j8 _ e));have d:=CI (o6 c f) (b a (iC ..));refine bU d ?_;rw[eG,aq2 p.length];generalize p.length*(2*K+1)=z;omega
def fE(ns:List Int)(a b:Int):Int:=(ns.foldr (fun c v=>(v.1*a+c*v.2,v.2*b)) ((0:Int),(1:Int))).1
def iZ(ns:List Int)(a b:Int):Int:=(ns.foldr (fun c v=>(v.1*a+c*v.2,v.2*b)) ((0:Int),(1:Int))).2
def WP{ns:List Int}{n:Int}(a b:Int)(h:ns[i]? =some n):fE (ns.drop i) a b=fE (ns.drop (i+1)) a b*a+n*iZ (ns.drop (i+1)) a b∧iZ (ns.drop i) a b=iZ (ns.drop (i+1)) a b*b:=by
 obtain⟨c,rfl⟩:=List.getElem?_eq_some_iff.1 h;rw[j5 c];exact⟨rfl,rfl⟩
def WQ(ns:List Int)(a b:Int):iZ ns a b=b^ns.length:=by
 induction ns with
 |nil=>simp[iZ]
 |cons c ns d=>show iZ ns a b*b=_;rw[d,eG,gR]
def WR(ns:List Int)(a b:Int)(i:b≠0):(fE ns a b:Rat)*b=iZ ns a b*aI (ns.map (fun n:Int=>(n:Rat))) (a/b):=by
 have j:(b:Rat)≠0:=by exact_mod_cast i
 induction ns with
 |nil=>show((0:Int):Rat)*b=((1:Int):Rat)*0;simp
 |cons c ns k=>
  have d:fE (c :: ns) a b=fE ns a b*a+c*iZ ns a b:=rfl;have e:iZ (c :: ns) a b=iZ ns a b*b:=rfl;have f:aI ((c :: ns).map (fun n:Int=>(n:Rat))) (a/b)=aI (ns.map (fun n:Int=>(n:Rat))) (a/b)*(a/b)+c:=rfl;rw[d,e,f];push_cast;generalize (fE ns a b:Rat)=v at *;generalize (iZ ns a b:Rat)=p at *;generalize aI (ns.map (fun n:Int=>(n:Rat))) (a/b)=s at *;have g:(v*a+c*p)*b=(v*b)*a+c*p*b:=by grind
  rw[g,k];have h:(a:Rat)=(a/b)*b:=by rw[gW j]
  generalize (a:Rat)/b=t at *;rw[h];grind
end Go.Proofs.YtjgbleapffgbcaaGreatDoor
namespace Go.Proofs.YtjgbleapffgbcaaGreatDoor
open Go.RowKit Sos
variable{ns:List Int}
structure DivRes(A B Q R:List Rat)(K:Nat):Prop where
 id_:∀i,conv (cf Q) (cf B) i+cf R i=cf A i
 q_trim:aN Q
 r_trim:aN R
 r_lt:R.length<B.length
 q_len:Q.length<=A.length
 bq:∀q∈Q,RL K q
 br:∀q∈R,RL K q
def VN{F:Int}(hF:F≠0)(h:aN ns):aN (tT ns F):=by
 intro a b e;unfold tT at b;rw[List.getLast?_map] at b;cases hq:ns.getLast? with
 |none=>rw[hq] at b;simp at b
 |some n=>
  rw[hq] at b;simp only[bzX,Option.some.injEq] at b;rw[e] at b;have c:(n:Rat)≠0:=fun e=>h n hq (Rat.intCast_inj.1 e);have d:(F:Rat)≠0:=fun e=>hF (Rat.intCast_inj.1 e);grind
def xM{E:Int}(d:E≠0)(h:aN ns):aN (ns.map (·*E)):=by
 intro a b e;rw[List.getLast?_map] at b;cases hq:ns.getLast? with
 |none=>rw[hq] at b;simp at b
 |some n=>
  rw[hq] at b;simp only[bzX,Option.some.injEq] at b;rw[e] at b;rcases Int.mul_eq_zero.1 b with c|c
  ·exact h n hq c
  ·exact d c
def xN(ns:List Int)(F:Int)(i:Nat):cf (tT ns F) i=((cf ns i:Int):Rat)/F:=mG (fun n:Int=>(n:Rat)/(F:Rat)) (F7 F) ns i
def CC(ns:List Int)(E:Int)(i:Nat):cf (ns.map (·*E)) i=cf ns i*E:=mG (·*E) (bxB E) ns i
def CY(a:List Rat)(k i:Nat):cf (a++List.replicate k 0) i=cf a i:=by
 by_cases h:i<a.length
 ·rw[fZ (l:=a) h,rD (a:=a[i])];rw[gA h,aR h]
 ·rw[bV (l:=a) (by omega)];by_cases b:i<a.length+k
  ·refine rD ?_;rw[fK (by omega),j6,if_pos (by omega)]
  ·exact bV (by rw[dA,dB];omega)
end Go.Proofs.YtjgbleapffgbcaaGreatDoor
namespace Go.Proofs.YtjgbleapffgbcaaGreatDoor
open Sos
variable{A B Q R a b l ys:List Rat}{L i n:Nat}
def gN(l:List Rat)(g:Nat->Rat)(i k:Nat):List Rat:=(List.range l.length).map (fun j=>if i<=j∧j<i+k then g j else cf l j)
def oR(e:a.length=b.length)(h:∀j,cf a j=cf b j):a=b:=bzO e (fun j c d=>by have:=h j;rwa [fZ c,fZ d] at this)
def CV{x:Rat}(h:i<l.length)(j:Nat):cf (l.set i x) j=if j=i then x else cf l j:=by
 by_cases e:j=i
 ·subst e;rw[if_pos rfl];exact rD (by rw[gP h])
 ·rw[if_neg e];unfold cf;rw[eE,eE,lI (fun h=>e h.symm)]
section
variable {l:List Rat}{g:Nat->Rat}{i k:Nat}
def sC(j:Nat):cf (gN l g i k) j=if i<=j∧j<i+k∧j<l.length then g j else cf l j:=by
 unfold gN;rw[qA];by_cases h:j<l.length
 ·rw[if_pos h];by_cases a:i<=j∧j<i+k
  ·rw[if_pos a,if_pos ⟨a.1,a.2,h⟩]
  ·rw[if_neg a,if_neg (fun b=>a ⟨b.1,b.2.1⟩)]
 ·rw[if_neg h,if_neg (fun b=>h b.2.2),bV (by omega)]
end
def oA(a:List Rat)(c:Rat)(b:List Rat):List Rat:=(List.range (max a.length b.length)).map (fun i=>cf a i+c*cf b i)
def xW(a:List Rat)(c:Rat)(b:List Rat)(i:Nat):cf (oA a c b) i=cf a i+c*cf b i:=by
 unfold oA;rw[qA];split
 ·rfl
 ·rw[bV (l:=a) (by omega),bV (l:=b) (by omega),dU,bx3]
structure DivQ(A B Q R:List Rat):Prop where
 id_:∀i,conv (cf Q) (cf B) i+cf R i=cf A i
 q_trim:aN Q
 r_trim:aN R
 r_lt:R.length<B.length
structure DivJ(A B Q R:List Rat)(i:Nat):Prop where
 id_:∀j,conv (cf Q) (cf B) j+cf R j=cf A j
 q0:∀j,j<i->cf Q j=0
 r0:∀j,i+B.length<=j+1->cf R j=0
def DivJ.start(A B:List Rat)(h:B.length<=A.length):DivJ A B (List.replicate (A.length-B.length+1) 0) A (A.length-B.length+1):=
 have a:∀j,cf (List.replicate (A.length-B.length+1) (0:Rat)) j=0:=fun j=>by
  have:=CY [] (A.length-B.length+1) j;rw[iM,eR] at this;exact this
 ⟨fun j=>by rw[lK a,bxT],fun j _=>a j,fun j b=>bV (by omega)⟩
def DivJ.step(h:DivJ A B Q R (i+1))(m:cf B (B.length-1)≠0)(hn:1<=B.length)(c:i<Q.length)(p:i+B.length<=R.length){f:Rat}(n:f=cf R (i+B.length-1)/cf B (B.length-1)):
  DivJ A B (Q.set i f) (gN R (fun j=>cf R j-f*cf B (j-i)) i B.length) i:=by
 have d:∀j,cf (gN R (fun j=>cf R j-f*cf B (j-i)) i B.length) j=cf R j-(if i<=j then f*cf B (j-i) else 0):=fun j=>by
  rw[sC];by_cases a:i<=j∧j<i+B.length∧j<R.length
  ·rw[if_pos a,if_pos a.1]
  ·rw[if_neg a];by_cases b:i<=j
   ·rw[if_pos b,bV (l:=B) (by omega)];grind
   ·rw[if_neg b];grind
 refine⟨fun j=> ?_,fun j o=> ?_,fun j o=> ?_⟩
 ·have e:conv (cf (Q.set i f)) (cf B) j=conv (cf Q) (cf B) j+conv (fun k=>if k=i then f else 0) (cf B) j:=by
   rw[<-qD];refine gL (fun k=> ?_) (fun _=>rfl) j;rw[CV c];by_cases e:k=i
   ·rw[if_pos e,if_pos e,h.q0 k (by omega),bxT]
   ·rw[if_neg e,if_neg e,bx3]
  rw[e,qE,d,<-h.id_ j];grind
 ·rw[CV c,if_neg (by omega)];exact h.q0 j (by omega)
 ·rw[d,if_pos (by omega)];by_cases e:j=i+B.length-1
  ·subst e;rw[show i+B.length-1-i=B.length-1 by omega,n,gW m];grind
  ·rw[h.r0 j (by omega),bV (l:=B) (by omega)];grind
def XT(h:∀j,n<=j->cf l j=0):(aW aV l).length<=n:=by
 rcases dE n (aW aV l).length with a|a
 ·exfalso;have d:aW aV l≠[]:=by intro e;rw[e] at a;simp at a
  have b:=byP d;have c:=vJ b;rw[iS,h _ (by omega)] at c;exact jS l _ b c.symm
 ·exact a
def DivJ.done(h:DivJ A B Q R 0)(hn:1<=B.length):DivQ A B (aW aV Q) (aW aV R):=
 ⟨fun j=>by rw[gL (iS Q) (fun _=>rfl) j,iS];exact h.id_ j,jS _,jS _,by
  have:=XT (l:=R) (n:=B.length-1) (fun j a=>h.r0 j (by omega));omega⟩
def XU{d:Nat->Rat}(f:cf ys (ys.length-1)≠0)(hn:1<=ys.length)(b:∀i,L<=i->d i=0)(h:∀i,ys.length<=i+1->conv d (cf ys) i=0):∀i,d i=0:=by
 induction L with
 |zero=>exact fun i=>b i (dC _)
 |succ L s=>
  refine s (fun i t=> ?_);by_cases o:L+1<=i
  ·exact b i o
  ·have e:i=L:=by omega
   subst e;have c:=p5 (p:=d) (q:=cf ys) (m:=i) (n:=ys.length-1) (fun j r=>b j (by omega)) (fun j r=>bV (by omega));rw[h _ (by omega)] at c;rcases Rat.mul_eq_zero.1 c.symm with a|a
   ·exact a
   ·exact absurd a f
def DivQ.unique{Q':List Rat}(h:DivQ A B Q R)(a:DivQ A B Q' b)(f:cf B (B.length-1)≠0)(hn:1<=B.length):Q=Q'∧R=b:=by
 have c:∀i,conv (fun k=>cf Q k+(-1)*cf Q' k) (cf B) i=cf b i-cf R i:=fun i=>by
  rw[qD,eI];have m:=h.id_ i;have n:=a.id_ i;grind
 have e:=XU (d:=fun k=>cf Q k+(-1)*cf Q' k) (L:=Q.length+Q'.length) f hn (fun i j=>by show cf Q i+(-1)*cf Q' i=0;rw[bV (by omega),bV (by omega)];grind) (fun i j=>by rw[c,bV (by have:=a.r_lt;omega),bV (by have:=h.r_lt;omega)];grind);refine⟨oZ h.q_trim a.q_trim (fun i=> ?_),oZ h.r_trim a.r_trim (fun i=> ?_)⟩
 ·have:=e i;grind
 ·have:=c i;rw[lK e] at this;grind
end Go.Proofs.YtjgbleapffgbcaaGreatDoor
namespace Go.Proofs.YtjgbleapffgbcaaGreatDoor
open Go.RowKit Sos Tryz
variable{l ns:List Int}{m n x:Int}{B K a b c d i:Nat}
def JO(n c:Nat)(A:Option Addr)(w:World)(hn:n<=1099511627776):Calls prog 56 #[.slice A n c] w fun e w'=>e= .returned (.int .i64 ((n:Int)-1))∧w'=w:=by
 go_enter func56,ntmps56;go_wp2;go_ret;exact⟨rfl,rfl⟩
def bC(l:List Int):Nat:=l.foldr (fun n g=>Nat.gcd g n.natAbs) 0
def JP:bC []=0:=rfl
def CK(n:Int)(l:List Int):bC (n :: l)=Nat.gcd (bC l) n.natAbs:=rfl
def WV(l:List Int)(i:Nat):bC l∣bC (l.drop i):=by
 induction l generalizing i with
 |nil=>simp
 |cons n l a=>
  cases i with
  |zero=>exact Nat.dvd_refl _
  |succ i=>rw[bz6];exact bzF (aqX _ _) (a i)
def CL(h:n∈l):(bC l:Int)∣n:=by
 induction l with
 |nil=>cases h
 |cons m l a=>
  rw[CK];rcases List.mem_cons.1 h with rfl|h
  ·exact Int.ofNat_dvd_left.2 (azU _ _)
  ·exact byF (Int.natCast_dvd_natCast.2 (aqX _ _)) (a h)
def JQ(h:bC l=0):∀n∈l,n=0:=fun n hn=>by
 have:=CL hn;rw[h] at this;exact Int.zero_dvd.1 this
def CM(h:∀n∈l,(d:Int)∣n):d∣bC l:=by
 induction l with
 |nil=>simp[JP]
 |cons m l a=>exact Nat.dvd_gcd (a (fun n hn=>h n (j8 _ hn))) (Int.ofNat_dvd_left.1 (h m (iC ..)))
def az4(h:∀n∈l,nl n.natAbs<=K):nl (bC l)<=K:=by
 induction l with
 |nil=>rw[JP,dO];exact dC _
 |cons m l b=>
  rw[CK];by_cases a:m.natAbs=0
  ·rw[a,bxN];exact b (fun n hn=>h n (j8 _ hn))
  ·exact aH (cK (aqY (bzI a) (azU _ _))) (h m (iC ..))
def WW(h:l[i]? =some n):Nat.gcd (bC (l.drop (i+1))) n.natAbs=bC (l.drop i):=by
 obtain⟨a,e⟩:=List.getElem?_eq_some_iff.1 h;rw[j5 a,e,CK]
def WX(ns:List Int)(v:Value)(w:World)(J:Glob w)(hv:WholeAt w v ns)(K:Nat)(T:∀n∈ns,nl n.natAbs<=K)(U:5*K+4<=aJ)(hl:ns.length<=1099511627776):
  Calls prog 137 #[v] w (dW w (bC ns)):=by
 obtain⟨A,c,rfl,hc⟩:=hv.form;have ai:K<=17592186044416:=by unfold aJ at U;omega
 have R:Bx ((w.alloc (.cells #[.bool false,.slice none 0 0] 60)).alloc (.cells #[.bool false,.slice none 0 0] 60)) (w.1.size) [.bool false,.slice none 0 0] 60:=(Bx.newAt w [.bool false,.slice none 0 0] 60 (w.1.size) (by simp)).alloc (.cells #[.bool false,.slice none 0 0] 60);have C:Bx ((w.alloc (.cells #[.bool false,.slice none 0 0] 60)).alloc (.cells #[.bool false,.slice none 0 0] 60)) (w.1.size+1) [.bool false,.slice none 0 0] 60:=Bx.newAt (w.alloc (.cells #[.bool false,.slice none 0 0] 60)) [.bool false,.slice none 0 0] 60 (w.1.size+1) (by simp);have a:Below w.1.size w ((w.alloc (.cells #[.bool false,.slice none 0 0] 60)).alloc (.cells #[.bool false,.slice none 0 0] 60)):=((aG _ _).alloc (by simp) _).alloc (by simp<;>omega) _;go_enter func137,ntmps137;go_wp2_with fail;generalize (w.alloc (.cells #[.bool false,.slice none 0 0] 60)).alloc (.cells #[.bool false,.slice none 0 0] 60)=W at *;have S:IntBx W (w.1.size+1) 0:=⟨_,_,_,_,C,IntAt.zero _⟩;clear C;go_loopg [4] ns.length (fun k i wr=>i= .int .i64 ((k:Int)-1)∧k<=ns.length∧IntBx wr (w.1.size+1) (bC (ns.drop k))∧Bx wr w.1.size [.bool false,.slice none 0 0] 60∧Below w.1.size w wr)
 case atStart=>exact⟨by go_num,aE,by rw[azY];exact S,R,a⟩
 case round=>
  clear S R a;obtain⟨rfl,an,⟨s,B,l,d,C,f⟩,R,a⟩:=hrel;generalize wr=wy at *;have ad:nl (bC (ns.drop gk))<=K:=az4 (fun n hn=>T n (bxD hn));replace z:=C.cell 0 rfl;replace r:=C.free 0;replace D:=C.cell 1 rfl;replace t:=C.free 1;replace E:=R.cell 0 rfl;replace H:=R.free 0;replace F:=R.cell 1 rfl;replace I:=R.free 1;cases gk with
  |zero=>
   go_wp2_with fail;rw[azZ] at f;obtain⟨Q,p, -,M,o⟩:=jU (s:=s) (u:= .slice B l d) a (by omega) R;have O:=f.ke o;generalize (wy.setCell ⟨w.1.size,0,none⟩ (.bool s)).setCell ⟨w.1.size,1,none⟩ (.slice B l d)=W6 at *;exact aM (v:= .agg #[.bool s,.slice B l d]) (by simp[results,results137,go_sem,Q,p]) rfl ⟨_,rfl,O,M⟩
  |succ k=>
   obtain⟨n,hn⟩:∃n,ns[k]? =some n:=⟨_,aR (by omega)⟩;have V:=WW hn;have ah:=T n (dG hn);have N:((bC (ns.drop (k+1)):Nat):Int)=1->bC ns=1:=fun h=>by
    have g:bC (ns.drop (k+1))=1:=by omega
    have:=WV ns (k+1);rw[g] at this;exact Nat.dvd_one.1 this
   have HN:=aB hn;have ac:=aB V;clear hn V;generalize bC (ns.drop (k+1))=G at *;have al:(0:Int)<=(k:Int):=by omega
   go_wp2_with fail;refine(n6 _ _ _ f (by rw[dD];omega)).mono ?_;rintro e1 P ⟨rfl,e⟩;by_cases g:(G:Int)=1
   ·have m:decide ((G:Int)=1)=true:=by simpa using g
    have HO:=aB (N g);rw[m];clear m N;replace f:=f.be e;replace C:=C.be e;replace z:=C.cell 0 rfl;replace r:=C.free 0;replace D:=C.cell 1 rfl;replace t:=C.free 1;replace R:=R.be e;replace E:=R.cell 0 rfl;replace H:=R.free 0;replace F:=R.cell 1 rfl;replace I:=R.free 1;replace o:=Keep.be e;replace a:=aC a e;go_wp2_with fail;have af:IntAt P (.agg #[.bool s,.slice B l d]) (bC ns:Int):=by rw[HO.out];rw[g] at f;exact f
    clear f;obtain⟨Q,p, -,M,o⟩:=jU (s:=s) (u:= .slice B l d) a (by omega) R;have O:=af.ke o;generalize (P.setCell ⟨w.1.size,0,none⟩ (.bool s)).setCell ⟨w.1.size,1,none⟩ (.slice B l d)=W6 at *;exact aM (v:= .agg #[.bool s,.slice B l d]) (by simp[results,results137,go_sem,Q,p]) rfl ⟨_,rfl,O,M⟩
   ·have m:decide ((G:Int)=1)=false:=by simpa using g
    rw[m];clear m N g;replace f:=f.be e;replace C:=C.be e;replace z:=C.cell 0 rfl;replace r:=C.free 0;replace D:=C.cell 1 rfl;replace t:=C.free 1;replace R:=R.be e;replace E:=R.cell 0 rfl;replace H:=R.free 0;replace F:=R.cell 1 rfl;replace I:=R.free 1;replace o:=Keep.be e;replace a:=aC a e;obtain⟨b,s',B',l',d',rfl,aj,g0,g1,ae⟩:=(hv.be a).at_ HN.out;have ak:=a.size;have Y:=f.drew;have ag:=ae.drew;have y:IntBx P.drew (w.1.size+1) (G:Int):=⟨_,_,_,_,C.drew,Y⟩;have j:=a.drew;have Rd:=R.drew;have X:=fun W v u J g x=>qF (G:Int) n v u W J g x K (by rw[dD];exact ad) ah U;rw[dD,ac.out] at X;have am:(k:Int)<(ns.length:Int):=by omega
    clear r t E F H I R C e;go_wp2_with fail
    go_region_with (first
     |(go_at_call 28;refine(X _ _ _ (J.be j) Y ag).mono ?_;rintro e2 w2 ⟨v2,rfl,x,L⟩;obtain⟨s2,A2,k2,c2,rfl⟩:=x.form;replace y:=y.be L;replace Rd:=Rd.be L;replace j:=aC j L;obtain⟨s9,B9,l9,d9,q, -⟩:=id y;have z:=q.cell 0 rfl;have D:=q.cell 1 rfl;have r:=q.free 0;have t:=q.free 1))
    all_goals (
     go_wp2_with fail;obtain⟨p,Z⟩:=y.stored x;have zR:Bx _ w.1.size [.bool false,.slice none 0 0] 60:=(Z.2.1 w.1.size (by omega)).trans Rd;have zb:=jD j Z (by omega);go_roundg k
     case rel=>exact⟨by go_num,by omega,p,zR,zb⟩
     case measure=>omega)
def jX(ns:List Int)(x:Int):List Int:=ns.map (fun n=>n.tdiv x)
def WY(ns:List Int):jX ns 1=ns:=by
 unfold jX;exact(by3 (fun a _=>Int.tdiv_one a)).trans (List.map_id ns)
def JR(ns:List Int)(x:Int):(jX ns x).length=ns.length:=cH _
def WZ(n x:Int)(K:Nat)(h:nl n.natAbs<=K):nl (n.tdiv x).natAbs<=K:=by
 rw[Int.natAbs_tdiv];exact aH (cK (azK _ _)) h
def X0(h:∀n∈ns,nl n.natAbs<=K):∀n∈jX ns x,nl n.natAbs<=K:=fun n hn=>by
 unfold jX at hn;obtain⟨m,a,rfl⟩:=List.mem_map.1 hn;exact WZ m x K (h m a)
def cqV(ns:List Int)(x:Int)(v vx:Value)(w:World)(hv:WholeAt w v ns)(N:IntAt w vx x)(h0:ns≠[]->x≠0)(K:Nat)(hK:∀n∈ns,nl n.natAbs<=K)(aw:nl x.natAbs<=K)(an:5*K+4<=aJ)(hl:ns.length<=1099511627776):
  Calls prog 136 #[v,vx] w fun e w'=>∃I,e= .returned I∧WholeAt w' I (jX ns x)∧(I=v∨czQ w.1.size I)∧Below w.1.size w w':=by
 unfold aJ at an;obtain⟨A,c,rfl,hc⟩:=hv.form;obtain⟨r,o,q,p,rfl⟩:=N.form;have h:Bx (w.alloc (.cells #[.bool r,.slice o q p] 60)) (w.1.size) [.bool r,.slice o q p] 60:=Bx.newAt w [.bool r,.slice o q p] 60 (w.1.size) (by simp);have f:Below w.1.size w (w.alloc (.cells #[.bool r,.slice o q p] 60)):=(aG _ _).alloc (by simp) _;go_enter func136,ntmps136;go_wp2_with fail;generalize w.alloc (.cells #[.bool r,.slice o q p] 60)=W at *;refine(n6 x _ _ (N.be f) (by omega)).mono ?_;rintro e1 P ⟨rfl,H⟩;replace h:=h.be H;replace af:=h.cell 0 rfl;replace ag:=h.cell 1 rfl;replace L:=Keep.be H;replace f:=aC f H;clear H;by_cases D:x=1
 ·have F:decide (x=1)=true:=by simpa using D
  rw[F];clear F;go_wp2;go_ret;rw[D,WY];exact⟨_,rfl,hv.be f,.inl rfl,f⟩
 ·have F:decide (x=1)=false:=by simpa using D
  rw[F];clear F D;have ad:=JR ns x;have E:=aB ad;clear ad;go_wp2_with (at_make;refine jT rfl rfl 60 _ 2 32 underlying64 p6 rfl (by decide) ns.length rfl rfl rfl rfl (by omega) (by omega) ?_;intro w2 aq Y u);have Q:OwnW w2 P.1.size (List.replicate ns.length 0):=OwnW.made Y;have ax:=f.size;have am:w.1.size<P.1.size:=h.lt;replace h:=h.be u;replace f:=aC f u;clear Y aq u;generalize hg:P.1.size=g at *;clear hg;go_loopg [16] ns.length (fun k i wr=>∃j,Hid (j+k=ns.length)∧i= .int .i64 j∧OwnW wr g ((jX ns x).take j++List.replicate k 0)∧Bx wr w.1.size [.bool r,.slice o q p] 60∧Below w.1.size w wr)
  case atStart=>exact⟨0,by unfold Hid;omega,rfl,by simpa using Q,h,f⟩
  case round=>
   clear Q h f;obtain⟨j,C,rfl,R,h,f⟩:=hrel;generalize wr=t at *;have az:(0:Int)<=(j:Int):=by omega
   cases gk with
   |zero=>
    have hj:j=ns.length:=C.out;subst hj;rw[aq8,fH,cZ (by rw[E.out];exact aE)] at R;have hw:=R.whole ns.length (by rw[E.out];exact aE);rw[E.out] at hw;go_wp2;go_ret;exact⟨_,rfl,hw,.inr fun a l c e=>by injection e with e _ _;injection e with e;rw[<-e];exact iE am,f⟩
   |succ k=>
    obtain⟨n,hn⟩:∃n,ns[j]? =some n:=⟨_,aR (by have:=C.out;omega)⟩;obtain⟨b,s,B,l,d,rfl,ay,g0,g1,J⟩:=(hv.be f).at_ hn;have a1:=hK n (dG hn);have ap:x≠0:=h0 (fun e=>by rw[e] at hn;simp at hn);have a0:(j:Int)<(ns.length:Int):=by have:=C.out;omega
    have ac:(jX ns x)[j]? =some (n.tdiv x):=by unfold jX;rw[iK,hn];rfl
    have S:=rI (ys:=jX ns x) (z:=(0:Int)) (j:=j) (k:=k+1) (by rw[E.out];exact C.out);have T:=rH (z:=(0:Int)) (k:=k) ac;have U:j<((jX ns x).take j++List.replicate (k+1) 0).length:=by rw[S,E.out];have:=C.out;omega
    have al:=aB T;clear ac S T hn;have O:=N.be f;have M:=fun W D G=>mZ n x (.agg #[.bool s,.slice B l d]) (.agg #[.bool r,.slice o q p]) W D G ap (by omega);unfold dW at M;generalize n.tdiv x=y at *;have ah:∀m:Obj,(t.alloc m).cell? ⟨w.1.size,0,none⟩=some (.bool r):=fun m=>(h.alloc m).cell 0 rfl;have aj:∀m:Obj,(t.alloc m).frozen? ⟨w.1.size,0,none⟩=false:=fun m=>(h.alloc m).free 0;have ai:∀m:Obj,(t.alloc m).cell? ⟨w.1.size,1,none⟩=some (.slice o q p):=fun m=>(h.alloc m).cell 1 rfl;have ak:∀m:Obj,(t.alloc m).frozen? ⟨w.1.size,1,none⟩=false:=fun m=>(h.alloc m).free 1;go_wp2_with fail;replace R:=R.alloc (.cells #[.bool s,.slice B l d] 60);have ar:=h.lt;have a2:=f.size;replace h:=h.alloc (.cells #[.bool s,.slice B l d] 60);have X:=Bx.newAt t [.bool s,.slice B l d] 60 (t.1.size) (by simp);replace f:=f.alloc f.size (.cells #[.bool s,.slice B l d] 60);replace L:=Keep.alloc t (.cells #[.bool s,.slice B l d] 60);replace J:=J.ke L;replace O:=O.ke L;generalize t.alloc (.cells #[.bool s,.slice B l d] 60)=W1 at *;replace af:=h.cell 0 rfl;replace ag:=h.cell 1 rfl;replace au:=X.cell 0 rfl;replace av:=X.cell 1 rfl;clear ah ai aj ak g0 g1;refine(M _ J O).mono ?_;rintro e2 w2 ⟨v2,rfl,G,u⟩;obtain⟨s2,A2,k2,c2,rfl⟩:=G.form;replace R:=R.be u;replace h:=h.be u;replace f:=aC f u;obtain⟨s',B',l',d',q0,q1, -⟩:=R.at_ (aR U);have f0:=R.free (j*2);have f1:=R.free (j*2+1);clear M;go_wp2_with fail;obtain⟨V,Z⟩:=R.stored U G;rw[al.out] at V;have ae:Bx _ w.1.size [.bool r,.slice o q p] 60:=(Z.2.1 w.1.size (by omega)).trans h;have ao:=jD f Z (by omega);go_roundg k
    case rel=>exact⟨j+1,by have:=C.out;unfold Hid;omega,by go_num,V,ae,ao⟩
    case measure=>omega
def dq4(ns:List Int)(x:Int)(v b:Value)(w:World)(hv:WholeAt w v ns)(l:IntAt w b x)(c:ns≠[]->x≠0)(K:Nat)(h:∀n∈ns,nl n.natAbs<=K)(j:nl x.natAbs<=K)(i:5*K+4<=aJ)(k:ns.length<=1099511627776):
  Calls prog 136 #[v,b] w fun e w'=>∃a,e= .returned a∧WholeAt w' a (jX ns x)∧Below w.1.size w w':=
 (cqV ns x v b w hv l c K h j i k).mono fun _ _ ⟨a,d,f,_,g⟩=>⟨a,d,f,g⟩
def aS(ns:List Int):List Int:=jX ns (bC ns)
def dF(ns:List Int):(aS ns).length=ns.length:=JR _ _
def nI(h:aN ns)(c:ns≠[]):(bC ns:Int)≠0:=fun e=>by
 obtain⟨a,b⟩:∃a,ns.getLast?=some a:=⟨_,byP c⟩;exact h a b (JQ (by omega) a (List.mem_of_getLast? b))
def gU(h:∀n∈ns,nl n.natAbs<=K):∀n∈aS ns,nl n.natAbs<=K:=X0 h
def WS(ns:List Int)(x:Int)(i:Nat):cf (jX ns x) i=(cf ns i).tdiv x:=mG (fun n:Int=>n.tdiv x) (Int.zero_tdiv x) ns i
def WT(h:∀n∈ns,x∣n)(i:Nat):x∣cf ns i:=by
 by_cases a:i<ns.length
 ·rw[fZ a];exact h _ (aq0 a)
 ·rw[bV (by omega)];exact Int.dvd_zero x
def lW(ns:List Int)(i:Nat):cf (aS ns) i*(bC ns:Int)=cf ns i:=by
 unfold aS;rw[WS];exact Int.tdiv_mul_cancel (WT (fun n hn=>CL hn) i)
def dR{α:Type}[OfNat α 0]{l:List α}(f:l≠[]):aN l↔cf l (l.length-1)≠0:=by
 obtain⟨a,d⟩:∃a,l.getLast?=some a:=⟨_,byP f⟩;have e:=vJ d;constructor
 ·intro h;rw[e];exact h a d
 ·intro h b c;rw[d] at c;injection c with c;rw[<-c,<-e];exact h
def Q5(h:aN ns):aN (aS ns):=by
 by_cases b:ns=[]
 ·rw[b];intro a d;simp[aS,jX] at d
 ·have c:aS ns≠[]:=fun e=>b (bX (by rw[<-dF,e];rfl));rw[dR c,dF];intro e;have:=lW ns (ns.length-1);rw[e,bxB] at this;exact(dR b).1 h this.symm
def qQ(ns:List Int)(v:Value)(w:World)(k:Glob w)(hv:WholeAt w v ns)(m:aN ns)(K:Nat)(a:∀n∈ns,nl n.natAbs<=K)(f:5*K+4<=aJ)(g:ns.length<=1099511627776):
  Calls prog 83 #[v] w fun e w'=>∃h,e= .returned h∧WholeAt w' h (aS ns)∧Below w.1.size w w':=by
 obtain⟨A,c,rfl,s⟩:=hv.form;go_enter func83,ntmps83;go_wp2_with fail;refine(WX ns _ _ k hv K a f g).mono ?_;rintro q z ⟨x,rfl,d,b⟩;obtain⟨u,o,t,p,rfl⟩:=d.form;go_wp2_with fail;refine(dq4 ns (bC ns) _ _ _ (hv.be b) d (fun i=>nI m i) K a (by rw[dD];exact az4 a) f g).mono ?_;rintro r B ⟨y,rfl,j,l⟩;go_wp2;go_ret;exact⟨_,rfl,j,aC b l⟩
def bB(ns:List Int):List Int:=(List.range (ns.length-1)).map (fun i:Nat=>cf ns (i+1)*((i:Int)+1))
def lZ(ns:List Int):(bB ns).length=ns.length-1:=by unfold bB;rw[cH,bxZ]
def WU(ns:List Int)(h:i<ns.length-1):(bB ns)[i]? =some (cf ns (i+1)*((i:Int)+1)):=by
 unfold bB;rw[iK,byN h];rfl
def sB(ns:List Int)(i:Nat):cf (bB ns) i=cf ns (i+1)*((i:Int)+1):=by
 unfold bB;rw[qA];split
 ·rfl
 ·rw[bV (by omega),bxB]
def JN(ns:List Int)(v:Value)(w:World)(hv:WholeAt w v ns)(K:Nat)(hK:∀n∈ns,nl n.natAbs<=K)(ac:K+2<=aJ)(hl:ns.length<=1073741824):
  Calls prog 86 #[v] w fun e w'=>∃X,e= .returned X∧WholeAt w' X (bB ns)∧Below w.1.size w w':=by
 unfold aJ at ac;obtain⟨A,c,rfl,hc⟩:=hv.form;go_enter func86,ntmps86;by_cases o:ns.length=0
 ·have V:((ns.length:Int)==0)=true:=by rw[o];rfl
  have O:ns=[]:=bX o;have HN:=aB O;clear O o;go_wp2;go_ret;rw[HN.out];exact⟨_,rfl,WholeAt.nil _ _ _,aG _ _⟩
 ·have V:((ns.length:Int)==0)=false:=by rw[beq_eq_false_iff_ne];omega
  obtain⟨M,hM⟩:∃M,ns.length=M+1:=⟨ns.length-1,by omega⟩;have ag:(ns.length:Int)-1=(M:Int):=by omega
  have U:(bB ns).length=M:=by rw[lZ];omega
  have h:=aB U;clear U o;go_wp2_with (at_make;refine jT rfl rfl 60 _ 2 32 underlying64 p6 rfl (by decide) M rfl rfl (by first|rfl|omega) (by first|rfl|omega) (by omega) (by omega) ?_;intro Y af S m);have D:OwnW Y w.1.size (List.replicate M 0):=OwnW.made S;clear S af;go_loopg [14] M (fun k i wr=>∃j,Hid (j+k=M)∧i= .int .i64 j∧OwnW wr w.1.size ((bB ns).take j++List.replicate k 0)∧Below w.1.size w wr)
  case atStart=>exact⟨0,by unfold Hid;omega,rfl,by simpa using D,m⟩
  case round=>
   clear D m;obtain⟨j,g,rfl,R,r⟩:=hrel;generalize wr=wy at *;have ah:(0:Int)<=(j:Int):=by omega
   cases gk with
   |zero=>
    have hj:j=M:=g.out;subst hj;rw[aq8,fH,cZ (by rw[h.out];exact aE)] at R;have T:=R.whole j (by rw[h.out];exact aE);rw[h.out] at T;go_wp2;go_ret;exact⟨_,rfl,T,r⟩
   |succ k=>
    have am:j<M:=by have:=g.out;omega
    obtain⟨n,hn⟩:∃n,ns[j+1]? =some n:=⟨_,aR (by omega)⟩;obtain⟨b,s,B,l,d,rfl,t,E,F,L⟩:=(hv.be r).at_ hn;have ao:=hK n (dG hn);have G:cf ns (j+1)=n:=rD hn;have ai:(j:Int)<(M:Int):=by omega
    have ak:(j:Int)+1<(ns.length:Int):=by omega
    have al:(0:Int)<=(j:Int)+1:=by omega
    have C:=WU ns (i:=j) (by omega);rw[G] at C;have H:=rI (ys:=bB ns) (z:=(0:Int)) (j:=j) (k:=k+1) (by rw[h.out];exact g.out);have I:=rH (z:=(0:Int)) (k:=k) C;have J:j<((bB ns).take j++List.replicate (k+1) 0).length:=by rw[H,h.out];have:=g.out;omega
    have Z:=aB I;clear C H I hn G;have aj:nl ((j:Int)+1).natAbs<=1:=cJ (by rw[show((j:Int)+1).natAbs=j+1 by omega];unfold BN;omega);have P:=fun W=>lL ((j:Int)+1) W (by omega) (by omega);have N:=fun W v u h1 q=>jB n ((j:Int)+1) v u W h1 q (by omega);unfold dW at N P;generalize n*((j:Int)+1)=y at *;have x:=L.drew;have Rd:=R.drew;have a:=r.drew;have an:((j:Int)+1).toNat=j+1:=by omega
    have ap:IntKind.i64.wrap ((j:Int)+1)=(j:Int)+1:=by rw[IntKind.wrap_i64];omega
    clear L R r;go_wp2_with fail
    go_region_with (first
     |(go_at_call 40;refine(P _).mono ?_;rintro e3 w3 ⟨v3,rfl,h3,f⟩;replace x:=x.be f;replace Rd:=Rd.be f;replace a:=aC a f;(try replace E:=(f.cell (p:=⟨b,(j+1)*2,none⟩) t).trans E);(try replace F:=(f.cell (p:=⟨b,(j+1)*2+1,none⟩) t).trans F);replace t:=aZ t f.size)
     |(go_at_call 34;refine(N _ _ _ x h3).mono ?_;rintro e2 Y ⟨v2,rfl,q,m⟩;obtain⟨s2,A2,k2,c2,rfl⟩:=q.form;replace Rd:=Rd.be m;replace a:=aC a m;obtain⟨s',B',l',d',V,q1, -⟩:=Rd.at_ (aR J);have f0:=Rd.free (j*2);have f1:=Rd.free (j*2+1)))
    all_goals (
     go_wp2_with fail;obtain⟨Q,ae⟩:=Rd.stored J q;rw[Z.out] at Q;have ad:=jD a ae (by omega);go_roundg k
     case rel=>exact⟨j+1,by have:=g.out;unfold Hid;omega,by go_num,Q,ad⟩
     case measure=>omega)
def PQRes.mono{xs ys q r:List Int}(h:PQRes xs ys b m q r)(a:b<=c):PQRes xs ys c m q r:=
 ⟨h.id_,h.m0,h.r_lt,h.q_trim,h.r_trim,h.q_len,h.pow,fun n hn=>aH (h.bq n hn) a,fun n hn=>aH (h.br n hn) a,aH h.bm a⟩
inductive Euc(B:Nat):List Int->List Int->List Int->Prop
 |done (a:List Int):Euc B a [] a
 |one {a b:List Int} (hb:b.length=1):Euc B a b [1]
 |step {a b q r g:List Int} {m:Int} (hb:1<b.length) (h:PQRes a b B m q r) (t:Euc B b (aS r) g):Euc B a b g
def pO(B:Nat)(xs ys g:List Int):Prop:=if xs.length<ys.length then Euc B (aS ys) (aS xs) g else Euc B (aS xs) (aS ys) g
def WholeAt.single{w:World}{s:Bool}{A:Option Addr}{k:Nat}(h:IntAt w (.agg #[.bool s,.slice A k c]) n):WholeAt (w.alloc (.cells #[.bool s,.slice A k c] 60)) (.slice (some ⟨w.1.size,0,none⟩) 1 1) [n]:=by
 have B:=Bx.new w [.bool s,.slice A k c] 60;have:OwnW (w.alloc (.cells #[.bool s,.slice A k c] 60)) w.1.size [n]:=by
  refine⟨[[.bool s,.slice A k c]],⟨B,fun r b=> ?_⟩,aE,fun i m a=> ?_⟩
  ·rw[List.mem_singleton.1 b];rfl
  ·cases i with
   |zero=>injection a with a;subst a;exact⟨s,A,k,c,rfl,h.ke (Keep.alloc _ _)⟩
   |succ i=>simp at a
 exact this.whole 1 aE
def JZ(h:1<=d):d+2<=3^d:=by
 induction d with
 |zero=>omega
 |succ d b=>
  rw[dH];by_cases a:d=0
  ·subst a;decide
  ·have:=b (by omega);omega
def cx2(h:(K+1)*(b-a+2)*3^a<=B)(k:c<a)(j:a<=b):(K+(b+1-a)*(K+1)+1)*(a-c+2)*3^c<=B:=by
 have e:K+(b+1-a)*(K+1)+1=(K+1)*(b-a+2):=by
  rw[show b+1-a=b-a+1 by omega,aqA (b-a) 1 (K+1),iL (K+1) (b-a) 2,dN (b-a) (K+1)];omega
 have f:a=(a-c)+c:=by omega
 have g:=JZ (d:=a-c) (by omega);have i:(K+1)*(b-a+2)*3^a=(K+1)*(b-a+2)*3^(a-c)*3^c:=by
  conv=>lhs;rw[f,KF]
  rw[show(a-c+c)=a by omega,iW];simp only[iW]
 rw[i] at h;rw[e];exact aH (dK _ (eV _ g)) h
def xX(h:(K+1)*(b-a+2)*3^a<=B)(d:a<=b):K+(b+1-a)*(K+1)+1<=B:=by
 have c:K+(b+1-a)*(K+1)+1=(K+1)*(b-a+2):=by
  rw[show b+1-a=b-a+1 by omega,aqA (b-a) 1 (K+1),iL (K+1) (b-a) 2,dN (b-a) (K+1)];omega
 rw[c];exact aH (by7 _ (d7 (by decide))) h
def dq6(xs ys:List Int)(vx vy:Value)(w:World)(y:Glob w)(hx:WholeAt w vx xs)(hy:WholeAt w vy ys)(tx:aN xs)(ty:aN ys)(u K B:Nat)(ay:∀n∈xs,nl n.natAbs<=u)(az:∀n∈ys,nl n.natAbs<=u)(ba:5*u+8<=aJ)(J:∀n∈aS xs,nl n.natAbs<=K)(L:∀n∈aS ys,nl n.natAbs<=K)(aw:1<=K)
  (F:xs.length<ys.length->(K+1)*(ys.length-xs.length+2)*3^xs.length<=B)(G:¬xs.length<ys.length->(K+1)*(xs.length-ys.length+2)*3^ys.length<=B)(a9:5*B+8<=aJ)(a5:xs.length<=1073741824)(a6:ys.length<=1073741824):
  Calls prog 85 #[vx,vy] w fun e w'=>∃v' g,e= .returned v'∧WholeAt w' v' g∧pO B xs ys g∧Below w.1.size w w':=by
 obtain⟨A,c,rfl,hc⟩:=hx.form;obtain⟨O,V,rfl,bc⟩:=hy.form;have lX:=dF xs;have lY:=dF ys;have pX:=qQ xs _ w y hx tx u ay (by omega) (by omega);have pY:=fun W d=>qQ ys _ W (y.be d) (hy.be d) ty u az (by omega) (by omega);have M:=Q5 tx;have N:=Q5 ty;have ad:xs.length<ys.length->∀g,Euc B (aS ys) (aS xs) g->pO B xs ys g:=fun h g k=>by unfold pO;rw[if_pos h];exact k
 have ae:¬xs.length<ys.length->∀g,Euc B (aS xs) (aS ys) g->pO B xs ys g:=fun h g k=>by unfold pO;rw[if_neg h];exact k
 generalize pO B xs ys=T at *;generalize aS xs=X at *;generalize aS ys=Y at *;rw[<-lX] at a5;rw[<-lY] at a6;rw[<-lX,<-lY] at F G;have s:Hid (xs.length<ys.length↔X.length<Y.length):=by unfold Hid;omega
 clear lX lY;go_enter func85,ntmps85;go_wp2_with fail;refine pX.mono ?_;rintro e1 w1 ⟨v1,rfl,i,d⟩;obtain⟨A1,c1,rfl,bf⟩:=i.form;go_wp2_with fail;refine(pY _ d).mono ?_;rintro e2 w2 ⟨v2,rfl,x,ag⟩;obtain⟨A2,c2,rfl,bg⟩:=x.form;replace i:=i.be ag;replace d:=aC d ag;clear pX pY ag hx hy;by_cases o:xs.length<ys.length
 focus (
  have af:=aB (ad o);have ac:=F (s.out.1 o);have a4:X.length<Y.length:=s.out.1 o;have a3:(X.length:Int)<(Y.length:Int):=by omega
  clear ad ae F G s o;have ah:=x;have ai:=i;have aj:=L;have ak:=J;have al:=N;have am:=M;clear i x J L M N;go_wp2_with fail;generalize Y=XX at *;generalize X=U at *
 )
 rotate_left
 focus (
  have af:=aB (ae o);have ac:=G (fun h=>o (s.out.2 h));have a4:¬X.length<Y.length:=fun h=>o (s.out.2 h);have a3:¬(X.length:Int)<(Y.length:Int):=by omega
  clear ad ae F G s o;have ah:=i;have ai:=x;have aj:=J;have ak:=L;have al:=M;have am:=N;clear i x J L M N;go_wp2_with fail;generalize X=XX at *;generalize Y=U at *
 )
 all_goals (
  go_loopg [5,6] U.length (fun k va vb wr=>∃a b A c O V f,Hid (b.length=k)∧va= .slice A a.length c∧vb= .slice O b.length V∧WholeAt wr (.slice A a.length c) a∧WholeAt wr (.slice O b.length V) b∧Hid (aN a)∧Hid (aN b)∧Hid (∀g,Euc B a b g->T g)∧
   (∀n∈a,nl n.natAbs<=f)∧(∀n∈b,nl n.natAbs<=f)∧1<=f∧b.length<=a.length∧a.length<=1073741824∧Hid ((f+1)*(a.length-b.length+2)*3^b.length<=B)∧Below w.1.size w wr)
  case atStart=>exact⟨XX,U,_,_,_,_,K,rfl,rfl,rfl,ah,ai,al,am,af,aj,ak,aw,by omega,by omega,ac,d⟩
  case round=>
   clear ah ai d ac al am aj ak af;obtain⟨a,b,Aa,ca,Ab,cb,f,HL,rfl,rfl,ha,l,av,ao,R,ka,kb,ap,aq,a2,HP,d⟩:=hrel;generalize wr=wy at *;have bb:=xX HP.out aq;by_cases v:b.length=0
   ·have q0:¬(0:Int)<(b.length:Int):=by omega
    have z:b=[]:=bX v;have j:=R.out a (by rw[z];exact Euc.done a);have E:=aB j;clear z v j;go_wp2;go_ret
    first|exact⟨_,a,rfl,ha,E.out,d⟩|exact⟨_,rfl,a,ha,E.out,d⟩
   ·have q0:(0:Int)<(b.length:Int):=by omega
    by_cases i:b.length=1
    ·have q1:((b.length:Int)==1)=true:=by simp;omega
     have j:=R.out [1] (Euc.one i);have E:=aB j;clear v i j;go_wp2_with fail;refine(lL 1 _ (by decide) (by decide)).mono ?_;rintro e3 D ⟨v3,rfl,h3,C⟩;obtain⟨s3,Q,k3,Z,rfl⟩:=h3.form;go_wp2;go_ret;exact⟨_,[1],rfl,WholeAt.single h3,E.out,(aC d C).alloc (aH d.size C.size) _⟩
    ·have q1:((b.length:Int)==1)=false:=by simp;omega
     have z:b≠[]:=fun e=>v (by rw[e];rfl);have a0:1<b.length:=by omega
     have pq:=BU a b _ _ wy ha l z av.out ao.out f _ ka kb ap aE (by omega) a2 (by omega);unfold wZ at pq;go_wp2_with fail;refine pq.mono ?_;rintro e3 D ⟨vq,vr,vm,q,r,m,rfl,hq,I,hm,p,C⟩;obtain⟨Aq,cq,rfl, -⟩:=hq.form;obtain⟨Ar,cr,rfl,bi⟩:=I.form;obtain⟨s3,Q,k3,Z,rfl⟩:=hm.form;have a8:=p.r_lt;have a7:=fun W y h=>qQ r (.slice Ar r.length cr) W y h p.r_trim _ p.br (by omega) (by omega);have ht:=Q5 p.r_trim;have hk:=gU p.br;have a1:∀n∈b,nl n.natAbs<=f+(a.length+1-b.length)*(f+1):=fun n hn=>aH (kb n hn) (byR _ _);have hl:=dF r;have au:(f+(a.length+1-b.length)*(f+1)+1)*(b.length-(aS r).length+2)*3^(aS r).length<=B:=by rw[hl];exact cx2 HP.out a8 aq
     have j:∀g,Euc B b (aS r) g->T g:=fun g t=>R.out g (Euc.step a0 (p.mono (by omega)) t);have S:=aB (And.intro au (And.intro j ht));have ax:1<=f+(a.length+1-b.length)*(f+1):=aH ap (byR _ _);have an:=aB hl;clear hl p au j ht pq v i z;generalize aS r=P at *;generalize f+(a.length+1-b.length)*(f+1)=KK at *;replace l:=l.be C;replace d:=aC d C;go_wp2_with fail;have H:Below D.1.size D (D.alloc (.cells #[.bool s3,.slice Q k3 Z] 60)):=(aG _ _).alloc aE _;replace l:=l.be H;replace I:=I.be H;replace d:=aC d H;clear H;generalize D.alloc (.cells #[.bool s3,.slice Q k3 Z] 60)=w4 at *;refine(a7 _ (y.be d) I).mono ?_;rintro e5 w5 ⟨v5,rfl,h5,ar⟩;obtain⟨A5,c5,rfl,bh⟩:=h5.form;replace l:=l.be ar;replace d:=aC d ar;go_wp2;go_roundg P.length
     case rel=>exact⟨b,P,Ab,cb,A5,c5,KK,rfl,rfl,rfl,l,h5,ao,S.out.2.2,S.out.2.1,a1,hk,ax,by have:=an.out;omega,by omega,S.out.1,d⟩
     case measure=>have:=HL.out;have:=an.out;omega
 )
def XV(xs ys:List Int)(a b:Value)(w:World)(l:Glob w)(q:WholeAt w a xs)(r:WholeAt w b ys)(s:aN xs)(t:aN ys)(K B:Nat)(f:∀n∈xs,nl n.natAbs<=K)(i:∀n∈ys,nl n.natAbs<=K)(m:1<=K)
  (c:xs.length<ys.length->(K+1)*(ys.length-xs.length+2)*3^xs.length<=B)(d:¬xs.length<ys.length->(K+1)*(xs.length-ys.length+2)*3^ys.length<=B)(k:5*B+8<=aJ)(o:xs.length<=1073741824)(p:ys.length<=1073741824):
  Calls prog 85 #[a,b] w fun e w'=>∃j g,e= .returned j∧WholeAt w' j g∧pO B xs ys g∧Below w.1.size w w':=by
 have u:K<=B:=by
  by_cases h:xs.length<ys.length
  ·have:=xX (c h) (by omega);omega
  ·have:=xX (d h) (by omega);omega
 exact dq6 xs ys a b w l q r s t K K B f i (by omega) (gU f) (gU i) m c d k o p
end Go.Proofs.YtjgbleapffgbcaaGreatDoor
namespace Go.Proofs.YtjgbleapffgbcaaGreatDoor
open Sos
variable{D m n:Int}{a e g l r:List Int}{A R p:List Rat}{B K v:Nat}
def Prp(A:List Rat)(a:List Int):Prop:=A.length=a.length∧aN a∧∃c:Rat,c≠0∧∀i,cf A i=c*cf a i
def gJ(h:n≠0):(n:Rat)≠0:=fun e=>h (Rat.intCast_inj.1 e)
def qS(c:Rat)(l:List Int)(i:Nat):cf (l.map (fun n:Int=>c*(n:Rat))) i=c*cf l i:=mG (fun n:Int=>c*(n:Rat)) (by show c*((0:Int):Rat)=0;rw[aq4,dU]) l i
def jY{c:Rat}(a:c≠0)(h:aN l):Prp (l.map (fun n:Int=>c*(n:Rat))) l:=⟨cH _,h,c,a,qS c l⟩
def Prp.ne(h:Prp A a)(b:a≠[]):cf A (A.length-1)≠0:=by
 obtain⟨g,i,c,f,d⟩:=h;rw[d,g];have:=gJ ((dR b).1 i);intro e;rcases Rat.mul_eq_zero.1 e with e|e
 ·exact f e
 ·exact this e
def Prp.trim(h:Prp A a):aN A:=by
 by_cases b:a=[]
 ·have:A=[]:=bX (by rw[h.1,b];rfl);rw[this];intro x c;simp at c
 ·exact(dR (fun e=>b (bX (by rw[<-h.1,e];rfl)))).2 (h.ne b)
def Prp.none(h:Prp A []):A=[]:=bX h.1
def CT{g Q:List Rat}{b q:List Int}(j:Prp A a)(f:Prp g b)(s:b≠[])(h:PQRes a b v m q r)(B:DivQ A g Q R):Prp R r:=by
 obtain⟨F, -,c,C,j⟩:=j;have y:=f.ne s;obtain⟨p, -,d,t,f⟩:=f;have u:=gJ h.m0;have l:c/m≠0:=by
  rw[azE];intro e;rcases Rat.mul_eq_zero.1 e with e|e
  ·exact C e
  ·exact u (by have:=Rat.inv_inv (m:Rat);rw[e,Rat.inv_zero] at this;exact this.symm)
 have D:DivQ A g (q.map (fun n:Int=>(c/m/d)*(n:Rat))) (r.map (fun n:Int=>(c/m)*(n:Rat))):=by
  have E:aN (q.map (fun n:Int=>(c/m/d)*(n:Rat))):=by
   refine(jY ?_ h.q_trim).trim;rw[azE];intro e;rcases Rat.mul_eq_zero.1 e with e|e
   ·exact l e
   ·exact t (by have:=Rat.inv_inv d;rw[e,Rat.inv_zero] at this;exact this.symm)
  refine⟨fun i=> ?_,E,(jY l h.r_trim).trim,by rw[cH,p];exact h.r_lt⟩;rw[gL (qS _ q) f i,eI,rF,qS,j];have o:((m*cf a i:Int):Rat)=((conv (cf q) (cf b) i+cf r i:Int):Rat):=by rw[h.id_ i]
  rw[eJ,aqE,oD] at o;generalize conv (fun k=>((cf q k:Int):Rat)) (fun k=>((cf b k:Int):Rat)) i=z at *
  have w:c/m/d*(d*z)=c/m*z:=by rw[<-azC,gW t]
  rw[w];have x:c/m*z+c/m*((cf r i:Int):Rat)=c/m*(m*cf a i):=by rw[o];grind
  rw[x,<-azC,gW u]
 obtain⟨-,rfl⟩:=B.unique D y (by rw[p];exact List.length_pos_iff.2 s);exact jY l h.r_trim
def nM(h:Prp R r):Prp R (aS r):=by
 obtain⟨g,a,c,f,d⟩:=h;by_cases b:r=[]
 ·subst b;exact⟨g,Q5 a,c,f,fun i=>by rw[d,eR];have:aS []=[]:=bX (dF []);rw[this,eR]⟩
 ·refine⟨by rw[dF];exact g,Q5 a,c*((bC r:Int):Rat),fun e=> ?_,fun i=> ?_⟩
  ·rcases Rat.mul_eq_zero.1 e with e|e
   ·exact f e
   ·exact gJ (nI a b) e
  ·rw[d,<-lW r i,eJ];grind
def cE(g:List Int):List Rat:=tT g (cf g (g.length-1))
def oQ(p:List Rat):List Rat:=aW aV (oA [] (1/cf p (p.length-1)) p)
def qT(h:Prp p e):oQ p=cE e:=by
 by_cases a:e=[]
 ·subst a;rw[h.none];rfl
 ·have hn:=h.ne a;obtain⟨d,g,c,k,b⟩:=h;have f:=(dR a).1 g;refine oZ (jS _) (VN f g) (fun i=> ?_);unfold oQ cE;rw[iS,xW,eR,xN,b,b,d];have j:=gJ f;rw[b,d] at hn;grind
def uD(a:aN e):Prp (cE e) e:=by
 by_cases b:e=[]
 ·subst b;exact⟨rfl,a,1,by decide,fun i=>by rw[eR];show cf [] i=_;rw[eR,aq4,dU]⟩
 ·have d:=gJ ((dR b).1 a);refine⟨cH _,a,1/((cf e (e.length-1):Int):Rat),fun h=> ?_,fun i=>by unfold cE;rw[xN];grind⟩;have:(1:Rat)=0:=by
   have c:1/((cf e (e.length-1):Int):Rat)*((cf e (e.length-1):Int):Rat)=1:=gW d;rw[<-c,h,aqQ]
  exact absurd this (by decide)
def CU(h:∀n∈e,nl n.natAbs<=K)(b:1<=K):∀q∈cE e,RL K q:=fun q a=>by
 unfold cE tT at a;obtain⟨n,hn,rfl⟩:=List.mem_map.1 a;exact CA n _ K (h n hn) (iU h _) b
def XM(h:e.length=1)(c:aN e):cE e=cE [1]:=by
 obtain⟨x,rfl⟩:∃x,e=[x]:=List.length_eq_one_iff.1 h;have d:=c x rfl;have:=gJ d;show[(x:Rat)/(x:Rat)]=[((1:Int):Rat)/((1:Int):Rat)]
 have a:(x:Rat)/x=1:=by grind
 have b:((1:Int):Rat)/((1:Int):Rat)=1:=by rw[bxS];grind
 rw[a,b]
def Trc(B:Nat)(a b g:List Int):Prop:=Euc B a b g∨(b=[]∧a.length=1∧g=[1])∨a.length<b.length∧Euc B b a g∧∀n∈a,nl n.natAbs<=B
def Trc.done(h:Trc B a [] g)(c:aN a):cE a=cE g:=by
 rcases h with h|⟨-,h,rfl⟩|⟨h, -⟩
 ·cases h with
  |done=>rfl
  |one b=>cases b
  |step b=>simp at b
 ·exact XM h c
 ·simp at h
def uE(h:ComDen A D K)(t:aN A):Prp A (cC A D):=by
 have b:=gJ (show D≠0 by have:=h.pos;omega);refine⟨(oN A D).symm,oO h.pos h.dvd t,1/(D:Rat),fun e=> ?_,fun i=> ?_⟩
 ·have a:1/(D:Rat)*D=1:=gW b;rw[e,aqQ] at a;exact absurd a (by decide)
 ·rw[JC A D h.dvd];grind
end Go.Proofs.YtjgbleapffgbcaaGreatDoor
namespace Go.Proofs.YtjgbleapffgbcaaGreatDoor
open Go.RowKit Sos Tryz
variable{w w':World}{B i n:Nat}{e:TypeId}{u v:Value}{E b c d g t:List Value}{A:Option Addr}{l:List (List UInt8)}
def cqW(a b:List (List UInt8))(I J:Value)(w:World)(u:StrsAt w I a)(v:StrsAt w J b)(X:a.length<=1099511627776)(Y:b.length<=1099511627776):
  Calls prog 15 #[I,J] w fun e w'=>e= .returned (.bool (decide (a=b)))∧Below w.1.size w w':=by
 obtain⟨A,c,rfl,S⟩:=u.form;obtain⟨M,P,rfl,T⟩:=v.form;go_enter func15,ntmps15;by_cases f:a.length=b.length
 ·have H:((a.length:Int)==(b.length:Int))=true:=by rw[f];exact beq_self_eq_true _
  have q:=aB f;go_wp2_with fail;clear H f;go_loopg [5] a.length (fun k i wr=>∃j,Hid (j+k=a.length)∧i= .int .i64 j∧Hid (a.take j=b.take j)∧Below w.1.size w wr)
  case atStart=>exact⟨0,by unfold Hid;omega,rfl,rfl,aG _ _⟩
  case round=>
   obtain⟨j,l,rfl,r,d⟩:=hrel;generalize wr=wy at *;have U:(0:Int)<=(j:Int):=by omega
   cases gk with
   |zero=>
    have D:j=a.length:=l.out;have C:a=b:=by
     have:=r.out;rwa [D,aq9,q.out,aq9] at this
    have B:decide (a=b)=true:=decide_eq_true C;have K:=aB B;subst D;clear B C;go_wp2;go_ret;rw[K.out];exact⟨rfl,d⟩
   |succ k=>
    have o:j<a.length:=by have:=l.out;omega
    have E:j<b.length:=by rw[<-q.out];exact o
    have V:(j:Int)<(a.length:Int):=by omega
    have W:(j:Int)<(b.length:Int):=by omega
    have s:=aR o;have t:=aR E;have G:a[j]=b[j]->a.take (j+1)=b.take (j+1):=fun e=>by rw[bq4 o,bq4 E,r.out,e]
    have F:a[j]≠b[j]->decide (a=b)=false:=fun h=>decide_eq_false (fun e=>h (by simp[e]));have n:=aB (And.intro G F);obtain⟨N,oa,rfl,Z,Q⟩:=(u.be d).at_ s;obtain⟨O,ob,rfl,lb,R⟩:=(v.be d).at_ t;clear G F s t;generalize a[j]=x at *;generalize b[j]=y at *;have z:=d.drew;by_cases g:x=y
    ·have m:=aB (n.out.1 g);subst g;go_wp2_with fail;go_region
     all_goals (
      go_wp2;go_roundg k
      case rel=>exact⟨j+1,by have:=l.out;unfold Hid;omega,by go_num,m,z⟩
      case measure=>omega)
    ·have m:=aB (n.out.2 g);have p:(x==y)=false:=beq_eq_false_iff_ne.2 g;clear n;go_wp2_with fail;go_region
     all_goals (
      go_wp2;go_ret;rw[m.out];exact⟨rfl,z⟩)
 ·have H:((a.length:Int)==(b.length:Int))=false:=by rw[beq_eq_false_iff_ne];omega
  have p:decide (a=b)=false:=decide_eq_false (fun e=>f (by rw[e]));have L:=aB p;clear p;go_wp2;go_ret;rw[L.out];exact⟨rfl,aG _ _⟩
def uH(u:Value):Prop:=∃A n c,u= .slice A n c
def PRow(w:World)(B:Nat)(e:TypeId)(v:Value)(b:List Value):Prop:=
 (v= .slice none 0 0∧b=[])∨∃g c d,v= .slice (some ⟨g,0,none⟩) b.length c∧B<=g∧w.heap[g]? =some (.cells d e (0,0))∧b.length<=c∧c<=maxLen∧d.size=c∧d.toList.take b.length=b∧∀u∈d.toList,uH u
def PRow.nil(w:World)(B:Nat)(e:TypeId):PRow w B e (.slice none 0 0) []:= .inl ⟨rfl,rfl⟩
def PRow.be(h:PRow w B e v c)(j:Below w.1.size w w'):PRow w' B e v c:=by
 rcases h with h|⟨g,d,f,hv,i,b,h⟩
 ·exact .inl h
 ·exact .inr ⟨g,d,f,hv,i,(j.block g (Array.getElem?_eq_some_iff.1 b).1).trans b,h⟩
def PRow.ge(h:PRow w B e v c):∀g,v.ownBlock=some g->B<=g:=fun g b=>by
 rcases h with ⟨rfl,_⟩|⟨g',d,cur,rfl,f,_⟩
 ·simp[Value.ownBlock] at b
 ·simp[Value.ownBlock] at b;omega
def PRow.form(h:PRow w B e v b):∃A c,v= .slice A b.length c∧b.length<=c:=by
 rcases h with ⟨rfl,rfl⟩|⟨i,f,g,rfl,j,_,d,_⟩
 ·exact⟨none,0,rfl,aE⟩
 ·exact⟨_,_,rfl,d⟩
def PRow.at_{l c:Nat}(h:PRow w B e (.slice A l c) g)(hi:g[i]? =some u):∃b,A=some ⟨b,0,none⟩∧b<w.1.size∧w.cell? ⟨b,i,none⟩=some u:=by
 rcases h with ⟨_,rfl⟩|⟨d,m,j,hv,n,f,p,q,r,k,hn⟩
 ·simp at hi
 ·simp only[Value.slice.injEq] at hv;refine⟨d,hv.1,(Array.getElem?_eq_some_iff.1 f).1,?_⟩;rw[cell_of_row w d i j e (0,0) f,<-Array.getElem?_toList];rw[<-k,fC] at hi;split at hi
  ·exact hi
  ·cases hi
def Y1{g:Nat}{cur cs:Array Value}(t:w.heap[g]? =some (.cells cur e (0,0)))(hn:∀u∈cur.toList,uH u)(h:NatAt w u n):NatAt (w.setRow g cs) u n:=by
 obtain⟨A,c,hv,r,d,y⟩:=h;have k:(w.setRow g cs).1.size=w.1.size:=by simp[World.setRow]
 refine⟨A,c,hv,r,?_,y.mono (by rw[k];exact aE)⟩;rcases d with d|⟨b,m,rfl,x,j⟩
 ·exact .inl d
 ·by_cases l:dg n=[]
  ·exact .inl l
  ·have q:b≠g:=fun p=>by
    subst p;have f:=j 0 (List.length_pos_iff.2 l);rw[cell_of_row w b (m+0) cur e (0,0) t,<-Array.getElem?_toList] at f;obtain⟨z,C,B,s⟩:=hn _ (dG f);cases s
   refine .inr ⟨b,m,rfl,by rw[k];exact x,fun i v=> ?_⟩;exact(World.cell?_of_block (setRow_other w g b cs q)).trans (j i v)
section
variable {P:Program}{ops:Array Oper}{rest:List Oper}{o:Oper}{a:Act}{Q:Exit->Act->World->Prop}{w:World}
def K4(af:o.guard=none){s x:Operand}{t:TypeId}(ho:o.op= .call { callee:= .builtin .append,args:= #[s,x],argTypes:= #[t,t] })
  (e:TypeId)(R:Nat)(L:P.underlying t=some (.slice e))(hi:(P.info? e).map (fun i=>(i.zero,i.size,i.bytes))=some (some (.slice none 0 0),1,R))
  (B:Nat)(v:Value)(d:List Value)(hs:a.eval s=v)(ai:PRow w B e v d)(b:Nat)(u:Value)(O:a.eval x= .slice (some ⟨b,0,none⟩) 1 1)(hc:w.cell? ⟨b,0,none⟩=some u)(N:uH u)
  (V:(d.length+1)*R<=140737488355328)(T:d.length+1<=maxLen)(hB:B<=w.1.size)
  (h:∀p w',PRow w' B e p (d++[u])->Keep w w'->w.grownBy w' v.ownBlock->wpList P ops Q rest (a.put o.dst p) w'):
  wpList P ops Q (o :: rest) a w:=by
 obtain⟨i,H,hz,r,U⟩:=info_parts hi;have ao:d.length+1<=9223372036854775807:=by simp only[maxLen] at T;omega
 have ah:u.oneCell'=true:=by obtain⟨A,n,c,rfl⟩:=N;rfl
 have J:∀j y,[u][j]? =some y->w.cell? ((⟨b,0,none⟩:Addr).add j)=some y:=fun j y m=>by
  match j,m with
  |0,m=>simp at m;subst m;simpa [Addr.add] using hc
 have S:∀(l F:Nat),l=grownCap w (d.length+1) F e->d.length+1<=l->l<=maxLen->∀ad,(∀y∈d,uH y)->
   PRow (w.drew.alloc (.cells (d.toArray++[u].toArray++Builtin.zeroCells (Value.slice none 0 0).cells (l-(d.length+1))) e)) B e (.slice (some ⟨w.1.size,0,none⟩) (d.length+1) l) (d++[u])∧
   Keep w (w.drew.alloc (.cells (d.toArray++[u].toArray++Builtin.zeroCells (Value.slice none 0 0).cells (l-(d.length+1))) e))∧
   w.grownBy (w.drew.alloc (.cells (d.toArray++[u].toArray++Builtin.zeroCells (Value.slice none 0 0).cells (l-(d.length+1))) e)) ad:=by
  intro l F _ C G ad hv;have am:(Builtin.zeroCells (Value.slice none 0 0).cells (l-(d.length+1))).size=l-(d.length+1):=by rw[size_zeroCells];simp[Value.cells]
  refine⟨.inr ⟨w.1.size,l,_,by rw[dA];rfl,hB,heap_alloc_new w.drew _,by rw[dA];exact C,G,?_,?_,?_⟩,Keep.be ((aG w.1.size w).drew.alloc aE _),⟨rfl,rfl,rfl,by simp,fun k I _=>heap_alloc_old w.drew _ I⟩⟩
  ·rw[Array.size_append,Array.size_append,am];simp;omega
  ·rw[bx5,bx5];exact List.take_left
  ·intro y f;rw[bx5,bx5] at f;rcases List.mem_append.1 f with f|f
   ·rcases List.mem_append.1 f with f|f
    ·exact hv y f
    ·have al:y=u:=by simpa using f
     rw[al];exact N
   ·have ac:y∈Builtin.zeroCells #[Value.slice none 0 0] (l-(d.length+1)):=Array.mem_toList_iff.1 f;unfold Builtin.zeroCells at ac;obtain⟨j,_,rfl⟩:=Array.mem_map.1 ac;simp only[bzA,eG,azS,bA,Nat.mod_one];exact⟨none,0,0,rfl⟩
 have an:∃p w',(Builtin.append_ #[t,t] o.type #[v,.slice (some ⟨b,0,none⟩) 1 1]).run P w= .ok p w'∧PRow w' B e p (d++[u])∧Keep w w'∧w.grownBy w' v.ownBlock:=by
  have X:=grownCap_ge w (d.length+1);have W:=fun F=>grownCap_le_maxLen w (d.length+1) F e T;rcases ai with ⟨rfl,rfl⟩|⟨g,l,z,rfl,ae,D,hl,hm,ap,M,hn⟩
  ·have q:=run_append_nil (P:=P) w t o.type e i (.slice none 0 0) L H hz ⟨b,0,none⟩ 1 1 [u] (by rw[r];rfl) J (by omega) (by omega) (by rw[U];simp at V;omega);have E:=S _ 0 rfl (X 0 e) (W 0) (Value.ownBlock (.slice none 0 0)) (fun y f=>by cases f);simp only[azS,bA,iM,Array.empty_append] at E⊢;exact⟨_,_,q,E⟩
  ·have Z:∀y∈d,uH y:=fun y f=>hn y (by rw[<-M] at f;exact lH f);by_cases Y:d.length+1<=l
   ·have q:=run_append_room (P:=P) w t o.type e i L H g d.length l z D ⟨b,0,none⟩ 1 1 [u] (by rw[r];rfl) J (fun y f=>by rw[List.mem_singleton.1 f];exact ah) Y (by rw[r];simp;omega);rw[r,az9,M] at q;refine⟨_,_,q,.inr ⟨g,l,_,by rw[dA];rfl,ae,setRow_heap w g z _ e _ D,by rw[dA];exact Y,hm,?_,?_,?_⟩,fun x n O=>Y1 D hn O,⟨rfl,rfl,rfl,by simp[World.setRow],fun k _ I=>setRow_other w g k _ (fun e=>I (by simp[Value.ownBlock,e]))⟩⟩
    ·simp[eP];omega
    ·exact List.take_left
    ·intro y f;have ak:y∈d++[u]++z.toList.drop (d.length+[u].length):=f;rcases List.mem_append.1 ak with f|f
     ·rcases List.mem_append.1 f with f|f
      ·exact Z y f
      ·rw[List.mem_singleton.1 f];exact N
     ·exact hn y (bxD f)
   ·have ag:∀j y,d[j]? =some y->w.cell? ((⟨g,0,none⟩:Addr).add j)=some y:=fun j y m=>by
     have C:w.cell? ⟨g,j,none⟩=some y:=by
      rw[cell_of_row w g j z e (0,0) D,<-Array.getElem?_toList];rw[<-M,fC] at m;split at m
      ·exact m
      ·cases m
     unfold Addr.add;split
     ·rename_i h0;subst h0;simpa using C
     ·simpa using C
    have q:=run_append_grow (P:=P) w t o.type e i (.slice none 0 0) L H hz ⟨g,0,none⟩ d.length l d (by rw[r,az9]) ag ⟨b,0,none⟩ 1 1 [u] (by rw[r];rfl) J (by omega) (by omega) (growslice_fits (by omega) (by rw[U];exact V));have E:=S _ l rfl (X l e) (W l) (Value.ownBlock (.slice (some ⟨g,0,none⟩) d.length l)) Z;exact⟨_,_,q,E⟩
 obtain⟨p,w',aj,G,h3,h4⟩:=an;refine wpList_plain af fun K hK=> ?_;unfold Oper.wp execOp;simp only[ho,resolve,invoke,builtin,Sem.run_bind,Sem.run_pure,Result.andThen_ok,bxC,fM,aqJ,hs,O,aj];exact hK _ _ (h p w' G h3 h4)
end
def RowsAt{α:Type}(E:World->Value->α->Prop)(w:World)(B:Nat)(e:TypeId)(v:Value)(c:List α):Prop:=
 ∃b,PRow w B e v b∧b.length=c.length∧∀(i:Nat) (u:Value) (l:α),b[i]? =some u->c[i]? =some l->E w u l
def RowsAt.nil{α:Type}(E:World->Value->α->Prop)(w:World)(B:Nat)(e:TypeId):RowsAt E w B e (.slice none 0 0) []:=⟨[],PRow.nil _ _ _,rfl,fun i u l h=>by simp at h⟩
def RowsAt.form{α:Type}{E:World->Value->α->Prop}{b:List α}(h:RowsAt E w B e v b):∃A c,v= .slice A b.length c∧b.length<=c:=by
 obtain⟨g,d,f,_⟩:=h;rw[<-f];exact d.form
def RowsAt.at_{α:Type}{E:World->Value->α->Prop}{c:Nat}{f:List α}(h:RowsAt E w B e (.slice A n c) f){l:α}(hi:f[i]? =some l):∃b u,A=some ⟨b,0,none⟩∧b<w.1.size∧w.cell? ⟨b,i,none⟩=some u∧E w u l:=by
 obtain⟨r,g,j,k⟩:=h;have d:i<r.length:=by rw[j];exact(List.getElem?_eq_some_iff.1 hi).1
 obtain⟨b,m,p,q⟩:=g.at_ (aR d);exact⟨b,_,m,p,q,k i _ l (aR d) hi⟩
abbrev WsAt:=RowsAt WholeAt
abbrev TsAt:=RowsAt StrsAt
def WsAt.be{c:List (List Int)}(h:WsAt w B 64 v c)(b:Below w.1.size w w'):WsAt w' B 64 v c:=by
 obtain⟨k,d,e,f⟩:=h;exact⟨k,d.be b,e,fun i u l j g=>(f i u l j g).be b⟩
def TsAt.be{c:List (List (List UInt8))}(h:TsAt w B 22 v c)(b:Below w.1.size w w'):TsAt w' B 22 v c:=by
 obtain⟨k,d,e,f⟩:=h;exact⟨k,d.be b,e,fun i u l j g=>(f i u l j g).be b⟩
def WholeAt.grown{l:List Int}(h:WholeAt w u l)(s:PRow w B 64 v t)(r:Keep w w')(n:w.grownBy w' v.ownBlock):WholeAt w' u l:=by
 obtain⟨A,c,e,m,h⟩:=h;refine⟨A,c,e,m,?_⟩;rcases h with h|⟨b,j,k,f,q⟩
 ·exact .inl h
 ·refine .inr ⟨b,j,k,⟨(n.block b f.lt (fun i=> ?_)).trans f.1,f.2⟩,q.ke r⟩;rcases s with ⟨rfl,_⟩|⟨g,x,y,rfl,_,p,_⟩
  ·simp[Value.ownBlock] at i
  ·simp[Value.ownBlock] at i;subst i;have d:w.heap[b]? =some (.cells j.flatten.toArray 60 (0,0)):=f.1;rw[p] at d;injection d with d;injection d with _ d;exact absurd d (by decide)
def StrsAt.grown(h:StrsAt w u l)(D:PRow w B e v E)(j:w.grownBy w' v.ownBlock):StrsAt w' u l:=by
 obtain⟨A,c,r,x,h⟩:=h;refine⟨A,c,r,x,?_⟩;rcases h with h|⟨b,p,s,m,k⟩
 ·exact .inl h
 ·by_cases C:l=[]
  ·exact .inl C
  ·refine .inr ⟨b,p,s,aZ m j.size,fun i t n=>(World.cell?_of_block (j.block b m (fun d=> ?_))).trans (k i t n)⟩;rcases D with ⟨rfl,_⟩|⟨g,H,q,rfl,_,z,_,_,_,_,hn⟩
   ·simp[Value.ownBlock] at d
   ·simp[Value.ownBlock] at d;subst d;have f:=k i t n;rw[cell_of_row w b (p+i) q e (0,0) z,<-Array.getElem?_toList] at f;obtain⟨F,I,G,y⟩:=hn _ (dG f);cases y
def WsAt.push{m:Value}{f:List (List Int)}{l:List Int}(g:PRow w B 64 v d)(h:d.length=f.length)(p:∀(i:Nat) (u:Value) (l:List Int),d[i]? =some u->f[i]? =some l->WholeAt w u l)(r:WholeAt w u l)
  (q:PRow w' B 64 m (d++[u]))(k:Keep w w')(j:w.grownBy w' v.ownBlock):WsAt w' B 64 m (f++[l]):=by
 refine⟨_,q,by rw[dA,dA,h];rfl,fun i x y b c=> ?_⟩;rcases dE i d.length with e|e
 ·rw[gA e] at b;rw[gA (by omega)] at c;exact(p i x y b c).grown g k j
 ·rw[fK e] at b;rw[fK (by omega),<-h] at c;have n:i-d.length=0:=by
   have:=(List.getElem?_eq_some_iff.1 b).1;simp at this;omega
  rw[n] at b c;simp at b c;subst b;subst c;exact r.grown g k j
def TsAt.push{k:Value}{f:List (List (List UInt8))}(g:PRow w B 22 v d)(h:d.length=f.length)(n:∀(i:Nat) (u:Value) (l:List (List UInt8)),d[i]? =some u->f[i]? =some l->StrsAt w u l)(q:StrsAt w u l)
  (p:PRow w' B 22 k (d++[u]))(j:w.grownBy w' v.ownBlock):TsAt w' B 22 k (f++[l]):=by
 refine⟨_,p,by rw[dA,dA,h];rfl,fun i x y b c=> ?_⟩;rcases dE i d.length with e|e
 ·rw[gA e] at b;rw[gA (by omega)] at c;exact(n i x y b c).grown g j
 ·rw[fK e] at b;rw[fK (by omega),<-h] at c;have m:i-d.length=0:=by
   have:=(List.getElem?_eq_some_iff.1 b).1;simp at this;omega
  rw[m] at b c;simp at b c;subst b;subst c;exact q.grown g j
def K5{a:World}(h:Below B a w)(b:w.grownBy w' v.ownBlock)(f:PRow w B e v g)(d:B<=a.1.size):Below B a w':=
 ⟨b.os.trans h.os,b.tape.trans h.tape,b.output.trans h.output,aH h.size b.size,fun k c=>(b.block k (aZ c (aH d h.size)) (fun e=>by have:=f.ge k e.symm;omega)).trans (h.block k c)⟩
def Y3:(Tryz.prog.info? 64).map (fun i=>(i.zero,i.size,i.bytes))=some (some (.slice none 0 0),1,24):=by kernel_rfl
section
variable {P:Program}{ops:Array Oper}{rest:List Oper}{o:Oper}{a:Act}{Q:Exit->Act->World->Prop}{w:World}
end
def uG(xs ys:List Int)(y:Int):List Int:=(List.range (max xs.length ys.length)).map (fun i=>cf xs i+cf ys i*y)
def RW(x m:Nat):nl (x^m)<=m*nl x+1:=by
 induction m with
 |zero=>rw[bx0,mJ (by decide) (by decide)];omega
 |succ m a=>
  rw[dH,aq2];have:=fI (x^m) x;omega
def dxR(Y:Int)(a:0<=Y)(b:Y<aA):bits .and .u64 Y 1=Y%2:=by
 rw[u64_and Y 1 a (by unfold aA at b;omega) (by decide) (by decide)];obtain⟨n,rfl⟩:=j7 a;rw[j9,show(1:Int).toNat=2^1-1 from rfl,Nat.and_two_pow_sub_one_eq_mod];rfl
def dzM(n k:Nat)(hn:n<BN):bits .and .u64 ((n:Int)/2^k) 1=((n/2^k%2:Nat):Int):=by
 have e:(n:Int)/2^k=((n/2^k:Nat):Int):=by rw[azR,bx9];rfl
 have:n/2^k<=n:=azK _ _;rw[e,dxR _ (Int.natCast_nonneg _) (by unfold aA;unfold BN at hn;generalize n/2^k=m at *;omega)];rfl
def dzN(x:Int)(n:Nat):x^n=if (decide (x<0)&&decide (n%2=1)) then -((x.natAbs^n:Nat):Int) else ((x.natAbs^n:Nat):Int):=by
 by_cases h:x<0
 ·have e:x= -(x.natAbs:Int):=by omega
  simp only[h,decide_true,Bool.true_and];generalize x.natAbs=a at *;subst e;clear h;induction n with
  |zero=>simp
  |succ n c=>
   rw[gR,c,dH];by_cases b:n%2=1
   ·rw[if_pos (by simpa using b),if_neg (by simp;omega),Int.neg_mul_neg,az8]
   ·rw[if_neg (by simpa using b),if_pos (by simp;omega),Int.mul_neg,az8]
 ·have e:x=(x.natAbs:Int):=by omega
  simp only[h,decide_false,Bool.false_and];rw[if_neg (by simp),bx9,<-e]
def dzO(x n k:Nat):(x^(n/2^(k+1))*x^(n/2^(k+1)))*(if n/2^k%2=1 then x else 1)=x^(n/2^k):=by
 have e:n/2^(k+1)=n/2^k/2:=by rw[dH,aqB]
 rw[e];generalize n/2^k=m;rw[<-KF];split
 ·rw[<-dH];congr 1;omega
 ·rw[az9];congr 1;omega
def dxS(x n:Nat)(l:Value)(w:World)(y:NatAt w l x)(hn:n<BN)(M:2*(n*nl x+1)+nl x<=aJ):
  Calls prog 107 #[l,.int .u64 n] w (jK w [l] (x^n)):=by
 obtain⟨A,c,rfl,Z,hr,ho⟩:=id y;have N:(n:Int)<=18446744073709551615:=by unfold BN at hn;omega
 have q:=RF 64 n (by rw[sY] at hn;exact hn);have s:Lib.bitLenAux 64 n<=64:=Lib.bitLenAux_le 64 n 64 (by rw[sY] at hn;exact hn);have J:n/2^Lib.bitLen n=0:=azT q.1;have K:Lib.bitLen n<=64:=s;clear q s;go_enter func107,ntmps107;go_wp2_with fail;have m:NatAt (w.alloc (.cells #[.int .u64 1] 119)) (.slice (some ⟨w.1.size,0,none⟩) 1 1) 1:=by
  refine⟨_,1,by rw[mJ (by decide) (by decide)],by rw[mJ (by decide) (by decide)];exact aE,?_,Old.mk (by simp)⟩;rw[pC (by decide) (by decide)];refine Rd.mk (by simp) ?_;intro i I;obtain rfl:i=0:=by simpa using I
  simp[go_sem]
 have b:Below w.1.size w (w.alloc (.cells #[.int .u64 1] 119)):=(aG _ _).alloc aE _;generalize w.alloc (.cells #[.int .u64 1] 119)=W at *;refine(Tryz.bits_Len n _ (by omega) N).mono ?_;rintro V w1 ⟨rfl,rfl⟩;rw[j9];generalize Lib.bitLen n=L at *;go_wp2_with fail;go_loopg [5,6] L (fun k v i wr=>i= .int .i64 ((k:Int)-1)∧k<=64∧NatAt wr v (x^(n/2^k))∧From w [.slice A (nl x) c] v∧Below w.1.size w wr)
 case atStart=>exact⟨by go_num,K,by rw[J,bx0];exact m,From.new aE,b⟩
 case round=>
  clear m b;obtain⟨rfl,hk,hv,j,b⟩:=hrel;generalize wr=wy at *;cases gk with
  |zero=>
   rw[bx0,Nat.div_one] at hv;obtain⟨z,B,rfl,E,Q,O⟩:=id hv;go_wp2;go_ret;exact⟨_,rfl,hv,j,b⟩
  |succ k=>
   have t:=dzO x n k;have ag:=RW x (n/2^(k+1));have ae:n/2^(k+1)*nl x<=n*nl x:=dK _ (azK _ _);have ah:=fI (x^(n/2^(k+1))) (x^(n/2^(k+1)));generalize x^(n/2^(k+1))=P at *;obtain⟨z,B,rfl,E,Q,O⟩:=id hv;have af:(0:Int)<=(k:Int):=by omega
   have e:=aB t;clear t;unfold aJ at M;go_wp2_with fail;refine(qN P P _ _ _ hv hv (by unfold aJ;omega)).mono ?_;rintro X w2 ⟨v2,rfl,h,F,C⟩;obtain⟨R,T,rfl,ac,al,aj⟩:=id h
   have r:=F.trans (vs:=[.slice A (nl x) c]) b.size (fun u a=>by
    rcases List.mem_cons.1 a with rfl|a
    ·exact j
    ·rcases List.mem_cons.1 a with rfl|a
     ·exact j
     ·cases a)
   have f:=aC b C;have an:IntKind.u64.wrap (k:Int)=(k:Int):=by rw[IntKind.wrap_u64];omega
   have p:=dzM n k hn;by_cases d:n/2^k%2=1
   ·rw[d] at p;rw[d] at e;have g:Hid (P*P*x=x^(n/2^k)):=e.out;clear d e;have ai:=fI P P;go_wp2_with fail;refine(qN (P*P) x _ _ _ h (y.be f) (by unfold aJ;omega)).mono ?_;rintro Y w3 ⟨v3,rfl,o,G,D⟩;obtain⟨S,U,rfl,ad,am,ak⟩:=id o
    have H:=G.trans (vs:=[.slice A (nl x) c]) f.size (fun u a=>by
     rcases List.mem_cons.1 a with rfl|a
     ·exact r
     ·rcases List.mem_cons.1 a with rfl|a
      ·exact From.mem (iC ..)
      ·cases a)
    go_wp2;go_roundg k
    case rel=>exact⟨by go_num,by omega,by rw[<-g.out];exact o,H,aC f D⟩
    case measure=>omega
   ·have d:n/2^k%2=0:=by omega
    rw[d] at p;rw[d] at e;have g:Hid (P*P=x^(n/2^k)):=by have:=e.out;rw[if_neg (by decide),az9] at this;exact this
    clear d e;go_wp2;go_roundg k
    case rel=>exact⟨by go_num,by omega,by rw[<-g.out];exact h,r,f⟩
    case measure=>omega
def dzP(x:Int)(n:Nat)(Z:Value)(w:World)(hx:IntAt w Z x)(hn:n<BN)(A:2*(n*nl x.natAbs+1)+nl x.natAbs<=aJ):
  Calls prog 55 #[Z,.int .u64 n] w (dW w (x^n)):=by
 obtain⟨ux,rfl,B⟩:=hx;obtain⟨c0,c1,k,l,z,X,m⟩:=ON w (.bool (decide (x<0))) ux 60;have J:=dzN x n;have V:(x^n).natAbs=x.natAbs^n:=Int.natAbs_pow x n;have Y:=B.be m;have U:=dxR (n:Int) (by omega) (by unfold aA;unfold BN at hn;omega);have aj:=RW x.natAbs n;obtain⟨y,E⟩:∃y:Bool,decide (n%2=1)=y:=⟨_,rfl⟩;have ah:(bits .and .u64 (n:Int) 1==1)=y:=by
  rw[U,<-E];by_cases h:n%2=1
  ·simp only[h,decide_true];rw[beq_iff_eq];omega
  ·simp only[h,decide_false];rw[beq_eq_false_iff_ne];omega
 rw[E] at J;clear U E;have s:=aB J;have R:=aB V;have S:=aB X;obtain⟨f,t⟩:∃f,Hid (decide (x^n<0)=f):=⟨_,rfl⟩;generalize decide (x<0)=sx at *;obtain⟨Q,T,rfl,ai,al,ak⟩:=id B;clear J V X;cases sx with
 |false=>
  rw[Bool.false_and] at s;go_enter func55,ntmps55;go_wp2_with fail;generalize (w.alloc (.cells #[.bool false,.slice Q (nl x.natAbs) T] 60)).alloc (.cells #[.bool false,.slice none 0 0] 60)=W at *;refine(dxS x.natAbs n _ _ Y hn A).mono ?_;rintro e3 w3 ⟨v3,rfl,i,H,a⟩;obtain⟨b,c,rfl,ae,ag,af⟩:=id i;have e:w.1.size+1<W.1.size:=by have:=S.out;omega
  replace k:=(a.cell (p:=⟨w.1.size+1,0,none⟩) e).trans k;replace l:=(a.cell (p:=⟨w.1.size+1,1,none⟩) e).trans l;have C:=(a.frozen (p:=⟨w.1.size+1,0,none⟩) e).trans (z 0);have D:=(a.frozen (p:=⟨w.1.size+1,1,none⟩) e).trans (z 1);go_wp2_with fail;refine(p7 false _ _ (x^n) _ i (by unfold aJ at A;omega) s.out).mono ?_;rintro e5 j ⟨o,d⟩;rw[t.out] at o;subst o;have g:=aZ e a.size;have M:=(d.cell (p:=⟨w.1.size+1,0,none⟩) g).trans k;have N:=(d.cell (p:=⟨w.1.size+1,1,none⟩) g).trans l;have ac:=(d.frozen (p:=⟨w.1.size+1,0,none⟩) g).trans C;have ad:=(d.frozen (p:=⟨w.1.size+1,1,none⟩) g).trans D;go_wp2_with fail;have I:=p8 (p:= .bool f) (q:= .slice b (nl (x.natAbs^n)) c) M N;have F:Below w.1.size w j:=m.trans ((aC a d).mono m.size);have G:=(F.setCell (p:=⟨w.1.size+1,0,none⟩) (by simp) (.bool f)).setCell (p:=⟨w.1.size+1,1,none⟩) (by simp) (.slice b (nl (x.natAbs^n)) c);obtain⟨O,P⟩:=I;have r:=H.ne e (fun u K=>by rw[List.mem_singleton.1 K];exact B.ne (by omega));have L:NatAt ((j.setCell ⟨w.1.size+1,0,none⟩ (.bool f)).setCell ⟨w.1.size+1,1,none⟩ (.slice b (nl (x.natAbs^n)) c)) (.slice b (nl (x.natAbs^n)) c) (x.natAbs^n):=((i.be d).set _ r).set _ r;generalize (j.setCell ⟨w.1.size+1,0,none⟩ (.bool f)).setCell ⟨w.1.size+1,1,none⟩ (.slice b (nl (x.natAbs^n)) c)=W6 at *;exact aM (v:= .agg #[.bool f,.slice b (nl (x.natAbs^n)) c]) (by simp[results,results55,go_sem,O,P]) rfl ⟨_,rfl,⟨_,by rw[t.out],by rw[R.out];exact L⟩,G⟩
 |true=>
  rw[Bool.true_and] at s;go_enter func55,ntmps55;go_wp2_with fail;generalize (w.alloc (.cells #[.bool true,.slice Q (nl x.natAbs) T] 60)).alloc (.cells #[.bool false,.slice none 0 0] 60)=W at *;refine(dxS x.natAbs n _ _ Y hn A).mono ?_;rintro e3 w3 ⟨v3,rfl,i,H,a⟩;obtain⟨b,c,rfl,ae,ag,af⟩:=id i;have e:w.1.size+1<W.1.size:=by have:=S.out;omega
  replace k:=(a.cell (p:=⟨w.1.size+1,0,none⟩) e).trans k;replace l:=(a.cell (p:=⟨w.1.size+1,1,none⟩) e).trans l;have C:=(a.frozen (p:=⟨w.1.size+1,0,none⟩) e).trans (z 0);have D:=(a.frozen (p:=⟨w.1.size+1,1,none⟩) e).trans (z 1);go_wp2_with fail;refine(p7 y _ _ (x^n) _ i (by unfold aJ at A;omega) s.out).mono ?_;rintro e5 j ⟨o,d⟩;rw[t.out] at o;subst o;have g:=aZ e a.size;have M:=(d.cell (p:=⟨w.1.size+1,0,none⟩) g).trans k;have N:=(d.cell (p:=⟨w.1.size+1,1,none⟩) g).trans l;have ac:=(d.frozen (p:=⟨w.1.size+1,0,none⟩) g).trans C;have ad:=(d.frozen (p:=⟨w.1.size+1,1,none⟩) g).trans D;go_wp2_with fail;have I:=p8 (p:= .bool f) (q:= .slice b (nl (x.natAbs^n)) c) M N;have F:Below w.1.size w j:=m.trans ((aC a d).mono m.size);have G:=(F.setCell (p:=⟨w.1.size+1,0,none⟩) (by simp) (.bool f)).setCell (p:=⟨w.1.size+1,1,none⟩) (by simp) (.slice b (nl (x.natAbs^n)) c);obtain⟨O,P⟩:=I;have r:=H.ne e (fun u K=>by rw[List.mem_singleton.1 K];exact B.ne (by omega));have L:NatAt ((j.setCell ⟨w.1.size+1,0,none⟩ (.bool f)).setCell ⟨w.1.size+1,1,none⟩ (.slice b (nl (x.natAbs^n)) c)) (.slice b (nl (x.natAbs^n)) c) (x.natAbs^n):=((i.be d).set _ r).set _ r;generalize (j.setCell ⟨w.1.size+1,0,none⟩ (.bool f)).setCell ⟨w.1.size+1,1,none⟩ (.slice b (nl (x.natAbs^n)) c)=W6 at *;exact aM (v:= .agg #[.bool f,.slice b (nl (x.natAbs^n)) c]) (by simp[results,results55,go_sem,O,P]) rfl ⟨_,rfl,⟨_,by rw[t.out],by rw[R.out];exact L⟩,G⟩
