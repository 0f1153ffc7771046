/- Laws. -/
import Derived.Test.YtpgmdhonnpakeaaGreatDoorRows
import Derived.Test.YtpgmdhonnpakeaaGreatDoorS25
import Derived.ProofKit
import Derived.LaidMore
import Derived.OpenShut
import Derived.Stop.Joined
import Derived.SliceStrings
import Derived.Lib.LaidTab
import Derived.Carry
set_option linter.all false
set_option maxHeartbeats 8000000
set_option maxRecDepth 99999
namespace Go.Proofs.YtpgmdhonnpakeaaGreatDoor
open Go.RowKit Sos
def CY(a:List Rat)(k i:Nat):cf (a++List.replicate k 0) i=cf a i:=by
 by_cases h:i<a.length
 ·rw[fZ (l:=a) h,rD (a:=a[i])];rw[gA h,aR h]
 ·rw[bV (l:=a) (by omega)];by_cases b:i<a.length+k
  ·refine rD ?_;rw[fK (by omega),j6,if_pos (by omega)]
  ·exact bV (by rw[bG,dB];omega)
end Go.Proofs.YtpgmdhonnpakeaaGreatDoor
namespace Go.Proofs.YtpgmdhonnpakeaaGreatDoor
open Sos
variable{A B Q R l ys:List Rat}{K L i n:Nat}{a e g r:List Int}
def gN(l:List Rat)(g:Nat->Rat)(i k:Nat):List Rat:=(List.range l.length).map (fun j=>if i<=j∧j<i+k then g j else cf l j)
def CV{x:Rat}(h:i<l.length)(j:Nat):cf (l.set i x) j=if j=i then x else cf l j:=by
 by_cases e:j=i
 ·subst e;rw[if_pos rfl];exact rD (by rw[gP h])
 ·rw[if_neg e];unfold cf;rw[eI,eI,lI (fun h=>e h.symm)]
section
variable {l:List Rat}{g:Nat->Rat}{i k:Nat}
def sC(j:Nat):cf (gN l g i k) j=if i<=j∧j<i+k∧j<l.length then g j else cf l j:=by
 unfold gN;rw[qA];by_cases h:j<l.length
 ·rw[if_pos h];by_cases a:i<=j∧j<i+k
  ·rw[if_pos a,if_pos ⟨a.1,a.2,h⟩]
  ·rw[if_neg a,if_neg (fun b=>a ⟨b.1,b.2.1⟩)]
 ·rw[if_neg h,if_neg (fun b=>h b.2.2),bV (by omega)]
end
def CW(h:∀q∈l,RL K q)(a:K<=L):∀q∈l,RL L q:=fun q b=>bU (h q b) a
structure DivQ(A B Q R:List Rat):Prop where
 id_:∀i,conv (cf Q) (cf B) i+cf R i=cf A i
 q_trim:aN Q
 r_trim:aN R
 r_lt:R.length<B.length
structure DivJ(A B Q R:List Rat)(i:Nat):Prop where
 id_:∀j,conv (cf Q) (cf B) j+cf R j=cf A j
 q0:∀j,j<i->cf Q j=0
 r0:∀j,i+B.length<=j+1->cf R j=0
def DivJ.start(A B:List Rat)(h:B.length<=A.length):DivJ A B (List.replicate (A.length-B.length+1) 0) A (A.length-B.length+1):=
 have a:∀j,cf (List.replicate (A.length-B.length+1) (0:Rat)) j=0:=fun j=>by
  have:=CY [] (A.length-B.length+1) j;rw[iM,eR] at this;exact this
 ⟨fun j=>by rw[lK a,bqS],fun j _=>a j,fun j b=>bV (by omega)⟩
def DivJ.step(h:DivJ A B Q R (i+1))(m:cf B (B.length-1)≠0)(hn:1<=B.length)(c:i<Q.length)(p:i+B.length<=R.length){f:Rat}(n:f=cf R (i+B.length-1)/cf B (B.length-1)):
  DivJ A B (Q.set i f) (gN R (fun j=>cf R j-f*cf B (j-i)) i B.length) i:=by
 have d:∀j,cf (gN R (fun j=>cf R j-f*cf B (j-i)) i B.length) j=cf R j-(if i<=j then f*cf B (j-i) else 0):=fun j=>by
  rw[sC];by_cases a:i<=j∧j<i+B.length∧j<R.length
  ·rw[if_pos a,if_pos a.1]
  ·rw[if_neg a];by_cases b:i<=j
   ·rw[if_pos b,bV (l:=B) (by omega)];grind
   ·rw[if_neg b];grind
 refine⟨fun j=> ?_,fun j o=> ?_,fun j o=> ?_⟩
 ·have e:conv (cf (Q.set i f)) (cf B) j=conv (cf Q) (cf B) j+conv (fun k=>if k=i then f else 0) (cf B) j:=by
   rw[<-qD];refine gL (fun k=> ?_) (fun _=>rfl) j;rw[CV c];by_cases e:k=i
   ·rw[if_pos e,if_pos e,h.q0 k (by omega),bqS]
   ·rw[if_neg e,if_neg e,bz9]
  rw[e,qE,d,<-h.id_ j];grind
 ·rw[CV c,if_neg (by omega)];exact h.q0 j (by omega)
 ·rw[d,if_pos (by omega)];by_cases e:j=i+B.length-1
  ·subst e;rw[show i+B.length-1-i=B.length-1 by omega,n,gW m];grind
  ·rw[h.r0 j (by omega),bV (l:=B) (by omega)];grind
def XT(h:∀j,n<=j->cf l j=0):(aW aV l).length<=n:=by
 rcases dE n (aW aV l).length with a|a
 ·exfalso;have d:aW aV l≠[]:=by intro e;rw[e] at a;simp at a
  have b:=bxG d;have c:=vJ b;rw[iS,h _ (by omega)] at c;exact jS l _ b c.symm
 ·exact a
def DivJ.done(h:DivJ A B Q R 0)(hn:1<=B.length):DivQ A B (aW aV Q) (aW aV R):=
 ⟨fun j=>by rw[gL (iS Q) (fun _=>rfl) j,iS];exact h.id_ j,jS _,jS _,by
  have:=XT (l:=R) (n:=B.length-1) (fun j a=>h.r0 j (by omega));omega⟩
def XU{d:Nat->Rat}(f:cf ys (ys.length-1)≠0)(hn:1<=ys.length)(b:∀i,L<=i->d i=0)(h:∀i,ys.length<=i+1->conv d (cf ys) i=0):∀i,d i=0:=by
 induction L with
 |zero=>exact fun i=>b i (dC _)
 |succ L s=>
  refine s (fun i t=> ?_);by_cases o:L+1<=i
  ·exact b i o
  ·have e:i=L:=by omega
   subst e;have c:=p5 (p:=d) (q:=cf ys) (m:=i) (n:=ys.length-1) (fun j r=>b j (by omega)) (fun j r=>bV (by omega));rw[h _ (by omega)] at c;rcases Rat.mul_eq_zero.1 c.symm with a|a
   ·exact a
   ·exact absurd a f
def DivQ.unique{Q' R':List Rat}(h:DivQ A B Q R)(h':DivQ A B Q' R')(c:cf B (B.length-1)≠0)(hn:1<=B.length):Q=Q'∧R=R':=by
 have a:∀i,conv (fun k=>cf Q k+(-1)*cf Q' k) (cf B) i=cf R' i-cf R i:=fun i=>by
  rw[qD,X7];have f:=h.id_ i;have j:=h'.id_ i;grind
 have b:=XU (d:=fun k=>cf Q k+(-1)*cf Q' k) (L:=Q.length+Q'.length) c hn (fun i e=>by show cf Q i+(-1)*cf Q' i=0;rw[bV (by omega),bV (by omega)];grind) (fun i e=>by rw[a,bV (by have:=h'.r_lt;omega),bV (by have:=h.r_lt;omega)];grind);refine⟨oZ h.q_trim h'.q_trim (fun i=> ?_),oZ h.r_trim h'.r_trim (fun i=> ?_)⟩
 ·have:=b i;grind
 ·have:=a i;rw[lK b] at this;grind
def Prp(A:List Rat)(a:List Int):Prop:=A.length=a.length∧aN a∧∃c:Rat,c≠0∧∀i,cf A i=c*cf a i
def gJ{n:Int}(h:n≠0):(n:Rat)≠0:=fun e=>h (Rat.intCast_inj.1 e)
def Prp.ne(h:Prp A a)(b:a≠[]):cf A (A.length-1)≠0:=by
 obtain⟨g,i,c,f,d⟩:=h;rw[d,g];have:=gJ ((fT b).1 i);intro e;rcases Rat.mul_eq_zero.1 e with e|e
 ·exact f e
 ·exact this e
def Prp.trim(h:Prp A a):aN A:=by
 by_cases b:a=[]
 ·have:A=[]:=bX (by rw[h.1,b];rfl);rw[this];intro x c;simp at c
 ·exact(fT (fun e=>b (bX (by rw[<-h.1,e];rfl)))).2 (h.ne b)
def Prp.none(h:Prp A []):A=[]:=bX h.1
def nM(h:Prp R r):Prp R (aS r):=by
 obtain⟨g,a,c,f,d⟩:=h;by_cases b:r=[]
 ·subst b;exact⟨g,gV a,c,f,fun i=>by rw[d,eR];have:aS []=[]:=bX (dF []);rw[this,eR]⟩
 ·refine⟨by rw[dF];exact g,gV a,c*((bC r:Int):Rat),fun e=> ?_,fun i=> ?_⟩
  ·rcases Rat.mul_eq_zero.1 e with e|e
   ·exact f e
   ·exact gJ (nI a b) e
  ·rw[d,<-lW r i,eJ];grind
def Q9(g:List Int):List Rat:=tT g (cf g (g.length-1))
def uD(a:aN e):Prp (Q9 e) e:=by
 by_cases b:e=[]
 ·subst b;exact⟨rfl,a,1,by decide,fun i=>by rw[eR];show cf [] i=_;rw[eR,aqR,gX]⟩
 ·have d:=gJ ((fT b).1 a);refine⟨cH _,a,1/((cf e (e.length-1):Int):Rat),fun h=> ?_,fun i=>by unfold Q9;rw[xN];grind⟩;have:(1:Rat)=0:=by
   have c:1/((cf e (e.length-1):Int):Rat)*((cf e (e.length-1):Int):Rat)=1:=gW d;rw[<-c,h,azS]
  exact absurd this (by decide)
def XM(h:e.length=1)(c:aN e):Q9 e=Q9 [1]:=by
 obtain⟨x,rfl⟩:∃x,e=[x]:=List.length_eq_one_iff.1 h;have d:=c x rfl;have:=gJ d;show[(x:Rat)/(x:Rat)]=[((1:Int):Rat)/((1:Int):Rat)]
 have a:(x:Rat)/x=1:=by grind
 have b:((1:Int):Rat)/((1:Int):Rat)=1:=by rw[bqR];grind
 rw[a,b]
def Trc(B:Nat)(a b g:List Int):Prop:=Euc B a b g∨(b=[]∧a.length=1∧g=[1])∨a.length<b.length∧Euc B b a g∧∀n∈a,nl n.natAbs<=B
def Trc.done{B:Nat}(h:Trc B a [] g)(c:aN a):Q9 a=Q9 g:=by
 rcases h with h|⟨-,h,rfl⟩|⟨h, -⟩
 ·cases h with
  |done=>rfl
  |one b=>cases b
  |step b=>simp at b
 ·exact XM h c
 ·simp at h
def uE{D:Int}(h:ComDen A D K)(t:aN A):Prp A (cC A D):=by
 have b:=gJ (show D≠0 by have:=h.pos;omega);refine⟨(oN A D).symm,oO h.pos h.dvd t,1/(D:Rat),fun e=> ?_,fun i=> ?_⟩
 ·have a:1/(D:Rat)*D=1:=gW b;rw[e,azS] at a;exact absurd a (by decide)
 ·rw[JC A D h.dvd];grind
end Go.Proofs.YtpgmdhonnpakeaaGreatDoor
namespace Go.Proofs.YtpgmdhonnpakeaaGreatDoor
open Go.RowKit Sos Go.Proofs.Tryz
variable{B b:Nat}{a c:Bool}{g:List Int}{bs d l n:List UInt8}
def y5{a b:List Int}(h:Euc B a b g)(i:1<=B):aN a->aN b->(∀n∈a,nl n.natAbs<=B)->(∀n∈b,nl n.natAbs<=B)->aN g∧(∀n∈g,nl n.natAbs<=B)∧g.length<=max a.length b.length:=by
 induction h with
 |done a=>exact fun p _ k _=>⟨p,k,Nat.le_max_left _ _⟩
 |one c=>exact fun _ _ _ _=>⟨oB rfl,fun n hn=>by rw[List.mem_singleton.1 hn];exact aH (cJ (m:=1) (by unfold BN;decide)) i,by rw[c];exact Nat.le_max_right _ _⟩
 |step c h t j=>
  intro _ q _ o;obtain⟨d,e,f⟩:=j q (gV h.r_trim) o (gU h.br);rw[dF] at f;have:=h.r_lt;exact⟨d,e,by omega⟩
def GcT(A B:List Rat)(g:List Int):Prop:=∃D E,ComDen A D 8∧ComDen B E 8∧pO 43740 (cC A D) (cC B E) g
def GcT.ok{A B:List Rat}(h:GcT A B g)(p:aN A)(r:aN B)(v:∀q∈A,RL 1 q)(x:∀q∈B,RL 1 q)(y:A.length<=7)(z:B.length<=7):(∃a b,Prp A a∧Prp B b∧Trc 43740 a b g)∧aN g∧(∀n∈g,nl n.natAbs<=43740)∧g.length<=7:=by
 obtain⟨D,E,c,d,h⟩:=h;have s:=oO c.pos c.dvd p;have t:=oO d.pos d.dvd r;have j:=gU (K:=43740) (fun n hn=>aH (sA _ D 1 _ v c.nl_ n hn) (by decide));have k:=gU (K:=43740) (fun n hn=>aH (sA _ E 1 _ x d.nl_ n hn) (by decide));have m:=nM (uE c p);have o:=nM (uE d r);have C:=oN A D;have F:=oN B E;unfold pO at h;split at h
 ·rename_i u;obtain⟨e,f,i⟩:=y5 h (by decide) (gV t) (gV s) k j;rw[dF,dF] at i;exact⟨⟨_,_,m,o,.inr (.inr ⟨by rw[dF,dF];exact u,h,j⟩)⟩,e,f,by omega⟩
 ·obtain⟨e,f,i⟩:=y5 h (by decide) (gV s) (gV t) j k;rw[dF,dF] at i;exact⟨⟨_,_,m,o,.inl h⟩,e,f,by omega⟩
def cyK(w:World)(a b:List (List UInt8))(e:Ending)(w':World):Prop:=∃v n,e= .returned (.tuple #[v,.int .i64 n])∧Below w.1.size w w'∧(¬(vl a=true∧vl b=true)->n=1∧StrsAt w' v [])∧(vl a=true->vl b=true->n=0∧∃g,GcT (aU a) (aU b) g∧StrsAt w' v ((Q9 g).map cW))
section
variable (a b:List (List UInt8))(va vb:Value)(w:World)(hG:Glob w)(ha:StrsAt w va a)(hb':StrsAt w vb b)(hla:a.length<=7)(hlb:b.length<=7)(hsa:∀l∈a,l.length<=6)(hsb:∀l∈b,l.length<=6)
include hG ha hb' hla hlb hsa hsb
def dy8:Calls prog 13 #[va,vb] w (cyK w a b):=by
 obtain⟨A,c,rfl,hc⟩:=ha.form;obtain⟨A',c',rfl,af⟩:=hb'.form;have z:∀q∈aU a,RL 1 q:=pI (fun l i=>aH (hsa l i) (by decide));have B:∀q∈aU b,RL 1 q:=pI (fun l i=>aH (hsb l i) (by decide));go_enter func13,ntmps13;go_wp2_with fail;refine(VD a _ _ hG ha (by omega) (fun _ l i=>aH (hsa l i) (by decide)) 1 8 7 (fun _=>z) (fun _=>hla) (by decide) (by decide) (by unfold aJ;decide)).mono ?_;rintro e1 w1 ⟨v1,ak,xs,D,rfl,f,hD,C,V⟩;obtain⟨A1,c1,rfl,ag⟩:=f.form;obtain⟨s1,B1,k1,d1,rfl⟩:=hD.form;obtain⟨w2,S,U,X⟩:=bI w1 [.bool s1,.slice B1 k1 d1] 53;replace f:=f.be U;have d:=aC V U;have R:=X.k2;go_wp2_with fail;(try rw[S]);clear S;refine(VD b _ _ (hG.be d) (hb'.be d) (by omega) (fun _ l i=>aH (hsb l i) (by decide)) 1 8 7 (fun _=>B) (fun _=>hlb) (by decide) (by decide) (by unfold aJ;decide)).mono ?_;rintro e3 w3 ⟨v3,al,ys,E,rfl,G,hE,F,I⟩;obtain⟨A3,c3,rfl,ah⟩:=G.form;obtain⟨s3,B3,k3,d3,rfl⟩:=hE.form;replace X:=X.be I;replace f:=f.be I;replace d:=aC d I;obtain⟨w4,k,t,Y⟩:=bI w3 [.bool s3,.slice B3 k3 d3] 53;replace X:=X.be t;replace f:=f.be t;replace G:=G.be t;replace d:=aC d t;clear R;have R:=X.k2;cases hva:vl a with
 |false=>
  have j:Hid (¬(vl a=true∧vl b=true)):=by unfold Hid;rw[hva];simp
  clear C F hva;go_wp2_with fail;(try rw[k]);(try clear k);go_ret2;exact⟨_,_,rfl,d,(fun _=>⟨rfl,StrsAt.nil _ _ _⟩),(fun r s=>absurd (And.intro r s) j.out)⟩
 |true=>
  cases hvb:vl b with
  |false=>
   have j:Hid (¬(vl a=true∧vl b=true)):=by unfold Hid;rw[hvb];simp
   clear C F hva hvb;go_wp2_with fail;(try rw[k]);(try clear k);go_ret2;exact⟨_,_,rfl,d,(fun _=>⟨rfl,StrsAt.nil _ _ _⟩),(fun r s=>absurd (And.intro r s) j.out)⟩
  |true=>
   obtain⟨rfl,o⟩:=C hva;obtain⟨rfl,p⟩:=F hvb;have j:Hid (vl a=true∧vl b=true):=⟨hva,hvb⟩;have Z:=oO o.pos o.dvd (pJ hva).2.2;have ty:=oO p.pos p.dvd (pJ hvb).2.2;have Q:=sA _ D 1 _ z o.nl_;have P:=sA _ E 1 _ B p.nl_;have M:(cC (aU a) D).length<=7:=by rw[oN,VS];exact hla
   have N:(cC (aU b) E).length<=7:=by rw[oN,VS];exact hlb
   have L:∀x,x<=7->∀y,y<=7->(9+1)*(x-y+2)*3^y<=43740:=by decide
   have J:=fun W v u hG r s=>XV (cC (aU a) D) (cC (aU b) E) v u W hG r s Z ty 9 43740 Q P (by decide) (fun _=>L _ N _ M) (fun _=>L _ M _ N) (by unfold aJ;decide) (by omega) (by omega);have ab:Hid (∀g,pO 43740 (cC (aU a) D) (cC (aU b) E) g->GcT (aU a) (aU b) g∧aN g∧(∀n∈g,nl n.natAbs<=43740)∧g.length<=7):=fun g h=>⟨⟨D,E,o,p,h⟩,(GcT.ok ⟨D,E,o,p,h⟩ (pJ hva).2.2 (pJ hvb).2.2 z B (by rw[VS];exact hla) (by rw[VS];exact hlb)).2⟩;clear C F hva hvb o p Z ty Q P M N L z B hsa hsb;generalize cC (aU a) D=NA at *;generalize cC (aU b) E=NB at *;go_wp2_with fail;(try rw[k]);clear k;refine(J _ _ _ (hG.be d) f G).mono ?_;rintro e5 w5 ⟨v5,g,rfl,T,H,ac⟩;obtain⟨K,aj,kg,lg⟩:=ab.out g H;obtain⟨A5,c5,rfl,ai⟩:=T.form;replace d:=aC d ac;have O:=aB K;by_cases m:g.length=0
   ·have r0:((g.length:Int)==0)=true:=by rw[m];rfl
    have HM:Hid ((Q9 g).map cW=[]):=by
     have:g=[]:=bX m;rw[this];rfl
    clear m J H K;go_wp2;go_ret2;exact⟨_,_,rfl,d,(fun h=>absurd j.out h),(fun _ _=>⟨rfl,g,O.out,by rw[HM.out];exact StrsAt.nil _ _ _⟩)⟩
   ·have r0:((g.length:Int)==0)=false:=by simpa using m
    have ae:=fun W hG h=>cxC g (.slice A5 g.length c5) W hG h (fun e=>m (by rw[e];rfl)) 43740 kg (by decide) (by decide) (by omega);clear m J H K;go_wp2_with fail;refine(ae _ (hG.be d) T).mono ?_;rintro e6 w6 ⟨v6,rfl,h6,ad⟩;go_wp2;go_ret2;exact⟨_,_,rfl,aC d ad,(fun h=>absurd j.out h),(fun _ _=>⟨rfl,g,O.out,h6⟩)⟩
end
def bx7(l:List UInt8):Bool:=(cF l).isSome
def bqC(h:Digs l)(a:l.length<=9):aO l<1000000000:=by
 have b:=tI h;have c:10^l.length<=10^9:=cO (by decide) a;have d:10^9=1000000000:=rfl;omega
def dyE(h:Digs l)(k:Nat):Digs (l.take k):=fun c a=>h c (lH a)
def dyF(s:ByteArray)(w:World)(b:Digs s.data.toList)(t:s.size<=9):
  Calls prog 135 #[.string s] w fun e w'=>e= .returned (.int .i64 (aO s.data.toList:Nat))∧w=w':=by
 have u:s.data.toList.length=s.size:=by simp
 go_enter func135,ntmps135;go_wp2_with fail;go_loop [3,7] (fun v i=>∃k:Nat,k<=s.size∧i= .int .i64 k∧v= .int .i64 (aO (s.data.toList.take k):Nat)) (fun _ i=>s.size-(intOf i).toNat)
 case atStart=>exact⟨0,by omega,rfl,rfl⟩
 case round=>
  obtain⟨k,r,rfl,rfl⟩:=hrel;have p:(0:Int)<=(k:Int):=by omega
  have q:=bqC (dyE b k) (by rw[bK];omega);by_cases h:k<s.size
  ·have j:(k:Int)<(s.size:Int):=by omega
   have a:s.data.toList[k]? =some s[k]:=by rw[aR (by simpa using h)];rfl
   obtain⟨l,m⟩:=b s[k] (dG a);have n:(48:Int)<=(s[k].toNat:Int):=by omega
   have o:(s[k].toNat:Int)<=57:=by omega
   have d:aO (s.data.toList.take (k+1))=10*aO (s.data.toList.take k)+(s[k].toNat-48):=by
    rw[kR,a,azB,oK]
   have f:=aB d;clear a d;generalize aO (s.data.toList.take k)=V at *;go_wp2_with fail;go_round
   case rel=>exact⟨k+1,by omega,by simp,by rw[f.out];congr 1;omega⟩
   case measure=>simp[intOf];omega
  ·have c:k=s.size:=by omega
   have j:¬(k:Int)<(s.size:Int):=by omega
   have g:Hid (s.data.toList.take k=s.data.toList):=by unfold Hid;rw[c];exact cZ (by omega)
   clear c;go_wp2;go_ret;rw[g.out];exact⟨rfl,rfl⟩
def cyM(l:List UInt8)(w:World)(a:Digs l)(b:l.length<=9):Calls prog 135 #[.string ⟨l.toArray⟩] w fun e w'=>e= .returned (.int .i64 (aO l:Nat))∧w=w':=
 dyF ⟨l.toArray⟩ w a (by simpa [ByteArray.size] using b)
def dyG(a b:Nat)(w:World)(l:a<1000000000)(m:b<1000000000):
  Calls prog 95 #[.int .i64 a,.int .i64 b] w fun e w'=>e= .returned (.int .i64 (Nat.gcd a b:Nat))∧Below w.1.size w w':=by
 go_enter func95,ntmps95;go_wp2_with fail;go_loopw [0,1] (fun u v wr=>∃x y:Nat,u= .int .i64 x∧v= .int .i64 y∧x<1000000000∧y<1000000000∧Hid (Nat.gcd x y=Nat.gcd a b)∧Below w.1.size w wr) (fun _ v _=>(intOf v).toNat)
 case atStart=>exact⟨a,b,rfl,rfl,l,m,rfl,aG _ _⟩
 case round=>
  obtain⟨x,y,rfl,rfl,r,t,d,f⟩:=hrel;by_cases c:y=0
  ·have k:((y:Int)==0)=true:=by rw[c];rfl
   have j:Hid (x=Nat.gcd a b):=by have:=d.out;rw[c,OA] at this;exact this
   have o:(y:Int)=0:=by omega
   clear k;obtain rfl:y=0:=c;go_wp2;go_ret;rw[<-j.out];exact⟨rfl,f⟩
  ·have z:(0:Int)<(y:Int):=by omega
   have s:(0:Int)<=(x:Int):=by omega
   have q:((y:Int)==0)=false:=by simp;exact c
   have g:(x:Int)%(y:Int)=((x%y:Nat):Int):=by omega
   have i:=aB g;have p:x%y<y:=dI _ (by omega);have h:Hid (Nat.gcd y (x%y)=Nat.gcd a b):=by unfold Hid;rw[<-d.out,p3 x y,Nat.gcd_rec y x,p3]
   have n:=f.drew;clear g;go_wp2_with fail;go_region
   all_goals (
    go_wp2_with fail;go_roundw
    case rel=>exact⟨y,x%y,rfl,by rw[<-i.out],by omega,by omega,h,n⟩
    case measure=>simp[intOf];omega)
def cyN(h:iA l=some (a,n,[])):bx7 l=true:=by unfold bx7;rw[bzL h];rfl
def cyO(h:iA l=some (c,n,d))(b:d≠[]):bx7 l=decide (Nat.gcd (aO n) (aO d)=1):=by
 unfold bx7;rw[IQ h b];by_cases a:Nat.gcd (aO n) (aO d)=1
 ·rw[if_pos a,decide_eq_true a];rfl
 ·rw[if_neg a,decide_eq_false a];rfl
def C8(l:List UInt8)(n d:Int):Prop:=bx7 l=true∧∃D:Nat,d=(D:Int)∧0<D∧D<1000000000∧n.natAbs<1000000000∧cF l=some (mkRat n D)
def cyP(b:Bool)(n:Nat):(fO b n).natAbs=n:=by
 cases b
 ·exact dD n
 ·show(-(n:Int)).natAbs=n;omega
def dyH(h:iA l=some (a,n,[]))(c:aO n<1000000000):C8 l (fO a (aO n)) 1:=
 ⟨cyN h,1,rfl,by decide,by decide,by rw[cyP];exact c,by rw[bzL h,Rat.mkRat_one]⟩
def dyI{b:Bool}(h:iA l=some (b,n,d))(a:d≠[])(f:Parts b n d)(c:aO n<1000000000)(c':aO d<1000000000)(e:Nat.gcd (aO n) (aO d)=1):C8 l (fO b (aO n)) (aO d:Nat):=
 ⟨by rw[cyO h a,decide_eq_true e],aO d,rfl,aqQ (by9 f.d_digs a f.d_head),c',by rw[cyP];exact c,by rw[IQ h a,if_pos e]⟩
def bqD(l:List UInt8)(w:World)(hl:l.length<=1099511627776):
  Calls prog 94 #[.string ⟨l.toArray⟩] w fun e w'=>∃n d t,e= .returned (.tuple #[.agg #[.int .i64 n,.int .i64 d],.bool t])∧(t=true->C8 l n d)∧Below w.1.size w w':=by
 have au:(⟨l.toArray⟩:ByteArray).size=l.length:=by simp[ByteArray.size]
 have H:=fun W=>U9 l W hl;go_enter func94,ntmps94;by_cases an:l.length<=20
 ·have ac:¬(20:Int)<(l.length:Int):=by omega
  go_wp2_with fail;have R:=Bx.new w [.int .i64 0,.int .i64 0] 84;have c:Below w.1.size w (w.alloc (.cells #[.int .i64 0,.int .i64 0] 84)):=(aG _ _).alloc aE _;generalize w.alloc (.cells #[.int .i64 0,.int .i64 0] 84)=w0 at *;have ah:=R.lt;refine(H w0).mono ?_;rintro e1 m ⟨i,n,d,t,rfl,F,U,M⟩;clear H;replace R:=R.be M;replace c:=aC c M;have ai:=R.lt;have x:=R.cell 0 rfl;have y:=R.cell 1 rfl;have Z:=R.free 0;have ab:=R.free 1;have ar:(⟨n.toArray⟩:ByteArray).size=n.length:=by simp[ByteArray.size]
  have aq:(⟨d.toArray⟩:ByteArray).size=d.length:=by simp[ByteArray.size]
  cases t with
  |false=>
   clear F U;go_wp2_with fail;have a:=(R.set 0 (.int .i64 0)).set 1 (.int .i64 0);replace a:=a.alloc (.cells #[.bool i,.string ⟨n.toArray⟩,.string ⟨d.toArray⟩] 139);have f:=a.cell 0 rfl;have g:=a.cell 1 rfl;have b:=(c.setCell (p:=⟨w.1.size,0,none⟩) aE (.int .i64 0)).setCell (p:=⟨w.1.size,1,none⟩) aE (.int .i64 0);replace b:=b.alloc b.size (.cells #[.bool i,.string ⟨n.toArray⟩,.string ⟨d.toArray⟩] 139);exact aM (v:= .tuple #[.agg #[.int .i64 0,.int .i64 0],.bool false]) (by simp[results,results94,go_sem,f,g]) rfl ⟨_,_,false,rfl,(fun h=>by cases h),b⟩
  |true=>
   have G:=F rfl;obtain⟨s,hj⟩:=I1 G;have T:=s.n_digs;have N:=s.d_digs;have K:=aB G;have X:=aB s;clear F U G s hj;by_cases Q:n.length<=9
   ·by_cases B:d.length<=9
    ·have C:=fun W=>cyM n W T Q;have z:=bqC T Q;have am:(0:Int)<=(aO n:Nat):=by omega
     have S:¬(9:Int)<(n.length:Int):=by omega
     have ad:¬(9:Int)<(d.length:Int):=by omega
     cases d with
     |nil=>
      have q:Hid (C8 l (fO i (aO n)) 1):=dyH K.out z;generalize aO n=V at *;cases i with
      |false=>
       go_wp2_with (go_at_call 135;refine(C _).mono ?_;rintro A I ⟨rfl,rfl⟩);have a:=(R.set 0 (.int .i64 V)).set 1 (.int .i64 1);replace a:=a.alloc (.cells #[.bool false,.string ⟨n.toArray⟩,.string ⟨#[]⟩] 139);replace a:=a.alloc (.cells #[.int .i64 V,.int .i64 1] 84);have f:=a.cell 0 rfl;have g:=a.cell 1 rfl;have b:=(c.setCell (p:=⟨w.1.size,0,none⟩) aE (.int .i64 V)).setCell (p:=⟨w.1.size,1,none⟩) aE (.int .i64 1);replace b:=b.alloc b.size (.cells #[.bool false,.string ⟨n.toArray⟩,.string ⟨#[]⟩] 139);replace b:=b.alloc b.size (.cells #[.int .i64 V,.int .i64 1] 84);exact aM (v:= .tuple #[.agg #[.int .i64 V,.int .i64 1],.bool true]) (by simp[results,results94,go_sem,f,g]) rfl ⟨_,_,true,rfl,(fun _=>q.out),b⟩
      |true=>
       go_wp2_with (go_at_call 135;refine(C _).mono ?_;rintro A I ⟨rfl,rfl⟩);have a:=(R.set 0 (.int .i64 (-V))).set 1 (.int .i64 1);replace a:=a.alloc (.cells #[.bool true,.string ⟨n.toArray⟩,.string ⟨#[]⟩] 139);replace a:=a.alloc (.cells #[.int .i64 (-V),.int .i64 1] 84);have f:=a.cell 0 rfl;have g:=a.cell 1 rfl;have b:=(c.setCell (p:=⟨w.1.size,0,none⟩) aE (.int .i64 (-V))).setCell (p:=⟨w.1.size,1,none⟩) aE (.int .i64 1);replace b:=b.alloc b.size (.cells #[.bool true,.string ⟨n.toArray⟩,.string ⟨#[]⟩] 139);replace b:=b.alloc b.size (.cells #[.int .i64 (-V),.int .i64 1] 84);exact aM (v:= .tuple #[.agg #[.int .i64 (-V),.int .i64 1],.bool true]) (by simp[results,results94,go_sem,f,g]) rfl ⟨_,_,true,rfl,(fun _=>q.out),b⟩
     |cons k j=>
      have ae:=fun W=>cyM (k :: j) W N B;have L:=bqC N B;have q:Hid (Nat.gcd (aO n) (aO (k :: j))=1->C8 l (fO i (aO n)) (aO (k :: j):Nat)):=dyI K.out (by simp) X.out z L;have ao:¬(9:Int)<(j.length:Int)+1:=by have:=B;rw[eG] at this;omega
      have ap:(⟨(k :: j).toArray⟩:ByteArray)≠⟨#[]⟩:=fun h=>by injection h with h;simp at h
      generalize aO n=V at *;generalize aO (k :: j)=D at *;go_wp2_with (first|(go_at_call 135;(with_reducible refine(C _).mono ?_);rintro A I ⟨rfl,rfl⟩)|(go_at_call 135;(with_reducible refine(ae _).mono ?_);rintro A I ⟨rfl,rfl⟩));have Y:=(R.alloc (.cells #[.bool i,.string ⟨n.toArray⟩,.string ⟨(k :: j).toArray⟩] 139)).alloc (.cells #[.int .i64 V,.int .i64 D] 84);have u:=(Bx.new m [.bool i,.string ⟨n.toArray⟩,.string ⟨(k :: j).toArray⟩] 139).alloc (.cells #[.int .i64 V,.int .i64 D] 84);have o:=Bx.newAt (m.alloc (.cells #[.bool i,.string ⟨n.toArray⟩,.string ⟨(k :: j).toArray⟩] 139)) [.int .i64 V,.int .i64 D] 84 (m.1.size+1) (World.size_alloc _ _);replace c:=(c.alloc c.size (.cells #[.bool i,.string ⟨n.toArray⟩,.string ⟨(k :: j).toArray⟩] 139));replace c:=c.alloc c.size (.cells #[.int .i64 V,.int .i64 D] 84);refine(dyG V D _ z L).mono ?_;rintro e3 w3 ⟨rfl,r⟩;replace R:=Y.be r;replace u:=u.be r;replace o:=o.be r;replace c:=aC c r;replace x:=R.cell 0 rfl;replace y:=R.cell 1 rfl;replace Z:=R.free 0;replace ab:=R.free 1;have ag:=u.cell 0 rfl;have aj:=o.cell 0 rfl;have ak:=o.cell 1 rfl;have al:=o.free 0;have af:m.1.size+1≠w.1.size:=by omega
      by_cases E:Nat.gcd V D=1
      ·have O:(((Nat.gcd V D:Nat):Int)==1)=true:=by rw[E];rfl
       have J:Hid (C8 l (fO i V) (D:Nat)):=q.out E;have P:((Nat.gcd V D:Nat):Int)=1:=by omega
       rw[P];clear E O P;cases i with
       |false=>
        go_wp2_with fail;have a:=(R.set 0 (.int .i64 V)).set 1 (.int .i64 D);have f:=a.cell 0 rfl;have g:=a.cell 1 rfl;have b:=(c.setCell (p:=⟨w.1.size,0,none⟩) aE (.int .i64 V)).setCell (p:=⟨w.1.size,1,none⟩) aE (.int .i64 D);exact aM (v:= .tuple #[.agg #[.int .i64 V,.int .i64 D],.bool true]) (by simp[results,results94,go_sem,f,g]) rfl ⟨_,_,true,rfl,(fun _=>J.out),b⟩
       |true=>
        go_wp2_with fail;replace R:=R.far 0 (.int .i64 (-V)) af;replace c:=c.setCell (p:=⟨m.1.size+1,0,none⟩) (show w.1.size<=m.1.size+1 by omega) (.int .i64 (-V));have a:=(R.set 0 (.int .i64 (-V))).set 1 (.int .i64 D);have f:=a.cell 0 rfl;have g:=a.cell 1 rfl;have b:=(c.setCell (p:=⟨w.1.size,0,none⟩) aE (.int .i64 (-V))).setCell (p:=⟨w.1.size,1,none⟩) aE (.int .i64 D);exact aM (v:= .tuple #[.agg #[.int .i64 (-V),.int .i64 D],.bool true]) (by simp[results,results94,go_sem,f,g]) rfl ⟨_,_,true,rfl,(fun _=>J.out),b⟩
      ·have O:(((Nat.gcd V D:Nat):Int)==1)=false:=by rw[beq_eq_false_iff_ne];omega
       generalize ((Nat.gcd V D:Nat):Int)=gg at *;go_wp2_with fail;have a:=(R.set 0 (.int .i64 0)).set 1 (.int .i64 0);have f:=a.cell 0 rfl;have g:=a.cell 1 rfl;have b:=(c.setCell (p:=⟨w.1.size,0,none⟩) aE (.int .i64 0)).setCell (p:=⟨w.1.size,1,none⟩) aE (.int .i64 0);exact aM (v:= .tuple #[.agg #[.int .i64 0,.int .i64 0],.bool false]) (by simp[results,results94,go_sem,f,g]) rfl ⟨_,_,false,rfl,(fun h=>by cases h),b⟩
    ·have S:¬(9:Int)<(n.length:Int):=by omega
     have ad:(9:Int)<(d.length:Int):=by omega
     go_wp2_with fail;have a:=(R.set 0 (.int .i64 0)).set 1 (.int .i64 0);replace a:=a.alloc (.cells #[.bool i,.string ⟨n.toArray⟩,.string ⟨d.toArray⟩] 139);have f:=a.cell 0 rfl;have g:=a.cell 1 rfl;have b:=(c.setCell (p:=⟨w.1.size,0,none⟩) aE (.int .i64 0)).setCell (p:=⟨w.1.size,1,none⟩) aE (.int .i64 0);replace b:=b.alloc b.size (.cells #[.bool i,.string ⟨n.toArray⟩,.string ⟨d.toArray⟩] 139);exact aM (v:= .tuple #[.agg #[.int .i64 0,.int .i64 0],.bool false]) (by simp[results,results94,go_sem,f,g]) rfl ⟨_,_,false,rfl,(fun h=>by cases h),b⟩
   ·have S:(9:Int)<(n.length:Int):=by omega
    go_wp2_with fail;have a:=(R.set 0 (.int .i64 0)).set 1 (.int .i64 0);replace a:=a.alloc (.cells #[.bool i,.string ⟨n.toArray⟩,.string ⟨d.toArray⟩] 139);have f:=a.cell 0 rfl;have g:=a.cell 1 rfl;have b:=(c.setCell (p:=⟨w.1.size,0,none⟩) aE (.int .i64 0)).setCell (p:=⟨w.1.size,1,none⟩) aE (.int .i64 0);replace b:=b.alloc b.size (.cells #[.bool i,.string ⟨n.toArray⟩,.string ⟨d.toArray⟩] 139);exact aM (v:= .tuple #[.agg #[.int .i64 0,.int .i64 0],.bool false]) (by simp[results,results94,go_sem,f,g]) rfl ⟨_,_,false,rfl,(fun h=>by cases h),b⟩
 ·have ac:(20:Int)<(l.length:Int):=by omega
  clear H;go_wp2_with fail;have R:=Bx.new w [.int .i64 0,.int .i64 0] 84;have x:=R.cell 0 rfl;have y:=R.cell 1 rfl;have c:Below w.1.size w (w.alloc (.cells #[.int .i64 0,.int .i64 0] 84)):=(aG _ _).alloc aE _;exact aM (v:= .tuple #[.agg #[.int .i64 0,.int .i64 0],.bool false]) (by simp[results,results94,go_sem,x,y]) rfl ⟨_,_,false,rfl,(fun h=>by cases h),c⟩
def cyL(h:Digs n):nl (aO n)<=n.length:=by
 refine cJ (aZ (tI h) (azQ (by decide) _))
def dyD(l:List UInt8)(w:World)(t:Glob w)(hl:l.length<=1073741824):
  Calls prog 48 #[.string ⟨l.toArray⟩] w fun e w'=>e= .returned (.bool (rd l))∧Below w.1.size w w':=by
 go_enter func48,ntmps48;go_wp2_with fail;refine(bqD l w (by omega)).mono ?_;rintro s w1 ⟨x,y,H,rfl,q,a⟩;cases H with
 |true=>
  have o:Hid (rd l=true):=(q rfl).1;clear q;go_wp2;go_ret;rw[o.out];exact⟨rfl,a.alloc a.size _⟩
 |false=>
  clear q;go_wp2_with fail;replace a:=a.alloc a.size (.cells #[.int .i64 x,.int .i64 y] 84);generalize w1.alloc (.cells #[.int .i64 x,.int .i64 y] 84)=w2 at *;refine(U9 l w2 (by omega)).mono ?_;rintro e3 I ⟨G,n,d,H,rfl,q,D,ag⟩;replace a:=aC a ag;cases H with
  |false=>
   have o:Hid (rd l=false):=by unfold Hid rd;rw[TW (D rfl)];rfl
   clear q D;go_wp2;go_ret;rw[o.out];exact⟨rfl,a.alloc a.size _⟩
  |true=>
   have r:=q rfl;obtain⟨E,X⟩:=I1 r;have C:=E.n_digs;have z:=E.d_digs;obtain⟨ln,ld⟩:=cx6 X;clear q D E X;cases d with
   |nil=>
    have o:Hid (rd l=true):=cyN r;clear r;go_wp2;go_ret;rw[o.out];exact⟨rfl,a.alloc a.size _⟩
   |cons b c=>
    have o:Hid (rd l=decide (Nat.gcd (aO n) (aO (b :: c))=1)):=cyO r (by simp);have aj:(⟨(b :: c).toArray⟩:ByteArray)≠⟨#[]⟩:=fun h=>by injection h with h;simp at h
    have L:=aH (cyL C) ln;have bd:=aH (cyL z) ld;have Y:=fun W=>FE ⟨n.toArray⟩ W (by simpa using C) (by simp[ByteArray.size];omega);have Z:=fun W=>FE ⟨(b :: c).toArray⟩ W (by simpa using z) (by show(b :: c).toArray.size<=_;rw[bxL];omega);have A:=fun W v u t h1 h2=>qF ((aO n:Nat):Int) ((aO (b :: c):Nat):Int) v u W t h1 h2 1073741824 (by rw[dD];omega) (by rw[dD];omega) (by unfold aJ;omega);simp only[dD] at A;have K:nl (Nat.gcd (aO n) (aO (b :: c)))<=17592186044416:=by
     rcases iB (aO n) with O|O
     ·rw[O,Nat.gcd_zero_left];omega
     ·exact aH (wQ _ _ _ (by omega) L) (by omega)
    have B:=fun W v h=>n6 ((Nat.gcd (aO n) (aO (b :: c)):Nat):Int) v W h (by rw[dD];exact K);have U:decide (((Nat.gcd (aO n) (aO (b :: c)):Nat):Int)=1)=rd l:=by rw[o.out];exact decide_eq_decide.2 ⟨fun h=>by omega,fun h=>by omega⟩
    rw[U] at B;have s:(⟨n.toArray⟩:ByteArray).data.toList=n:=rfl;have M:(⟨(b :: c).toArray⟩:ByteArray).data.toList=b :: c:=rfl;rw[s] at Y;rw[M] at Z;obtain⟨N,V⟩:∃N,N=Nat.gcd (aO n) (aO (b :: c)):=⟨_,rfl⟩;rw[<-V] at A B;clear r C z ln ld L bd s M U o K V;go_wp2_with fail;have F:=Bx.new I [.bool G,.string ⟨n.toArray⟩,.string ⟨(b :: c).toArray⟩] 139;replace a:=a.alloc a.size (.cells #[.bool G,.string ⟨n.toArray⟩,.string ⟨(b :: c).toArray⟩] 139);have af:=t.be a;generalize hf:I.1.size=f at *;generalize I.alloc (.cells #[.bool G,.string ⟨n.toArray⟩,.string ⟨(b :: c).toArray⟩] 139)=g at *;clear hf;have ah:=F.cell 1 rfl;have ai:=F.cell 2 rfl;have J:=F.lt;have KS:=aB (show∀w',Below g.1.size g w'->(w'.cell? ⟨f,1,none⟩=some (.string ⟨n.toArray⟩)∧w'.cell? ⟨f,2,none⟩=some (.string ⟨(b :: c).toArray⟩)) from fun w' S=>⟨(S.cell (p:=⟨f,1,none⟩) J).trans (F.cell 1 rfl),(S.cell (p:=⟨f,2,none⟩) J).trans (F.cell 2 rfl)⟩)
    go_region_held3 (fun w'=>w'.cell? ⟨f,1,none⟩=some (.string ⟨n.toArray⟩)∧w'.cell? ⟨f,2,none⟩=some (.string ⟨(b :: c).toArray⟩))
     (exact KS.out _ (by with_reducible (repeat (first|exact aG _ _|refine ua ?_|refine ud ?_|refine ut ?_ i|refine ut ?_ j|refine ut ?_ k|refine ut ?_ m|refine us ?_ (by omega)))))
     (first
      |(go_at_call 102;(with_reducible refine(Y _).mono ?_);rintro e5 w5 ⟨v5,rfl,P,i⟩;have l5:=i.size;(try simp at l5);have ab:Below g.1.size g w5:=(by with_reducible (repeat (first|exact aG _ _|refine ua ?_|refine ud ?_|refine ut ?_ i|refine ut ?_ j|refine ut ?_ k|refine ut ?_ m|refine us ?_ (by omega))));have ak:=ab.size;obtain⟨s5,A5,k5,c5,rfl⟩:=P.form)
      |(go_at_call 102;(with_reducible refine(Z _).mono ?_);rintro e6 w6 ⟨v6,rfl,Q,j⟩;have l6:=j.size;(try simp at l6);have ac:Below g.1.size g w6:=(by with_reducible (repeat (first|exact aG _ _|refine ua ?_|refine ud ?_|refine ut ?_ i|refine ut ?_ j|refine ut ?_ k|refine ut ?_ m|refine us ?_ (by omega))));have al:=ac.size;obtain⟨s6,A6,k6,c6,rfl⟩:=Q.form)
      |(go_at_call 77;(with_reducible refine(A _ _ _ (af.be (by with_reducible (repeat (first|exact aG _ _|refine ua ?_|refine ud ?_|refine ut ?_ i|refine ut ?_ j|refine ut ?_ k|refine ut ?_ m|refine us ?_ (by omega))))) (P.be (by with_reducible (repeat (first|exact aG _ _|refine ua ?_|refine ud ?_|refine ut ?_ i|refine ut ?_ j|refine ut ?_ k|refine ut ?_ m|refine us ?_ (by omega))))) (Q.be (by with_reducible (repeat (first|exact aG _ _|refine ua ?_|refine ud ?_|refine ut ?_ i|refine ut ?_ j|refine ut ?_ k|refine ut ?_ m|refine us ?_ (by omega)))))).mono ?_);rintro e7 w7 ⟨v7,rfl,R,k⟩;have l7:=k.size;(try simp at l7);have ad:Below g.1.size g w7:=(by with_reducible (repeat (first|exact aG _ _|refine ua ?_|refine ud ?_|refine ut ?_ i|refine ut ?_ j|refine ut ?_ k|refine ut ?_ m|refine us ?_ (by omega))));have am:=ad.size;obtain⟨s7,A7,k7,c7,rfl⟩:=R.form)
      |(go_at_call 76;(with_reducible refine(B _ _ (R.be (by with_reducible (repeat (first|exact aG _ _|refine ua ?_|refine ud ?_|refine ut ?_ i|refine ut ?_ j|refine ut ?_ k|refine ut ?_ m|refine us ?_ (by omega)))))).mono ?_);rintro e8 w8 ⟨rfl,m⟩;have l8:=m.size;(try simp at l8);have ae:Below g.1.size g w8:=(by with_reducible (repeat (first|exact aG _ _|refine ua ?_|refine ud ?_|refine ut ?_ i|refine ut ?_ j|refine ut ?_ k|refine ut ?_ m|refine us ?_ (by omega))));have an:=ae.size;have T:Below g.1.size g w8:=(by with_reducible (repeat (first|exact aG _ _|refine ua ?_|refine ud ?_|refine ut ?_ i|refine ut ?_ j|refine ut ?_ k|refine ut ?_ m|refine us ?_ (by omega))));have Z8:=F.be T;skip))
    all_goals (
     go_wp2;go_ret;exact⟨rfl,aC a T⟩)
def dy9{q:Rat}(h:cW q=[48]):q=0:=by
 have a:=SU q;rw[h,show cF [48]=some 0 from by decide] at a;injection a with a;exact a.symm
def bqB:cW 0=[48]:=by
 have:cW 0=[]++Lib.decDigits 0++[]:=rfl;rw[this,BM];rfl
def dyA(q:Rat):∃c r,cW q=c :: r∧(c=45↔q.num<0):=by
 unfold cW;by_cases h:q.num<0
 ·rw[if_pos h];exact⟨45,_,rfl,fun _=>h,fun _=>rfl⟩
 ·rw[if_neg h];cases hd:Lib.decDigits q.num.natAbs with
  |nil=>exact absurd hd (tK _)
  |cons c r=>
   refine⟨c,_,rfl,fun e=> ?_,fun k=>absurd k h⟩;have:=oL q.num.natAbs c (by rw[hd];exact iC);rw[e] at this;exact absurd this.1 (by decide)
def dyB(q:Rat):q≠0->cW (-q)=(if q.num<0 then (cW q).drop 1 else 45 :: cW q):=fun h=>by
 have a:q.num≠0:=fun e=>h (Rat.num_eq_zero.1 e);unfold cW;rw[Rat.neg_num,Rat.neg_den,B4];by_cases k:q.num<0
 ·rw[if_pos k,if_pos k,if_neg (by omega)];rfl
 ·rw[if_neg k,if_neg k,if_pos (by omega)];rfl
def dyC(t:List UInt8)(w:World)(g:Glob w)(p:t.length<=1073741824):
  Calls prog 15 #[.string ⟨t.toArray⟩] w fun e w'=>e= .returned (.string ⟨(cW (-((cF t).getD 0))).toArray⟩)∧Below w.1.size w w':=by
 have f:=fun W g=>dyD t W g p;obtain⟨T,a⟩:∃T,cW (-((cF t).getD 0))=T:=⟨_,rfl⟩;rw[a];have j:cW (-(0:Rat))=[48]:=bqB;by_cases b:t=[48]
 ·subst b;obtain rfl:T=[48]:=by rw[<-a];exact j
  clear f a;go_enter func15,ntmps15;go_wp2;go_ret;exact⟨rfl,aG _ _⟩
 ·have B:(t==[48])=false:=by simpa using b
  cases hr:cF t with
  |none=>
   have d:rd t=false:=by unfold rd;rw[hr];rfl
   obtain rfl:T=[48]:=by rw[<-a,hr];exact j
   rw[d] at f;clear a hr d b j;go_enter func15,ntmps15;go_wp2_with fail;refine(f _ g).mono ?_;rintro o u ⟨rfl,i⟩;go_wp2;go_ret;exact⟨rfl,i⟩
  |some q=>
   have d:rd t=true:=by unfold rd;rw[hr];rfl
   have m:=tL hr;obtain⟨c,r,e,l⟩:=dyA q;have n:q≠0:=fun k=>b (by rw[<-m,k];exact bqB);have hn:=dyB q n;rw[m] at e hn;rw[hr] at a;rw[show(some q).getD 0=q from rfl,hn] at a;rw[d] at f;subst e;have y:∀h:0<(⟨(c :: r).toArray⟩:ByteArray).size,(⟨(c :: r).toArray⟩:ByteArray)[0]'h=c:=fun _=>rfl;by_cases k:c=45
   ·subst k;rw[if_pos (l.1 rfl)] at a;obtain rfl:r=T:=a;have s:(⟨(45 :: r).toArray⟩:ByteArray).size=r.length+1:=by simp[ByteArray.size]
    have v:(⟨(45 :: r).toArray⟩:ByteArray).extract 1 (⟨(45 :: r).toArray⟩:ByteArray).size=⟨r.toArray⟩:=rX (by rw[mP,s];simp);rw[s] at v;clear hn hr d b m l n j;go_enter func15,ntmps15;go_wp2_with fail;refine(f _ g).mono ?_;rintro o u ⟨rfl,i⟩;go_wp2;go_ret;exact⟨rfl,i⟩
   ·rw[if_neg (fun h=>k (l.2 h))] at a;subst a;have A:((c.toNat:Int)==45)=false:=by
     rw[beq_eq_false_iff_ne];intro e;exact k (UInt8.toNat_inj.1 (show c.toNat=(45:UInt8).toNat by show c.toNat=45;omega))
    have z:¬9223372036854775807<1+(r.length+1):=by rw[eG] at p;omega
    have x:(⟨#[45]⟩:ByteArray)++(⟨(c :: r).toArray⟩:ByteArray)=⟨(45 :: c :: r).toArray⟩:=rX (by simp);clear hn hr d b m l n j k;go_enter func15,ntmps15;go_wp2_with fail;refine(f _ g).mono ?_;rintro o u ⟨rfl,i⟩;go_wp2;go_ret;exact⟨rfl,i⟩
def dyP(f:Value)(i:Int)(w:World)(b:Value->World->Prop)(G: -9223372036854775808<i)(H:i<=9223372036854775807)(k:Glob w)(a:0<=i->Apps w f (Lib.decDigits i.natAbs) b)
  (hn:i<0->Apps w f [45] (fun g w1=>Glob w1∧Apps w1 g (Lib.decDigits i.natAbs) b)):
  Calls prog 97 #[f,.int .i64 i,.int .i64 10] w fun e w'=>∃c,e= .returned c∧b c w':=by
 have B:i.natAbs<BN:=by unfold BN;omega
 have d:∀W v,Glob W->Apps W v (Lib.decDigits i.natAbs) b->Calls prog 166 #[v,.int .u64 i.natAbs,.int .i64 10] W fun e w'=>∃c,e= .returned c∧b c w':=fun W v k h=>by
  by_cases D:i.natAbs<100
  ·exact TU v i.natAbs W b D h
  ·exact TV v i.natAbs W b (by omega) B k h
 have y:Calls prog 137 #[f,.int .i64 i,.int .i64 10] w fun e w'=>∃c,e= .returned c∧b c w':=by
  by_cases z:i<0
  ·have o:IntKind.u64.wrap i=i+18446744073709551616:=by rw[IntKind.wrap_u64];omega
   have F:IntKind.u64.wrap (-(i+18446744073709551616))=(i.natAbs:Int):=by rw[IntKind.wrap_u64];omega
   have p:Below w.1.size w (w.alloc (.cells #[.int .u8 45] 5)):=(aG _ _).alloc aE _
   obtain⟨g,w1,r,C⟩:=(hn z).2 (w.alloc (.cells #[.int .u8 45] 5)) ⟨w.1.size,0,none⟩ 1 p (fun j u m=>by
    have A:j=0:=by
     have:=(List.getElem?_eq_some_iff.1 m).1;simp[Lib.byteCells] at this;omega
    subst A;simp[Lib.byteCells] at m;subst m;exact(Bx.new w [.int .u8 45] 5).cell 0 rfl)
   obtain⟨x,q⟩:=C;have s:=aB r;have l:=d _ _ x q;clear r hn a p d q;generalize (i.natAbs:Int)=u at *;go_enter func137,ntmps137;go_wp2_with (at_builtin;refine IL rfl rfl rfl rfl rfl s.out ?_);refine l.mono ?_;rintro t E ⟨n,rfl,a⟩;go_wp2;go_ret;exact⟨n,rfl,a⟩
  ·have o:IntKind.u64.wrap i=(i.natAbs:Int):=by rw[IntKind.wrap_u64];omega
   have l:=d _ _ k (a (by omega));clear hn a d;generalize (i.natAbs:Int)=u at *;go_enter func137,ntmps137;go_wp2_with fail;refine l.mono ?_;rintro t E ⟨n,rfl,a⟩;go_wp2;go_ret;exact⟨n,rfl,a⟩
 clear hn a d;go_enter func97,ntmps97;go_wp2_with fail;refine y.mono ?_;rintro o w1 ⟨g,rfl,a⟩;go_wp2;go_ret;exact⟨g,rfl,a⟩
def BufAt(a w:World)(b:Nat)(bs:List UInt8):Prop:=Shape w b 132 48∧VC w b 0 (Lib.byteCells bs)∧Below a.1.size a w∧a.1.size<=b
def BufAt.be{c w w':World}(h:BufAt c w b bs)(a:Below w.1.size w w'):BufAt c w' b bs:=⟨h.1.be a h.1.lt,h.2.1.be a h.1.lt,h.2.2.1.trans (a.mono h.2.2.1.size),h.2.2.2⟩
def BufAt.apps{q w:World}(h:BufAt q w b bs)(C:bs.length+l.length<=48):
  Apps w (.slice (some ⟨b,0,none⟩) bs.length 48) l (fun A w'=>A= .slice (some ⟨b,0,none⟩) (bs++l).length 48∧BufAt q w' b (bs++l)):=by
 refine cx5 _ _ _ _ ?_;intro f z x r t;obtain⟨i,s,D,m,B⟩:=info_parts nF;obtain⟨d,u,a,y⟩:=h.be r
 have p:=run_append_room_src (P:=prog) f 109 z 109 5 i underlying109 s b 0 bs.length 48 x l.length (Lib.byteCells l) (by rw[m];exact t) (by omega)
  (fun j g=>by rw[Lib.byteCells_length] at g;rw[m,o9,bA];exact d.isSome (by omega)) (fun j _=>d.soft.free _)
 rw[m,o9,bA] at p;refine⟨_,_,p,by rw[bG],Shape.setCells b _ _ f d,?_,?_,y⟩
 ·intro j v hv;rw[IF] at hv;rcases dE j (Lib.byteCells bs).length with k|k
  ·rw[gA k] at hv;rw[bA,World.cell?_setCells_out b _ _ _ _ (fun _ _=> .inl (by rw[Lib.byteCells_length] at k;exact k))];have:=u j v hv;rwa [bA] at this
  ·rw[fK k] at hv;have n:=(List.getElem?_eq_some_iff.1 hv).1;rw[Lib.byteCells_length] at k hv n;have:=World.cell?_setCells_in b (Lib.byteCells l) bs.length f (fun j g=>by rw[Lib.byteCells_length] at g;exact d.isSome (by omega)) (j-bs.length) n;rw[show bs.length+(j-bs.length)=0+j by omega] at this;rw[this,<-hv,aR n]
 ·have c:=II b (Lib.byteCells l) bs.length f;exact⟨c.os.trans a.os,c.tape.trans a.tape,c.output.trans a.output,aH a.size c.size,fun k o=>(c.block k (aZ o a.size) (fun e=>by injection e with e;omega)).trans (a.block k o)⟩
end Go.Proofs.YtpgmdhonnpakeaaGreatDoor
namespace Go.Proofs.YtpgmdhonnpakeaaGreatDoor
open Sos
end Go.Proofs.YtpgmdhonnpakeaaGreatDoor
namespace Go.Proofs.YtpgmdhonnpakeaaGreatDoor
open Go.RowKit Sos Go.Proofs.Tryz
variable{W w:World}{b:Nat}{A B C:List Rat}{g i j:Value}{a bs l:List UInt8}{d n:Int}
def cyT(l:List UInt8)(w:World)(g:Glob w)(u:l.length<=1073741824):Calls prog 46 #[.string ⟨l.toArray⟩] w (iF w ((cF l).getD 0)):=by
 have q:=fun W g=>wU l W g u;unfold IP at q;generalize (cF l).getD 0=x at *;generalize (cF l).isSome=D at *;obtain⟨W,o,a,R⟩:=bI w [.bool false,.slice none 0 0,.bool false,.slice none 0 0] 57;have r:=R.g4;go_enter func46,ntmps46;go_wp2_with fail;(try rw[o]);clear o;refine(q _ (g.be a)).mono ?_;rintro A y ⟨E,rfl,b,p⟩;obtain⟨k,c,i,e,m,d,j,f,rfl⟩:=b.form;replace R:=R.be p;replace a:=aC a p;have C:=R.lt;obtain⟨F,n,h,P⟩:=bI y [.bool k,.slice c i e,.bool m,.slice d j f] 57;replace b:=b.be h;replace R:=R.be h;replace a:=aC a h;have r:=aa R.g4 P.k4;go_wp2_with fail;(try rw[n]);(try clear n);obtain⟨z,s,R,a,t,B⟩:=R.put4 a (by omega) (.bool k) (.slice c i e) (.bool m) (.slice d j f) rfl rfl;rw[s];exact aM (v:= .agg #[.bool k,.slice c i e,.bool m,.slice d j f]) (by simp[results,results46,go_sem,R.k4]) rfl ⟨_,rfl,b.ke t,a⟩
def Bx.putB2{B:Nat}{cs:List Value}{t:TypeId}(h:Bx W b cs t)(l:Below B w W)(e:B<=b)(a c:Value)(m:cs=[i,j]):
  ∃d,(W.setCell ⟨b,0,none⟩ a).setCell ⟨b,1,none⟩ c=d∧Bx d b [a,c] t∧Below B w d∧∀{g:Nat} {cs:List Value} {t:TypeId},Bx W g cs t->b≠g->Bx d g cs t:=by
 subst m;exact⟨_,rfl,(h.set 0 a).set 1 c,(l.setCell (p:=⟨b,0,none⟩) e a).setCell (p:=⟨b,1,none⟩) e c,fun k f=>(k.far 0 a f).far 1 c f⟩
def dyQ(a b:List UInt8)(w:World)(M:a.length<=1099511627776)(N:b.length<=1099511627776):
  Calls prog 44 #[.string ⟨a.toArray⟩,.string ⟨b.toArray⟩] w fun e w'=>∃n d m f J,e= .returned (.tuple #[.agg #[.int .i64 n,.int .i64 d],.agg #[.int .i64 m,.int .i64 f],.bool J])∧(J=true->C8 a n d∧C8 b m f)∧Below w.1.size w w':=by
 have I:=fun W=>bqD a W M;have z:=fun W=>bqD b W N;obtain⟨W,H,c,R,S⟩:=D8 w [.int .i64 0,.int .i64 0] 84 [.int .i64 0,.int .i64 0] 84;have G:=aa R.g2 S.g2;go_enter func44,ntmps44;go_wp2_with fail;(try rw[H]);clear H;refine(I _).mono ?_;rintro Q s ⟨n,d,O,rfl,C,A⟩;have V:=S.lt;have ab:=A.size;obtain⟨w2,i,K,X⟩:=bI s [.int .i64 n,.int .i64 d] 84;have y:=aC A K;replace R:=R.be y;replace S:=S.be y;replace c:=aC c y;have U:=R.lt;have Z:=S.lt;have G:=aa R.g2 (aa S.g2 X.k2);clear I;cases O with
 |false=>
  clear C z;go_wp2_with fail;all_goals (try rw[i])
  obtain⟨u,j,R,c,g⟩:=R.putB2 c (by omega) (.int .i64 0) (.int .i64 0) rfl;replace S:=g S (by omega);rw[j];obtain⟨x,k,S,c,g⟩:=S.putB2 c (by omega) (.int .i64 0) (.int .i64 0) rfl;replace R:=g R (by omega);rw[k];exact aM (v:= .tuple #[.agg #[.int .i64 0,.int .i64 0],.agg #[.int .i64 0,.int .i64 0],.bool false]) (by simp[results,results44,go_sem,R.k2,S.k2]) rfl ⟨_,_,_,_,false,rfl,(fun h=>by cases h),c⟩
 |true=>
  have E:Hid (C8 a n d):=C rfl;clear C;go_wp2_with fail;(try rw[i]);(try clear i);refine(z _).mono ?_;rintro T t ⟨m,f,P,rfl,D,B⟩;have ad:=X.lt;have ac:=B.size;obtain⟨w4,i,L,Y⟩:=bI t [.int .i64 m,.int .i64 f] 84;have r:=aC B L;replace R:=R.be r;replace S:=S.be r;replace X:=X.be r;replace c:=aC c r;have G:=aa R.g2 (aa S.g2 (aa X.k2 Y.k2));clear z;cases P with
  |false=>
   clear D;go_wp2_with fail;all_goals (try rw[i])
   obtain⟨u,j,R,c,g⟩:=R.putB2 c (by omega) (.int .i64 0) (.int .i64 0) rfl;replace S:=g S (by omega);rw[j];obtain⟨x,k,S,c,g⟩:=S.putB2 c (by omega) (.int .i64 0) (.int .i64 0) rfl;replace R:=g R (by omega);rw[k];exact aM (v:= .tuple #[.agg #[.int .i64 0,.int .i64 0],.agg #[.int .i64 0,.int .i64 0],.bool false]) (by simp[results,results44,go_sem,R.k2,S.k2]) rfl ⟨_,_,_,_,false,rfl,(fun h=>by cases h),c⟩
  |true=>
   have F:Hid (C8 b m f):=D rfl;clear D;go_wp2_with fail;(try rw[i]);(try clear i);have l:w.1.size≠s.1.size:=by omega
   have o:w.1.size≠t.1.size:=by omega
   have p:w.1.size+1≠s.1.size:=by omega
   have q:w.1.size+1≠t.1.size:=by omega
   go_region_held3 (fun w'=>C2 w' s.1.size (.int .i64 n) (.int .i64 d)∧C2 w' t.1.size (.int .i64 m) (.int .i64 f))
    (first
     |(with_reducible exact⟨X.up.k2,Y.up.k2⟩)
     |(with_reducible exact⟨((X.far 0 _ l).far 1 _ l).drew.k2,((Y.far 0 _ o).far 1 _ o).drew.k2⟩)
     |(with_reducible exact⟨((X.far 0 _ p).far 1 _ p).drew.k2,((Y.far 0 _ q).far 1 _ q).drew.k2⟩)
     |(with_reducible exact⟨((((X.far 0 _ l).far 1 _ l).far 0 _ p).far 1 _ p).drew.k2,((((Y.far 0 _ o).far 1 _ o).far 0 _ q).far 1 _ q).drew.k2⟩)
     |(with_reducible exact⟨((((X.far 0 _ p).far 1 _ p).far 0 _ l).far 1 _ l).drew.k2,((((Y.far 0 _ q).far 1 _ q).far 0 _ o).far 1 _ o).drew.k2⟩))
    (fail)
   all_goals (
    go_wp2_with fail
    first
     |(obtain⟨u,j,R,c,g⟩:=R.putB2 c (by omega) (.int .i64 n) (.int .i64 d) rfl
       replace S:=g S (by omega)
       rw[j]
       obtain⟨x,k,S,c,g⟩:=S.putB2 c (by omega) (.int .i64 m) (.int .i64 f) rfl
       replace R:=g R (by omega)
       rw[k]
       exact aM (v:= .tuple #[.agg #[.int .i64 n,.int .i64 d],.agg #[.int .i64 m,.int .i64 f],.bool true]) (by simp[results,results44,go_sem,R.k2,S.k2]) rfl ⟨_,_,_,_,true,rfl,(fun _=>⟨E.out,F.out⟩),c.drew⟩)
     |(obtain⟨u,j,S,c,g⟩:=S.putB2 c (by omega) (.int .i64 m) (.int .i64 f) rfl
       replace R:=g R (by omega)
       rw[j]
       obtain⟨x,k,R,c,g⟩:=R.putB2 c (by omega) (.int .i64 n) (.int .i64 d) rfl
       replace S:=g S (by omega)
       rw[k]
       exact aM (v:= .tuple #[.agg #[.int .i64 n,.int .i64 d],.agg #[.int .i64 m,.int .i64 f],.bool true]) (by simp[results,results44,go_sem,R.k2,S.k2]) rfl ⟨_,_,_,_,true,rfl,(fun _=>⟨E.out,F.out⟩),c.drew⟩))
def dyL(a b:Nat)(w:World)(l:a<4611686018427387904)(m:b<4611686018427387904):
  Calls prog 95 #[.int .i64 a,.int .i64 b] w fun e w'=>e= .returned (.int .i64 (Nat.gcd a b:Nat))∧Below w.1.size w w':=by
 go_enter func95,ntmps95;go_wp2_with fail;go_loopw [0,1] (fun u v wr=>∃x y:Nat,u= .int .i64 x∧v= .int .i64 y∧x<4611686018427387904∧y<4611686018427387904∧Hid (Nat.gcd x y=Nat.gcd a b)∧Below w.1.size w wr) (fun _ v _=>(intOf v).toNat)
 case atStart=>exact⟨a,b,rfl,rfl,l,m,rfl,aG _ _⟩
 case round=>
  obtain⟨x,y,rfl,rfl,q,s,d,f⟩:=hrel;by_cases c:y=0
  ·have k:((y:Int)==0)=true:=by rw[c];rfl
   have j:Hid (x=Nat.gcd a b):=by have:=d.out;rw[c,OA] at this;exact this
   clear k;obtain rfl:y=0:=c;go_wp2;go_ret;rw[<-j.out];exact⟨rfl,f⟩
  ·have t:(0:Int)<(y:Int):=by omega
   have r:(0:Int)<=(x:Int):=by omega
   have p:((y:Int)==0)=false:=by simp;exact c
   have g:(x:Int)%(y:Int)=((x%y:Nat):Int):=by omega
   have i:=aB g;have o:x%y<y:=dI _ (by omega);have h:Hid (Nat.gcd y (x%y)=Nat.gcd a b):=by unfold Hid;rw[<-d.out,p3 x y,Nat.gcd_rec y x,p3]
   have n:=f.drew;clear g;go_wp2_with fail;go_region
   all_goals (
    go_wp2_with fail;go_roundw
    case rel=>exact⟨y,x%y,rfl,by rw[<-i.out],by omega,by omega,h,n⟩
    case measure=>simp[intOf];omega)
def cyR(m:Int)(w:World)(d:Glob w)(b: -9223372036854775808<=m)(c:m<=9223372036854775807):Calls prog 96 #[.int .i64 m,.int .i64 10] w fun e w'=>e= .returned (.string ⟨(iP m).toArray⟩)∧Below w.1.size w w':=by
 have a:=Tryz.strconv_FormatInt_10 m b c w d.pow;rw[SW] at a;refine a.mono ?_;rintro e h ⟨rfl,k,g,f⟩;exact⟨rfl,by rw[f];exact Lib.below_grow w.1.size w aE k g⟩
def dyM(q:Rat):(q.den=1->cW q=iP q.num)∧(q.den≠1->cW q=iP q.num++47 :: Lib.decDigits q.den):=by
 constructor
 ·intro h;unfold cW iP;rw[if_pos h,fH]
 ·intro h;unfold cW iP;rw[if_neg h]
def Apps.mono{P Q:Value->World->Prop}(h:Apps w g l P)(k:∀v w',P v w'->Q v w'):Apps w g l Q:=
 ⟨fun f e=>let ⟨v,w',b,d⟩:=h.1 f e;⟨v,w',b,k v w' d⟩,fun f a c e i=>let ⟨v,w',b,d⟩:=h.2 f a c e i;⟨v,w',b,k v w' d⟩⟩
def cyS{d:World}(h:BufAt d w b bs)(g:Glob d)(m:Int)(k: -9223372036854775808<m)(a:m<=9223372036854775807)(f:bs.length+(iP m).length<=48):
  Calls prog 97 #[.slice (some ⟨b,0,none⟩) bs.length 48,.int .i64 m,.int .i64 10] w fun e w'=>e= .returned (.slice (some ⟨b,0,none⟩) (bs++iP m).length 48)∧BufAt d w' b (bs++iP m):=by
 refine(dyP _ m w (fun j w'=>j= .slice (some ⟨b,0,none⟩) (bs++iP m).length 48∧BufAt d w' b (bs++iP m)) k a (g.be h.2.2.1) (fun i=> ?_) (fun i=> ?_)).mono (fun e w' ⟨j,a,c,n⟩=>⟨by rw[a,c],n⟩)
 ·have e:iP m=Lib.decDigits m.natAbs:=by unfold iP;rw[if_neg (by omega)];rfl
  rw[e] at f⊢;exact h.apps f
 ·have e:iP m=[45]++Lib.decDigits m.natAbs:=by unfold iP;rw[if_pos i]
  rw[e,bG] at f;rw[e,<-eK];refine(h.apps (l:=[45]) (by omega)).mono (fun o p a=> ?_);obtain⟨rfl,c⟩:=a;exact⟨g.be c.2.2.1,c.apps (by rw[bG];omega)⟩
def dyN{c:World}(h:BufAt c w b bs):(convert 109 9 (.slice (some ⟨b,0,none⟩) bs.length 48)).run prog w= .ok (.string ⟨bs.toArray⟩) w:=
 run_convert_bytes_back (P:=prog) w 109 9 5 ⟨b,0,none⟩ 48 bs underlying109 underlying5 underlying9 (fun j a=>by
  have:=h.2.1 j (.int .u8 (bs[j].toNat:Int)) (by simp[Lib.byteCells,a]);rw[Lib.add_plain];exact this)
def dyO(n:Int)(d:Nat)(w:World)(a:Glob w)(S:0<d)(hn:n.natAbs<4611686018427387904)(af:d<4611686018427387904):
  Calls prog 45 #[.int .i64 n,.int .i64 d] w fun e w'=>e= .returned (.string ⟨(cW ((n:Rat)/((d:Int):Rat))).toArray⟩)∧Below w.1.size w w':=by
 obtain⟨z,A⟩:=F4 (n:=n) (d:=(d:Int)) (by omega);rw[dD] at z A;obtain⟨t1,t2⟩:=dyM ((n:Rat)/((d:Int):Rat));generalize (n:Rat)/((d:Int):Rat)=q at *;obtain⟨g,f⟩:∃g,g=Nat.gcd n.natAbs d:=⟨_,rfl⟩;rw[<-f] at z A;have ah:0<g:=by rw[f];exact Nat.gcd_pos_of_pos_right _ S
 have ai:g<=d:=by rw[f];exact aq6 S (TT _ _)
 have t:(d:Int).tdiv (g:Int)=((d/g:Nat):Int):=by rw[Int.tdiv_eq_ediv_of_nonneg (by omega)];rfl
 have U:q.den=d/g:=by rw[t] at A;omega
 have F:d/g<=d:=pQ _ _;have I:(n.tdiv g).natAbs<=n.natAbs:=by rw[Int.natAbs_tdiv,dD];exact pQ _ _
 have ag:¬(d:Int)<0:=by omega
 have J:IntKind.i64.wrap (-n)= -n:=IntWalk.i64_in _ ⟨by omega,by omega⟩;have Q:Hid ((⟨(cW q).toArray⟩:ByteArray)=⟨(if q.den=1 then iP q.num else iP q.num++47 :: Lib.decDigits q.den).toArray⟩):=by
  unfold Hid;by_cases h:q.den=1
  ·rw[if_pos h,t1 h]
  ·rw[if_neg h,t2 h]
 rw[Q.out];rw[U,z];clear Q t1 t2 z A U;by_cases K:d=1
 ·subst K;obtain rfl:g=1:=by omega
  have x:=fun W a=>cyR n W a (by omega) (by omega);have s:n.tdiv ((1:Nat):Int)=n:=Int.tdiv_one n;rw[if_pos rfl,s];clear f s I t F J ag;go_enter func45,ntmps45;go_wp2_with fail;refine(x _ a).mono ?_;rintro s k ⟨rfl,b⟩;go_wp2;go_ret;exact⟨rfl,b⟩
 ·have al:((d:Int)==1)=false:=beq_eq_false_iff_ne.2 (by omega);have am:((d:Int) != 1)=true:=by simp;omega
  have V:max n (-n)=(n.natAbs:Int):=by omega
  have y:=fun W=>dyL n.natAbs d W hn af;rw[<-f] at y;have an:((g:Int)==0)=false:=beq_eq_false_iff_ne.2 (by omega);have ao:¬(g:Int)=0:=by omega
  obtain⟨m,hm⟩:∃m,n.tdiv (g:Int)=m:=⟨_,rfl⟩;obtain⟨D,C⟩:∃D,d/g=D:=⟨_,rfl⟩;have Z:IntKind.i64.wrap m=m:=IntWalk.i64_in _ ⟨by omega,by omega⟩;have Y:IntKind.i64.wrap (D:Int)=(D:Int):=IntWalk.i64_in _ ⟨by omega,by omega⟩;rw[hm] at I⊢;rw[C] at t F⊢;have ab:0<D:=by rw[<-C];exact Nat.div_pos ai ah
  have x:=fun W a=>cyR m W a (by omega) (by omega);obtain⟨T,G⟩:∃T,(if D=1 then iP m else iP m++47 :: Lib.decDigits D)=T:=⟨_,rfl⟩;rw[G];have p:=aB G;clear f C K G;generalize (n.natAbs:Int)=N at *;go_enter func45,ntmps45;go_wp2_with fail;refine(y _).mono ?_;rintro s k ⟨rfl,b⟩;go_wp2_with fail;go_region;by_cases E:D=1
  ·subst E;have r:Hid (T=iP m):=by have:=p.out;rw[if_pos rfl] at this;exact this.symm
   clear p y J Z Y V;obtain rfl:=r.out;go_wp2_with fail;refine(x _ (a.be b.drew)).mono ?_;rintro e3 o ⟨rfl,ad⟩;go_wp2;go_ret;exact⟨rfl,b.drew.trans (ad.mono b.size)⟩
  ·have r:Hid (T=iP m++47 :: Lib.decDigits D):=by have:=p.out;rw[if_neg E] at this;exact this.symm
   have ak:((D:Int)==1)=false:=beq_eq_false_iff_ne.2 (by omega);have lm:(iP m).length<=22:=SY m 1 (cJ (by unfold BN;omega));have lD:(iP (D:Int)).length<=22:=SY D 1 (cJ (by unfold BN;omega));have P:BufAt w (k.alloc (.cells (Array.replicate 48 (.int .u8 0)) 132)) k.1.size []:=⟨⟨_,heap_alloc_new k _,by simp⟩,(fun i v h=>by simp[Lib.byteCells] at h),b.alloc b.size _,b.size⟩;have c:=cyS (P.be (aG _ _).drew) a m (by omega) (by omega) (by simp;omega);have eD:iP (D:Int)=Lib.decDigits D:=by unfold iP;rw[if_neg (by omega)];rfl
   rw[iM] at c;have ac:(D:Int)<=9223372036854775807:=by omega
   clear p y J Z Y V x t F ab E P I;go_wp2_with fail;refine c.mono ?_;rintro e3 o ⟨rfl,L⟩;clear c;have M:BufAt w (o.alloc (.cells #[.int .u8 47] 5)) k.1.size (iP m):=L.be ((aG _ _).alloc aE _)
   obtain⟨v5,w5,X,rfl,O⟩:=(M.apps (l:=[47]) (by simp;omega)).2 (o.alloc (.cells #[.int .u8 47] 5)) ⟨o.1.size,0,none⟩ 1 (aG _ _) (fun j u H=>by
    have aj:j=0:=by
     have:=(List.getElem?_eq_some_iff.1 H).1;simp[Lib.byteCells] at this;omega
    subst aj;simp[Lib.byteCells] at H;subst H;exact(Bx.new o [.int .u8 47] 5).cell 0 rfl)
   have HR:=aB X;have c:=cyS O a (D:Int) (by omega) ac (by simp;omega);rw[eD,show List.length (iP m++([47]:List UInt8))=(iP m).length+1 from by simp] at c;clear X L M;go_wp2_with (at_builtin;refine IL rfl rfl rfl rfl rfl HR.out ?_);refine c.mono ?_;rintro e6 w6 ⟨rfl,B⟩;have hc:=dyN B;have R:iP m++[47]++Lib.decDigits D=T:=by rw[r.out,eK];rfl
   have ae:=B.2.2.1;clear c O B;rw[R] at hc⊢;clear R r;go_wp2;go_ret;exact⟨rfl,ae⟩
def dyK{b:List UInt8}{m f:Int}{x y:Rat}(q:C8 a n d)(c:C8 b m f)(r:cF a=some x)(s:cF b=some y):∃D F:Nat,d=(D:Int)∧f=(F:Int)∧0<D∧0<F∧D<1000000000∧F<1000000000∧x*((D:Int):Rat)=(n:Rat)∧y*((F:Int):Rat)=(m:Rat)∧(n*f).natAbs<1000000000000000000∧(m*d).natAbs<1000000000000000000∧0<D*F∧D*F<1000000000000000000∧d*f=((D*F:Nat):Int):=by
 obtain⟨-,D,rfl,k,i,u,g⟩:=q;obtain⟨-,F,rfl,l,j,t,h⟩:=c;rw[r] at g;rw[s] at h;injection g with g;injection h with h;have c:∀(n:Nat) (F:Nat),n<1000000000->F<1000000000->n*F<1000000000000000000:=fun n F v w=>by
  have:n*F<=999999999*999999999:=C5 (by omega) (by omega);omega
 have o:((D:Int):Rat)≠0:=fun e=>by have:(D:Int)=0:=by exact_mod_cast e
                                   omega
 have p:((F:Int):Rat)≠0:=fun e=>by have:(F:Int)=0:=by exact_mod_cast e
                                   omega
 refine⟨D,F,rfl,rfl,k,l,i,j,?_,?_,?_,?_,az9 k l,c _ _ i j,by rw[p4]⟩
 ·rw[g,Rat.mkRat_eq_div,<-U5,gW o]
 ·rw[h,Rat.mkRat_eq_div,<-U5,gW p]
 ·rw[fL,dD];exact c _ _ u j
 ·rw[fL,dD];exact c _ _ t i
def cyQ(h:C8 a n d):n.natAbs<1000000000:=by
 obtain⟨-,D, -, -, -,b, -⟩:=h;exact b
def dyJ(a b:List UInt8)(x y:Rat)(K:Nat)(w:World)(g:Glob w)(C:cF a=some x)(E:cF b=some y)(G:RL K x)(H:RL K y)(Z:K<=268435456)(ae:a.length<=1073741824)(af:b.length<=1073741824):
  Calls prog 14 #[.string ⟨a.toArray⟩,.string ⟨b.toArray⟩] w fun e w'=>e= .returned (.string ⟨(cW (x*y)).toArray⟩)∧Below w.1.size w w':=by
 have S:=fun W=>dyQ a b W (by omega) (by omega);have j:=fun W g=>cyT a W g (by omega);have k:=fun W g=>cyT b W g (by omega);rw[C] at j;rw[E] at k;have t:=fun W u v g h l=>bq6 x y u v W g h l K G H (by unfold aJ;omega);have B:=fun W v g h=>I4 (x*y) v W g h (2*K+1) (bU (o6 G H) (by omega)) (by omega);have o:Hid (∀n d m f,C8 a n d->C8 b m f->(n*m).natAbs<1000000000000000000∧∃D:Nat,d*f=(D:Int)∧0<D∧D<1000000000000000000∧x*y=((n*m:Int):Rat)/((D:Int):Rat)):=fun n d m f h l=>by
  have hn:=cyQ h;have hm:=cyQ l;obtain⟨D,F,rfl,rfl,d0,f0, -, -,I,i,b1,b2,p0,p1,p2⟩:=dyK h l C E;have Q:(n*m).natAbs<1000000000000000000:=by
   rw[fL];have:n.natAbs*m.natAbs<=999999999*999999999:=C5 (by omega) (by omega);omega
  refine⟨Q,D*F,p2,p0,p1,?_⟩;have e:((n*m:Int):Rat)=(x*y)*(((D*F:Nat):Int):Rat):=by
   rw[eJ,<-I,<-i,p4,eJ];grind
  have hz:(((D*F:Nat):Int):Rat)≠0:=fun e=>by
   have:((D*F:Nat):Int)=0:=by exact_mod_cast e
   omega
  rw[e];grind
 unfold iF at j k t;simp only[Option.getD_some] at j k;clear C E ae af G H Z;obtain⟨T,r⟩:∃T,(cW (x*y)).toArray=T:=⟨_,rfl⟩;rw[r] at B⊢;have p:=aB r;clear r;go_enter func14,ntmps14;go_wp2_with fail;refine(S _).mono ?_;rintro I w1 ⟨n,d,m,f,ok,rfl,A,c⟩;obtain⟨w2,i,ab,X,Y⟩:=D8 w1 [.int .i64 n,.int .i64 d] 84 [.int .i64 m,.int .i64 f] 84;replace c:=aC c ab;have cM:=aa X.k2 Y.k2;cases ok with
 |true=>
  obtain⟨M,N⟩:=A rfl;obtain⟨z3,D,O,z6,z7,P⟩:=o.out n d m f M N;have L:=fun W g=>dyO (n*m) D W g z6 (by omega) (by omega);rw[<-P,p.out] at L;have ag:IntKind.i64.wrap (n*m)=n*m:=IntWalk.i64_in _ ⟨by omega,by omega⟩;have ah:IntKind.i64.wrap (d*f)=(D:Int):=by rw[O];exact IntWalk.i64_in _ ⟨by omega,by omega⟩
  clear A j k t o M N z3 O P B p;go_wp2_with fail;(try rw[i]);(try clear i);refine(L _ (g.be c)).mono ?_;rintro R w3 ⟨rfl,s⟩;go_wp2;go_ret;exact⟨rfl,aC c s⟩
 |false=>
  clear A o p;generalize x*y=z at *;go_wp2_with fail;(try rw[i]);(try clear i);refine(j _ (g.be c)).mono ?_;rintro R w3 ⟨v3,rfl,q,s⟩;replace c:=aC c s;go_wp2_with fail;refine(k _ (g.be c)).mono ?_;rintro e4 w4 ⟨v4,rfl,U,J⟩;replace q:=q.be J;replace c:=aC c J;go_wp2_with fail;refine(t _ _ _ (g.be c) q U).mono ?_;rintro e5 w5 ⟨v5,rfl,V,ac⟩;replace c:=aC c ac;go_wp2_with fail;refine(B _ _ (g.be c) V).mono ?_;rintro e6 w6 ⟨rfl,ad⟩;go_wp2;go_ret;exact⟨rfl,aC c ad⟩
def dyR(l:List UInt8)(q:Rat)(w:World)(B:l.length<=1073741824)(i:cF l=some q):Calls prog 17 #[.string ⟨l.toArray⟩] w (eS w q):=by
 have t:rd l=true:=by unfold rd;rw[i];rfl
 have c:=fun W=>CE l W B;unfold JH at c;rw[t] at c;obtain⟨W,p,a,R⟩:=bI w [.bool false,.slice none 0 0,.bool false,.slice none 0 0] 40;have x:=R.g4;have G:=R.lt;clear t;go_enter func17,ntmps17;go_wp2_with fail;(try rw[p]);clear p;refine(c _).mono ?_;rintro E C ⟨I,H,rfl,b,s,r⟩;obtain rfl:=s _ i;obtain⟨m,d,j,f,n,e,k,g,rfl⟩:=b.form;replace R:=R.be r;replace a:=aC a r;obtain⟨J,o,h,X⟩:=bI C [.bool m,.slice d j f,.bool n,.slice e k g] 40;replace R:=R.be h;replace b:=b.be h;replace a:=aC a h;replace x:=aa R.g4 X.k4;clear i s c;go_wp2_with fail;(try rw[o]);(try clear o);obtain⟨D,y,u,z,A,F⟩:=R.mut4 a (by omega) (.bool m) (.slice d j f) (.bool n) (.slice e k g) rfl rfl;rw[y];exact aM (v:= .agg #[.bool m,.slice d j f,.bool n,.slice e k g]) (by simp[results,results17,go_sem,u.k4]) rfl ⟨_,rfl,b.ke A,z⟩
def byP(a:A≠[])(b:aN A):cf A (A.length-1)≠0:=(fT a).1 b
def cyU(j:A≠[])(r:aN A)(a:B≠[])(s:aN B)(b:C≠[])(t:aN C):aW aV (hO B C)≠[]∧tG A (aW aV (hO B C))=tG A B*tG A C:=by
 have v:=List.length_pos_iff.2 a;have w:=List.length_pos_iff.2 b;have c:∀i,cf (aW aV (hO B C)) i=conv (cf B) (cf C) i:=fun i=>by rw[iS,cq2]
 have o:=p5 (p:=cf B) (q:=cf C) (m:=B.length-1) (n:=C.length-1) (fun i l=>bV (by omega)) (fun i l=>bV (by omega));have k:cf (aW aV (hO B C)) (B.length-1+(C.length-1))≠0:=by
  rw[c,o];intro e;rcases Rat.mul_eq_zero.1 e with e|e
  ·exact byP a s e
  ·exact byP b t e
 have g:B.length-1+(C.length-1)<(aW aV (hO B C)).length:=Decidable.byContradiction fun h=>k (bV (by omega));have u:(aW aV (hO B C)).length<=B.length+C.length-1:=by
  refine aH (oY _ _) ?_;unfold hO;split
  ·simp
  ·rw[cH,V9];exact aE
 refine⟨fun e=>by rw[e] at g;simp at g,?_⟩;unfold tG;rw[show(aW aV (hO B C)).length-1=B.length-1+(C.length-1) by omega,show cf (aW aV (hO B C))=conv (cf B) (cf C) from funext c];exact dy5 (fun d f=>bV (by omega)) (byP j r) (fun d f=>bV (by omega)) (fun d f=>bV (by omega))
def cyV(A B:List Rat):tG B A=(-1)^((A.length-1)*(B.length-1))*tG A B:=azF _ _ _ _ _ _
def byQ:∀(A:List Rat),(∀q∈A,RL 1 q)->∃D:Int,ComDen A D (1+A.length)
 |[],_=>⟨1,by decide,fun q c=>(by cases c),by rw[byZ];exact cJ (m:=1) (by unfold BN;decide)⟩
 |q :: A,h=>by
  obtain⟨D,b⟩:=byQ A (fun x a=>h x (j8 _ a));refine⟨(q.den:Int)*D,Int.mul_pos (by have:=q.den_pos;omega) b.pos,fun x a=> ?_,aH (gT _ _ 1 (1+A.length) (by rw[dD];exact(h q iC).2) b.nl_) (by rw[eG];omega)⟩;rcases List.mem_cons.1 a with rfl|a
  ·exact⟨D,rfl⟩
  ·exact bqF (b.dvd x a) ⟨(q.den:Int),fD _ _⟩
structure ElF(a b c:List (List UInt8))(X Y:Rat):Prop where
 xy:KF a b=cW X∧L8 a b=0∧KF a c=cW Y∧L8 a c=0
 z:KF a ((aW aV (hO (aU b) (aU c))).map cW)=cW (X*Y)∧L8 a ((aW aV (hO (aU b) (aU c))).map cW)=0
 w:KF b a=cW (if (a.length-1)*(b.length-1)%2=1 then -X else X)∧L8 b a=0
 g:∀g,GcT (aU a) (aU b) g->(X=0↔1<g.length)
 kx:RL 100000 X
 ky:RL 100000 Y
def cyW{a b c:List (List UInt8)}(m:vl a=true)(u:vl b=true)(w:vl c=true)(f:a≠[])(o:b≠[])(s:c≠[])(r:∀q∈aU a,RL 1 q)(t:∀q∈aU b,RL 1 q)(L:∀q∈aU c,RL 1 q)(v:a.length<=4)(z:b.length<=4)(M:c.length<=4):ElF a b c (tG (aU a) (aU b)) (tG (aU a) (aU c)):=by
 have d:∀{a:List (List UInt8)},a≠[]->aU a≠[]:=fun h e=>h (by unfold aU at e;exact List.map_eq_nil_iff.1 e);have C:=(pJ m).2.2;have F:=(pJ u).2.2;have O:=(pJ w).2.2;obtain⟨N,I⟩:=cyU (d f) C (d o) F (d s) O
 have J:vl ((aW aV (hO (aU b) (aU c))).map cW)=true:=dxK (by
  refine aH (oY _ _) ?_;unfold hO;split
  ·simp
  ·rw[cH,V9,VS,VS];omega) (jS _)
 have p:∀{a b:List (List UInt8)},vl a=true->vl b=true->aU a≠[]->aU b≠[]->KF a b=cW (tG (aU a) (aU b))∧L8 a b=0:=fun {a b} ha hb l k=>by
  unfold KF L8 Y5;rw[if_pos ⟨ha,hb⟩,if_neg (fun h=>h.elim l k),if_pos ⟨ha,hb⟩];exact⟨rfl,rfl⟩
 have y:=fun {a b:List (List UInt8)} (r:∀q∈aU a,RL 1 q) (t:∀q∈aU b,RL 1 q) (v:a.length<=4) (z:b.length<=4) (l:aU a≠[]) (k:aU b≠[])=>show RL 100000 (tG (aU a) (aU b)) by
  obtain⟨D,i⟩:=byQ (aU a) r;obtain⟨E,j⟩:=byQ (aU b) t;have:=cxQ i.pos j.pos i.dvd j.dvd (K:=10) (fun n hn=>aH (sA _ D 1 _ r i.nl_ n hn) (by rw[VS];omega)) (fun n hn=>aH (sA _ E 1 _ t j.nl_ n hn) (by rw[VS];omega)) (aH i.nl_ (by rw[VS];omega)) (aH j.nl_ (by rw[VS];omega)) (by decide) (by rw[VS,VS];omega);unfold Y5 at this;rw[if_neg (fun h=>h.elim l k)] at this;exact bU this (by decide)
 refine⟨⟨(p m u (d f) (d o)).1,(p m u (d f) (d o)).2,(p m w (d f) (d s)).1,(p m w (d f) (d s)).2⟩,?_,?_,?_,y r t v z (d f) (d o),y r L v M (d f) (d s)⟩
 ·have:=p m J (d f) (by rw[byJ];exact N);rw[byJ,I] at this;exact this
 ·obtain⟨l,k⟩:=p u m (d o) (d f);refine⟨?_,k⟩;rw[l,cyV,VS,VS];have x:=bq0 ((a.length-1)*(b.length-1)) 1;rw[o9] at x;rw[x];by_cases e:(a.length-1)*(b.length-1)%2=1
  ·rw[if_pos ⟨e,rfl⟩,if_pos e];congr 1;grind
  ·rw[if_neg (fun h=>e h.1),if_neg e];congr 1;grind
 ·rintro g ⟨D,E,i,j,h⟩;have l:=cy6 i.dvd j.dvd;have B:∀{A:List Rat} {D:Int},A≠[]->cC A D≠[]:=fun h e=>h (by unfold cC at e;exact List.map_eq_nil_iff.1 e);have k:=dxG h (B (d f)) (B (d o)) (oO i.pos i.dvd C) (oO j.pos j.dvd F);have G:(D:Rat)≠0:=fun e=>(show D≠0 by have:=i.pos;omega) (Rat.intCast_inj.1 e);have H:(E:Rat)≠0:=fun e=>(show E≠0 by have:=j.pos;omega) (Rat.intCast_inj.1 e);rw[l,azH (m9 G _),azH (m9 H _)] at k;exact k
def cyX(a b c:List (List UInt8))(va vb vc:Value)(w:World)(f:Glob w)(j:StrsAt w va a)(k:StrsAt w vb b)(n:StrsAt w vc c)(a3:∀l∈a,l.length<=9223372036854775807)(a4:∀l∈b,l.length<=9223372036854775807)(a5:∀l∈c,l.length<=9223372036854775807):
  Calls prog 4 #[va,vb,vc] w fun e w'=>e= .returned (.bool true)∧Below w.1.size w w':=by
 obtain⟨A,k1,rfl, -⟩:=j.form;obtain⟨A',k2,rfl, -⟩:=k.form;obtain⟨A2,k3,rfl, -⟩:=n.form;have o:=dx3 j k n 22;have d:Below w.1.size w (w.alloc (.cells #[.slice A a.length k1,.slice A' b.length k2,.slice A2 c.length k3] 22)):=(aG _ _).alloc aE _
 have ba:=fun W v (o:bzY W v [a,b,c])=>show Calls prog 5 #[.int .i64 4,.int .i64 4,v] W fun e w'=>e= .returned (.bool (Q5 4 4 [a,b,c]))∧W=w' from dx2 4 4 [a,b,c] v W o (by decide) (by decide) (by show 3<=1073741824;decide) (fun p o=>by
  simp only[List.mem_cons,List.not_mem_nil,or_false] at o;rcases o with rfl|rfl|rfl
  ·exact a3
  ·exact a4
  ·exact a5)
 clear a3 a4 a5;go_enter func4,ntmps4;go_wp2_with fail;replace j:=j.be d;replace k:=k.be d;replace n:=n.be d;generalize w.alloc (.cells #[.slice A a.length k1,.slice A' b.length k2,.slice A2 c.length k3] 22)=W at *;refine(ba _ _ o).mono ?_;rintro e1 w1 ⟨rfl,rfl⟩;clear ba o;cases hs:Q5 4 4 [a,b,c] with
 |false=>
  clear hs;go_wp2_with fail;refine(PX _ (f.be d)).mono ?_;rintro s x ⟨rfl,m⟩;go_wp2;go_ret;exact⟨rfl,aC d m⟩
 |true=>
  obtain⟨la,sa⟩:=bzZ hs (p:=a) (by simp);obtain⟨lb,O⟩:=bzZ hs (p:=b) (by simp);obtain⟨lc,sc⟩:=bzZ hs (p:=c) (by simp);have E:∀q∈aU a,RL 1 q:=pI (fun l i=>aH (sa l i) (by decide));have G:∀q∈aU b,RL 1 q:=pI (fun l i=>aH (O l i) (by decide));have S:∀q∈aU c,RL 1 q:=pI (fun l i=>aH (sc l i) (by decide));clear hs;go_wp2_with fail;refine(bq7 a _ _ (f.be d) j (by omega) (fun _ l i=>aH (sa l i) (by decide))).mono ?_;rintro e2 w2 ⟨rfl,ac⟩;replace j:=j.be ac;replace k:=k.be ac;replace n:=n.be ac;replace d:=aC d ac;cases hva:vl a with
  |false=>
   clear hva;go_wp2_with fail;refine(PX _ (f.be d)).mono ?_;rintro s x ⟨rfl,m⟩;go_wp2;go_ret;exact⟨rfl,aC d m⟩
  |true=>
  go_wp2_with fail;refine(bq7 b _ _ (f.be d) k (by omega) (fun _ l i=>aH (O l i) (by decide))).mono ?_;rintro e3 w3 ⟨rfl,ad⟩;replace j:=j.be ad;replace k:=k.be ad;replace n:=n.be ad;replace d:=aC d ad;cases hvb:vl b with
  |false=>
   clear hvb;go_wp2_with fail;refine(PX _ (f.be d)).mono ?_;rintro s x ⟨rfl,m⟩;go_wp2;go_ret;exact⟨rfl,aC d m⟩
  |true=>
  go_wp2_with fail;refine(bq7 c _ _ (f.be d) n (by omega) (fun _ l i=>aH (sc l i) (by decide))).mono ?_;rintro e4 w4 ⟨rfl,ae⟩;replace j:=j.be ae;replace k:=k.be ae;replace n:=n.be ae;replace d:=aC d ae;cases hvc:vl c with
  |false=>
   clear hvc;go_wp2_with fail;refine(PX _ (f.be d)).mono ?_;rintro s x ⟨rfl,m⟩;go_wp2;go_ret;exact⟨rfl,aC d m⟩
  |true=>
  have qn:∀l:List (List UInt8),l≠[]->((l.length:Int)==0)=false:=fun l h=>by
   have:=List.length_pos_iff.2 h;rw[beq_eq_false_iff_ne];omega
  by_cases y:a=[]
  ·have qa:((a.length:Int)==0)=true:=by rw[y];rfl
   clear y;go_wp2_with fail;refine(PX _ (f.be d)).mono ?_;rintro s x ⟨rfl,m⟩;go_wp2;go_ret;exact⟨rfl,aC d m⟩
  have qa:=qn a y;by_cases C:b=[]
  ·have qb:((b.length:Int)==0)=true:=by rw[C];rfl
   clear y C;go_wp2_with fail;refine(PX _ (f.be d)).mono ?_;rintro s x ⟨rfl,m⟩;go_wp2;go_ret;exact⟨rfl,aC d m⟩
  have qb:=qn b C;by_cases Q:c=[]
  ·have qc:((c.length:Int)==0)=true:=by rw[Q];rfl
   clear y C Q;go_wp2_with fail;refine(PX _ (f.be d)).mono ?_;rintro s x ⟨rfl,m⟩;go_wp2;go_ret;exact⟨rfl,aC d m⟩
  have qc:=qn c Q;have F:=cyW hva hvb hvc y C Q E G S la lb lc;have bj:(aW aV (hO (aU b) (aU c))).length<=8:=by
   refine aH (oY _ _) ?_;unfold hO;split
   ·simp
   ·rw[cH,V9,VS,VS];omega
  have al:∀q∈aW aV (hO (aU b) (aU c)),RL 25 q:=fun q hq=>bU (dxM G S (mC 1) q (rC hq)) (by rw[VS,VS];omega)
  have a7:=fun W v u f h r=>(cq5 b c v u W f h r (by omega) (by omega) 1 (fun _ l i=>aH (O l i) (by decide)) (fun _ l i=>aH (sc l i) (by decide)) (fun _=>G) (fun _=>S) (by decide)).mono (R':=fun e w'=>∃v',e= .returned (.tuple #[v',.int .i64 0])∧StrsAt w' v' ((aW aV (hO (aU b) (aU c))).map cW)∧Below W.1.size W w') (fun e w' h=>by
   unfold aqV at h;rw[if_pos ⟨hvb,hvc⟩] at h;unfold X9 at h;rw[if_pos (by omega),if_pos (by omega)] at h;exact h)
  have aq:=fun W v u f h r=>dy8 a b v u W f h r (by omega) (by omega) (fun l i=>aH (sa l i) (by decide)) (fun l i=>aH (O l i) (by decide));have ab:∀l∈a,l.length<=1073741824:=fun l i=>aH (sa l i) (by decide);have ar:∀l∈b,l.length<=1073741824:=fun l i=>aH (O l i) (by decide);have a9:∀l∈c,l.length<=1073741824:=fun l i=>aH (sc l i) (by decide);have r1:=fun W v u f h r=>byD a b v u W f h r 25 (by omega) (by omega) ab ar (CW E (by decide)) (CW G (by decide)) (by decide) (by decide);have r2:=fun W v u f h r=>byD a c v u W f h r 25 (by omega) (by omega) ab a9 (CW E (by decide)) (CW S (by decide)) (by decide) (by decide)
  have r3:=fun W v u f h r=>byD a ((aW aV (hO (aU b) (aU c))).map cW) v u W f h r 25 (by omega) (by rw[cH];omega) ab (fun l i=>by
   obtain⟨q,hq,rfl⟩:=List.mem_map.1 i;exact aH (byI (al q hq)) (by decide)) (CW E (by decide)) (by rw[byJ];exact al) (by decide) (by decide)
  have N:=fun W v u f h r=>byD b a v u W f h r 25 (by omega) (by omega) ar ab (CW G (by decide)) (CW E (by decide)) (by decide) (by decide);rw[F.xy.1,F.xy.2.1] at r1;rw[F.xy.2.2.1,F.xy.2.2.2] at r2;rw[F.z.1,F.z.2] at r3;rw[F.w.1,F.w.2] at N;unfold bx0 at r1 r2 r3 N;unfold cyK at aq;have ay:Hid (∀g,GcT (aU a) (aU b) g->(tG (aU a) (aU b)=0↔1<((Q9 g).map cW).length)∧((Q9 g).map cW).length<=1099511627776):=fun g h=>by
   obtain⟨-,t, -,l⟩:=h.ok (pJ hva).2.2 (pJ hvb).2.2 E G (by rw[VS];omega) (by rw[VS];omega);rw[cH,(uD t).1];exact⟨F.g g h,by omega⟩
  have kX:=F.kx;have kY:=F.ky;obtain⟨P,hP⟩:∃P,(a.length-1)*(b.length-1)=P:=⟨_,rfl⟩;rw[hP] at N;have bk:=List.length_pos_iff.2 y;have bm:=List.length_pos_iff.2 C;have bs:wrap64 ((a.length:Int)-1)=((a.length-1:Nat):Int):=by unfold wrap64;omega
  have bt:wrap64 ((b.length:Int)-1)=((b.length-1:Nat):Int):=by unfold wrap64;omega
  have bu:wrap64 (((a.length-1:Nat):Int)*((b.length-1:Nat):Int))=(P:Int):=by
   have:=C5 (show a.length-1<=3 by omega) (show b.length-1<=3 by omega);rw[<-p4,hP];unfold wrap64;omega
  generalize ((a.length-1:Nat):Int)=m1 at *;generalize ((b.length-1:Nat):Int)=m2 at *;have bc:=aB hva;have bf:=aB hvb;clear hva hvb hvc E G S al bj sa O sc ab ar a9 la lb lc F y C Q qn hP bk bm;generalize tG (aU a) (aU b)=X at *;generalize tG (aU a) (aU c)=Y at *;obtain⟨V,hV⟩:∃V,(if P%2=1 then -X else X)=V:=⟨_,rfl⟩;rw[hV] at N;have HV:=aB hV;clear hV;generalize (aW aV (hO (aU b) (aU c))).map cW=T at *;have tX:cF (cW X)=some X:=SU X;have tY:cF (cW Y)=some Y:=SU Y;have lX:=byI kX;have lY:=byI kY;have Z:=fun W f=>dyJ (cW X) (cW Y) X Y 100000 W f tX tY kX kY (by decide) (by omega) (by omega);have L:=fun W=>dyR (cW X) X W (by omega) tX;have M:=fun W v h=>CF X v W h 100000 kX (by decide);have a2:cW X=[48]↔X=0:=⟨dy9,fun e=>by rw[e];exact bqB⟩;have K:=fun W f (i:(cW (-X)).length<=1073741824)=>dyC (cW (-X)) W f i;rw[SU] at K;have lN:=byI (C7 kX);replace K:=fun W f=>K W f (by omega);rw[show -((some (-X)).getD 0)=X from Rat.neg_neg X] at K;unfold CG at M;unfold eS at L;have ah:=aB a2;clear tX tY lX lY lN a2 kX kY;go_wp2_with fail;refine(a7 _ _ _ (f.be d) k n).mono ?_;rintro e5 w5 ⟨v5,rfl,R,af⟩;replace j:=j.be af;replace k:=k.be af;replace n:=n.be af;replace d:=aC d af;clear a7;go_wp2_with fail;refine(r1 _ _ _ (f.be d) j k).mono ?_;rintro e6 w6 ⟨rfl,U⟩;replace j:=j.be U;replace k:=k.be U;replace n:=n.be U;replace R:=R.be U;replace d:=aC d U;go_wp2_with fail;refine(r2 _ _ _ (f.be d) j n).mono ?_;rintro e7 w7 ⟨rfl,ag⟩;replace j:=j.be ag;replace k:=k.be ag;replace R:=R.be ag;replace d:=aC d ag;go_wp2_with fail;refine(r3 _ _ _ (f.be d) j R).mono ?_;rintro e8 w8 ⟨rfl,ap⟩;replace j:=j.be ap;replace k:=k.be ap;replace d:=aC d ap;go_wp2_with fail;refine(N _ _ _ (f.be d) k j).mono ?_;rintro bq bz ⟨rfl,an⟩;replace j:=j.be an;replace k:=k.be an;replace d:=aC d an;go_wp2_with fail;refine(aq _ _ _ (f.be d) j k).mono ?_;rintro br b1 ⟨bx,bw,rfl,bi, -,a8⟩;obtain⟨rfl,gg,a6,bh⟩:=a8 bc.out bf.out;obtain⟨hz,bv⟩:=ay.out gg a6;have HZ:=aB hz;clear a8 a6 hz ay r1 r2 r3 aq;replace d:=aC d bi;generalize (Q9 gg).map cW=GL at *;obtain⟨bo,bp,rfl, -⟩:=bh.form;have B:Hid (((cW X==[48])=true∧(1:Int)<(GL.length:Int))∨((cW X==[48])=false∧¬(1:Int)<(GL.length:Int))):=by
   by_cases hX:X=0
   ·exact .inl ⟨by simpa using ah.out.2 hX,by have:=HZ.out.1 hX;omega⟩
   ·exact .inr ⟨by simpa using fun e=>hX (ah.out.1 e),fun h=>hX (HZ.out.2 (by omega))⟩
  clear HZ ah N;obtain⟨TX,am⟩:∃TX,cW X=TX:=⟨_,rfl⟩;rw[am] at Z L M K B⊢;have bb:=aB am;clear am;generalize cW Y=TY at *;generalize cW (X*Y)=TM at *;by_cases o:P%2=1
  ·have r0:(P:Int).tmod 2=1:=by rw[R5 (by omega)];omega
   obtain rfl:V= -X:=by rw[<-HV.out,if_pos o]
   clear o HV;generalize cW (-X)=TN at *;rcases B.out with ⟨q0,q1⟩|⟨q0,q1⟩
   ·clear B;go_wp2_with fail;refine(Z _ (f.be d)).mono ?_;rintro ai av ⟨rfl,H⟩;replace d:=aC d H;go_wp2_with fail;refine(K _ (f.be d)).mono ?_;rintro bg bn ⟨rfl,ao⟩;replace d:=aC d ao;go_wp2_with fail;refine(L _).mono ?_;rintro aj aw ⟨au,rfl,D,I⟩;replace d:=aC d I;go_wp2_with fail;refine(M _ _ D).mono ?_;rintro ak ax ⟨rfl,J⟩;replace d:=aC d J;go_wp2_with fail;refine(PX _ (f.be d)).mono ?_;rintro s x ⟨rfl,m⟩;go_wp2;go_ret;exact⟨rfl,aC d m⟩
   ·clear B;go_wp2_with fail;refine(Z _ (f.be d)).mono ?_;rintro ai av ⟨rfl,H⟩;replace d:=aC d H;go_wp2_with fail;refine(K _ (f.be d)).mono ?_;rintro bg bn ⟨rfl,ao⟩;replace d:=aC d ao;go_wp2_with fail;refine(L _).mono ?_;rintro aj aw ⟨au,rfl,D,I⟩;replace d:=aC d I;go_wp2_with fail;refine(M _ _ D).mono ?_;rintro ak ax ⟨rfl,J⟩;replace d:=aC d J;go_wp2_with fail;refine(PX _ (f.be d)).mono ?_;rintro s x ⟨rfl,m⟩;go_wp2;go_ret;exact⟨rfl,aC d m⟩
  ·have r0:(P:Int).tmod 2=0:=by rw[R5 (by omega)];omega
   have a1:V=X:=by rw[<-HV.out,if_neg o]
   have az:cW V=TX:=by rw[a1];exact bb.out
   rw[az];clear o HV a1 az;rcases B.out with ⟨q0,q1⟩|⟨q0,q1⟩
   ·clear B;go_wp2_with fail;refine(Z _ (f.be d)).mono ?_;rintro ai av ⟨rfl,H⟩;replace d:=aC d H;go_wp2_with fail;refine(L _).mono ?_;rintro aj aw ⟨au,rfl,D,I⟩;replace d:=aC d I;go_wp2_with fail;refine(M _ _ D).mono ?_;rintro ak ax ⟨rfl,J⟩;replace d:=aC d J;go_wp2_with fail;refine(PX _ (f.be d)).mono ?_;rintro s x ⟨rfl,m⟩;go_wp2;go_ret;exact⟨rfl,aC d m⟩
   ·clear B;go_wp2_with fail;refine(Z _ (f.be d)).mono ?_;rintro ai av ⟨rfl,H⟩;replace d:=aC d H;go_wp2_with fail;refine(L _).mono ?_;rintro aj aw ⟨au,rfl,D,I⟩;replace d:=aC d I;go_wp2_with fail;refine(M _ _ D).mono ?_;rintro ak ax ⟨rfl,J⟩;replace d:=aC d J;go_wp2_with fail;refine(PX _ (f.be d)).mono ?_;rintro s x ⟨rfl,m⟩;go_wp2;go_ret;exact⟨rfl,aC d m⟩
end Go.Proofs.YtpgmdhonnpakeaaGreatDoor
namespace Go.Proofs.YtpgmdhonnpakeaaGreatDoor
open Go.ChangeShapes Go.WideShapes Go.ChangeAt Go.WideMaps Go.WideElems Go.RowKit Go.Proofs.Tryz
variable{W e:World}
def own:ownKnob Tryz.prog.godebug=none:=by kernel_rfl
def LZ:laidOutB prog=true:=by kernel_rfl
def ayO:Tryz.prog.cellsOf 9=1:=by kernel_rfl
def ayP:Tryz.prog.globalNamed "math/bits.deBruijn64tab" =some 1:=by kernel_rfl
def ayQ:Tryz.prog.globalNamed "internal/strconv.uint64pow10" =some 0:=by kernel_rfl
def ayR:(Tryz.prog.globals[1]?).map (·.type)=some 219:=by kernel_rfl
def ayS:(Tryz.prog.globals[0]?).map (·.type)=some 209:=by kernel_rfl
def ayT:Tryz.prog.cellsOf 219=64:=by kernel_rfl
def ayU:Tryz.prog.cellsOf 209=20:=by kernel_rfl
def ayV:Tryz.prog.cellsOf 5=1:=by kernel_rfl
def ayW:Tryz.prog.cellsOf 151=1:=by kernel_rfl
def uX:List (String×DataW Unit):=[("math/bits.deBruijn32tab",Rows.laid_math_bits_deBruijn32tab),("math/bits.deBruijn64tab",Rows.laid_math_bits_deBruijn64tab),("internal/strconv.uint64pow10",Rows.laid_internal_strconv_uint64pow10)]
def ayX(os:Os)(args:Array Value):laidMetH prog uX ((World.doorLaid prog 400 os).forCall (fun _ _=>0) ⟨#[],args,[]⟩).memory:=
 laidMetH_of_parts3 (fuel:=8) (laidMet_of_run' 8 (by kernel_rfl) (by kernel_rfl)) (by kernel_rfl) (by kernel_rfl)
def ayY:(Rows.laid_math_bits_deBruijn64tab:DataW Unit)=Lib.tabData .u8 (Lib.deBruijn64tab.map (fun z:Nat=>(z:Int))):=by rfl
def ayZ:(Rows.laid_internal_strconv_uint64pow10:DataW Unit)=Lib.tabData .u64 Lib.pow10Tab:=by rfl
def az0(h:laidMetH prog uX W):Glob W:=by
 rw[MakeChecks.laidMetH_plain _ _ _ (by kernel_rfl)] at h;obtain⟨D,⟨t,H,n,q,A,E,x,y,z,w,⟨u,I,o,r,B,F,c,i,l,a,⟨v,J,p,s,C,G,f,k,m,b,_,_⟩,_⟩,_⟩,_,_⟩:=h;obtain rfl:=Option.some.inj (ayP.symm.trans c);obtain rfl:=Option.some.inj (ayQ.symm.trans f);obtain rfl:=Option.some.inj (ayR.symm.trans i);obtain rfl:=Option.some.inj (ayS.symm.trans k);rw[ayY] at a;rw[ayZ] at b;have d:=Lib.cells_of_tab underlying219 underlying5 ayV ayT a;have e:=Lib.cells_of_tab underlying209 underlying151 ayW ayU b;refine⟨fun j g=> ?_,?_⟩
 ·have:=World.var?_cell c l j;rw[this,<-Array.getElem?_toList,d];simp[List.getElem?_map,List.getElem?_eq_getElem g]
 ·unfold Lib.TabIs;rw[m,<-e]
def az1{H:Type}{enc:TypeId×Value->H}{p:Option Addr}{c k fuel:Nat}{x:DataW H×List MemPlace}
  (w:DataW.trod enc prog W 0 (fun _=>true) true fuel 22 [.slice p c k]=some x):
  ∃t:List (List UInt8),StrsAt W (.slice p c k) t∧∀l∈t,l.length<=9223372036854775807:=by
 rcases open_strings underlying22 underlying9 ayO w with ⟨d,C⟩|⟨a,G,E,o,d,_,y,F,D,C,m,B⟩
 ·simp at d;obtain⟨rfl,rfl,rfl⟩:=d;exact⟨[],StrsAt.nil _ _ _,fun l h=>by cases h⟩
 ·simp at d;obtain⟨rfl,rfl,rfl⟩:=d;simp only[if_true] at D;obtain⟨b,f,u⟩:=a;have n:((o.take c).map (·.data.toList)).length=c:=by simp;omega
  refine⟨(o.take c).map (·.data.toList),⟨some ⟨b,f,u⟩,k,by rw[n],by rw[n];exact y,?_⟩,fun l h=> ?_⟩
  ·rcases Nat.eq_zero_or_pos c with q|q
   ·left;rw[q];rfl
   ·right;have A:u=none:=by simpa [Addr.add] using World.cell?_spot (m 0 (by omega))
    subst A;refine⟨b,f,rfl,?_,fun i l j=> ?_⟩
    ·have g:=m 0 (by omega);exact block_lt_of_cell (a:=⟨b,f,none⟩) (by simpa [Addr.add] using g)
    ·have r:=(List.getElem?_eq_some_iff.1 j).1;rw[n] at r;have g:=m i (by omega);have v:(⟨b,f,none⟩:Addr).add i=⟨b,f+i,none⟩:=by unfold Addr.add;split<;>simp_all
     rw[v] at g;rw[g];rw[List.getElem?_map,List.getElem?_take_of_lt r,List.getElem?_eq_getElem (by omega)] at j;simp only[Option.map_some,Option.some.injEq] at j;subst j;simp[List.getD,List.getElem?_eq_getElem (show i<o.length by omega)]
  ·obtain⟨s,z,rfl⟩:=List.mem_map.1 h;have:=B s (List.mem_of_mem_take z);unfold maxLen at this;have e:s.data.toList.length=s.size:=Array.length_toList;rw[e];exact this
def az2{H:Type}{enc:TypeId×Value->H}{P:Program}{f:Func}{s:ChangeSpec}{args:Array Value}{y:TypeId}{d:List (DataW H)}{a:List MemPlace}
  (g:DataW.Whole enc P f.params.toList s.vars false W args.toList d [] a)(hv:s.vars=[])(q:f.resultTypes= #[y])(v:P.underlying y=some .bool)
  (i:s.fn H d={ results:=[.lit (.bool true)],args:=d })
  (A:∀sp:Nat->Bool,(∀p∈a,sp p.block=true)->DataW.TrodAll enc P e 0 sp true f.params.toList args.toList d a)(l:Below W.1.size W e):
  s.post enc P f false true false false W args (.bool true) e:=by
 have o:∀p∈a,p.block<W.1.size:=fun p c=>g.lt p c;have C:∀p∈a,(fun b=>decide (b<W.1.size)) p.block=true:=fun p c=>by simpa using o p c
 have u:∀(b:Nat) (sp:Nat->Bool) (m:Bool),DataW.TrodAll enc P e b sp m f.resultTypes.toList ((Value.bool true).resultList f.resultTypes.size) (s.fn H (d++[])).results []:=fun b sp m=>by
  rw[List.append_nil,i,q];exact trodAll_mk1 (shut_bool v _)
 have k:∀sp:Nat->Bool,(∀p∈a,sp p.block=true)->DataW.TrodAll enc P e 0 sp true f.params.toList args.toList (s.fn H (d++[])).args a:=fun sp h=>by
  rw[List.append_nil,i];exact A sp h
 have w:∀sp:Nat->Bool,DataW.TrodVars enc P e sp s.vars (s.fn H (d++[])).vars []:=fun sp=>by
  rw[List.append_nil,i,hv];exact rfl
 refine⟨d,[],a,[],a,[],g,u _ _ _,k _ C,w _,World.keptBut_mono (fun p c=>⟨c,.inr (.inl c)⟩) (l.frame (·∈a)),fun _=> ?_⟩;obtain⟨_,_,_,_,_,E,hn⟩:=g;refine⟨fun j t r B D=> ?_,_,_,([]++a)++[],⟨[]++a,[],trodAll_append (k _ (fun _ _=>rfl)) (u _ _ _),w _,rfl,fun b x c=> ?_,fun z=>by cases z⟩,fun p c _=>by simpa using c⟩
 ·exact ok_one (by rw[q]) rfl (okWide_bool_mk v true) j t r B D
 ·have n:MemPlace.cell b x∈a:=by simpa using c
  rw[l.frozen (o _ n)];exact E b x n
