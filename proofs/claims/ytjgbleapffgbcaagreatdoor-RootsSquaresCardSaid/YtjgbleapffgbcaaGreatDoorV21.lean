/- Laws. -/
import Derived.Test.YtjgbleapffgbcaaGreatDoorV20
set_option linter.all false
set_option maxHeartbeats 8000000
set_option maxRecDepth 99999
namespace Go.Proofs.YtjgbleapffgbcaaGreatDoor
open Sos
end Go.Proofs.YtjgbleapffgbcaaGreatDoor
namespace Go.Proofs.YtjgbleapffgbcaaGreatDoor
open Go.RowKit Sos
variable{a g l r ys:List Int}
def K1(s0 s1 q:List Int)(m:Int):List Int:=aW aV (uG (aW aV (s0.map (·*m))) (sN q s1) (-1))
inductive Ext(B:Nat):List Int->List Int->List Int->List Int->List Int->List Int->Prop
 |done (a s0 s1:List Int):Ext B a [] s0 s1 a s0
 |step {a b s0 s1 q r g s:List Int} {m c:Int} (hb:b≠[]) (h:PQRes a b B m q r) (hc:c≠0) (hr:∀n∈r,c∣n) (hn:∀n∈K1 s0 s1 q m,c∣n) (t:Ext B b (jX r c) s1 (jX (K1 s0 s1 q m) c) g s):Ext B a b s0 s1 g s
def YJ{d:Nat->Int}{L:Nat}(k:ys≠[])(o:aN ys)(b:∀i,L<=i->d i=0)(h:∀i,ys.length<=i+1->conv d (cf ys) i=0):∀i,d i=0:=by
 induction L with
 |zero=>exact fun i=>b i (dC _)
 |succ L l=>
  refine l (fun i r=> ?_);by_cases f:L+1<=i
  ·exact b i f
  ·have e:i=L:=by omega
   subst e;have c:=p5 (p:=d) (q:=cf ys) (m:=i) (n:=ys.length-1) (fun j g=>b j (by omega)) (fun j g=>bV (by omega));rw[h _ (by omega)] at c;rcases Int.mul_eq_zero.1 c.symm with a|a
   ·exact a
   ·exact absurd a ((dR k).1 o)
def YK(c:aN r)(h:∀i,cf r i=0):r=[]:=oZ c (fun a b=>by simp at b) (fun i=>by rw[h,eR])
def YL(q ys r xs:List Int)(m0:Int)(n:Nat):Bool:=(List.range n).all (fun i=>m0*cf xs i==conv (cf q) (cf ys) i+cf r i)
def oB(h:(match l.getLast? with|none=>true|some a=>a != 0)=true):aN l:=fun a b=>by
 rw[b] at h;simpa using h
def YM{B:Nat}(h:Euc B a [] g):g=a:=by
 cases h with
 |done=>rfl
 |one b=>simp at b
 |step b _ _=>simp at b
end Go.Proofs.YtjgbleapffgbcaaGreatDoor
namespace Go.Proofs.YtjgbleapffgbcaaGreatDoor
open Sos
variable{B K i j n t:Nat}{c d f:Rat}{a b e g ns q r xs y:List Int}{G Q R:List Rat}{m p:Int}{C:List (List Rat)}
section
variable {R:Type}[Add R][Mul R][Sub R][OfNat R 0][CR R]
def XW(p q:Nat->R)(h:i<=n):conv p q i=bW (fun k=>p k*(if k<=i then q (i-k) else 0)) (n+1):=by
 obtain⟨d,rfl⟩:∃d,n=i+d:=⟨n-i,by omega⟩;rw[show i+d+1=i+1+d by omega,AA,qC (n:=d) (fun k _=>by rw[if_neg (by omega),CR.mul_zero]),CR.add_zero];exact mH (fun k a=>by rw[if_pos (by omega)])
def cx4(p q r:Nat->R)(i:Nat):conv (conv p q) r i=conv p (conv q r) i:=by
 have b:conv (conv p q) r i=bW (fun k=>bW (fun j=>p j*((if j<=k then q (k-j) else 0)*r (i-k))) (i+1)) (i+1):=by
  refine mH (fun k a=> ?_);rw[XW p q (show k<=i by omega),CR.mul_comm,<-zZ];refine mH (fun j _=> ?_);rw[CR.mul_comm (r (i-k)),CR.mul_assoc]
 rw[b,O5];refine mH (fun j l=> ?_);rw[zZ];congr 1;obtain⟨d,h⟩:∃d,i+1=j+d:=⟨i+1-j,by omega⟩;rw[h,AA,qC (n:=j) (fun k a=>by rw[if_neg (by omega),rE]),R7];have c:d=i-j+1:=by omega
 rw[c];refine mH (fun k a=> ?_);rw[if_pos (by omega),show j+k-j=k by omega,show i-(j+k)=i-j-k by omega]
end
def XY(xs ys:List Int)(y:Int)(i:Nat):cf (uG xs ys y) i=cf xs i+cf ys i*y:=by
 unfold uG;rw[qA];split
 ·rfl
 ·rw[bV (show xs.length<=i by omega),bV (show ys.length<=i by omega)];simp
def Dv(f:Nat->Int)(d:List Int):Prop:=∃(k:Int) (u:List Int),k≠0∧∀i,k*f i=conv (cf u) (cf d) i
section
variable {f g:Nat->Int}{d e:List Int}
def Dv.congr(h:Dv f d)(a:∀i,g i=f i):Dv g d:=by
 obtain⟨k,u,b,c⟩:=h;exact⟨k,u,b,fun i=>by rw[a,c]⟩
def Dv.self(d:List Int)(c:Int):Dv (fun i=>c*cf d i) d:=⟨1,[c],by decide,fun i=>by
 have h:∀k,cf [c] k=if k=0 then c else 0:=fun k=>by
  cases k with
  |zero=>rfl
  |succ k=>rw[bV (by simp)];rfl
 rw[gL h (fun _=>rfl),qE,if_pos (dC _),az5];rfl⟩
def Dv.zero(d:List Int):Dv (fun _=>0) d:=⟨1,[],by decide,fun i=>by rw[lK (fun k=>eR k)];simp⟩
def Dv.lin(h:Dv f d)(a:Dv g d)(q:List Int)(c c':Int):Dv (fun i=>c*f i+c'*conv (cf q) g i) d:=by
 obtain⟨k,u,b,n⟩:=h;obtain⟨l,v,m,hv⟩:=a;refine⟨k*l,uG (u.map (·*(l*c))) (sN q v) (k*c'),bxK b m,fun i=> ?_⟩;have e:∀j,cf (uG (u.map (·*(l*c))) (sN q v) (k*c')) j=(l*c)*cf u j+(k*c')*conv (cf q) (cf v) j:=fun j=>by
  rw[XY,CC,NZ,fD (cf u j),fD (conv _ _ _)]
 rw[gL e (fun _=>rfl),qD,eI,eI,<-n,cx4,gL (fun _=>rfl) (fun j=>(hv j).symm),rF];grind
def Dv.cancel{c:Int}(a:c≠0)(h:Dv (fun i=>c*f i) d):Dv f d:=by
 obtain⟨k,u,b,j⟩:=h;exact⟨k*c,u,bxK b a,fun i=>by rw[Int.mul_assoc];exact j i⟩
def Dv.none(h:Dv (cf r) y)(j:r.length<y.length)(o:aN y):∀i,cf r i=0:=by
 obtain⟨k,u,m,l⟩:=h;have p:y≠[]:=fun e=>by rw[e] at j;simp at j
 have n:=YJ (d:=cf u) (L:=u.length) p o (fun i c=>bV c) (fun i c=>by rw[<-l,bV (by omega)];simp);intro i;have b:=l i;rw[lK n] at b;rcases Int.mul_eq_zero.1 b with a|a
 ·exact absurd a m
 ·exact a
end
structure ExtI(x y:List Int)(D:Int)(a b s0 s1:List Int):Prop where
 c0:Dv (fun i=>D*cf a i+ -1*conv (cf s0) (cf x) i) y
 c1:Dv (fun i=>D*cf b i+ -1*conv (cf s1) (cf x) i) y
 dv:∀d,Dv (cf a) d->Dv (cf b) d->Dv (cf x) d∧Dv (cf y) d
 ne:a≠[]∨b≠[]
 ta:aN a
 tb:aN b
 t0:aN s0
 t1:aN s1
 len:(s1=[]∧a=x∧b=y∧s0.length<=1)∨(s1.length+a.length<=y.length+1∧s0.length+a.length<=y.length∧b.length<a.length)
structure ExtR(x y:List Int)(D:Int)(g s:List Int):Prop where
 c:Dv (fun i=>D*cf g i+ -1*conv (cf s) (cf x) i) y
 dx:Dv (cf x) g
 dy:Dv (cf y) g
 ne:g≠[]
 tg:aN g
 ts:aN s
 len:s.length+g.length<=y.length
structure BezRes(A B G S T:List Rat)(Kg K:Nat):Prop where
 id_:∀i,conv (cf S) (cf A) i+conv (cf T) (cf B) i=cf G i
 da:∃U:List Rat,∀i,cf A i=conv (cf U) (cf G) i
 db:∃U:List Rat,∀i,cf B i=conv (cf U) (cf G) i
 ne:G≠[]
 tg:aN G
 ts:aN S
 tt:aN T
 last:cf G (G.length-1)=1
 len:B=[]∨S.length+G.length<=B.length
 lg:G.length<=max A.length B.length
 ls:S.length<=B.length+1
 lt:T.length<=A.length+B.length
 bg:∀q∈G,RL Kg q
 bs:∀q∈S,RL K q
 bt:∀q∈T,RL K q
 bsa:∀i,i<=1000->RL K (conv (cf S) (cf A) i)
 btb:∀i,i<=1000->RL K (conv (cf T) (cf B) i)
def XL(h:c≠0):c⁻¹≠0:=fun e=>h (by have:=Rat.inv_inv c;rw[e,Rat.inv_zero] at this;exact this.symm)
def m6(h:c≠0)(k:d≠0):c*d≠0:=fun e=>(Rat.mul_eq_zero.1 e).elim h k
def uC(h:c≠0)(k:d≠0):c/d≠0:=by rw[azE];exact m6 h (XL k)
structure Rl(G:List Rat)(c:Rat)(r:List Rat)(e:List Int):Prop where
 c0:c≠0
 r_:∀i,conv (cf r) (cf G) i=c*cf e i
 tr:aN r
 te:aN e
def Rl.len{r:List Rat}(h:Rl G c r e)(s:cf G (G.length-1)≠0)(hn:1<=G.length):(r=[]->e=[])∧(r≠[]->r.length+G.length=e.length+1):=by
 constructor
 ·rintro rfl;refine YK h.te (fun i=> ?_);have:=h.r_ i;rw[lK (fun k=>eR k)] at this;rcases Rat.mul_eq_zero.1 this.symm with a|a
  ·exact absurd a h.c0
  ·exact Rat.intCast_inj.1 a
 ·intro g;have w:=List.length_pos_iff.2 g;have u:=(dR g).1 h.tr;have f:=p5 (p:=cf r) (q:=cf G) (m:=r.length-1) (n:=G.length-1) (fun i b=>bV (by omega)) (fun i b=>bV (by omega));rw[h.r_] at f;have v:cf e (r.length-1+(G.length-1))≠0:=fun d=>by
   rw[d,aq4,dU] at f;exact m6 u s f.symm
  have l:r.length-1+(G.length-1)<e.length:=by
   rcases dE (r.length-1+(G.length-1)) e.length with a|a
   ·exact a
   ·exact absurd (bV a) v
  have t:e≠[]:=fun d=>by rw[d] at l;simp at l
  have x:¬r.length+(G.length-1)<e.length:=fun a=>by
   have o:=(dR t).1 h.te;have j:=rG (p:=cf r) (q:=cf G) (m:=r.length) (n:=G.length) (fun i b=>bV b) (fun i b=>bV b) (i:=e.length-1) (by omega);rw[h.r_] at j;exact m6 h.c0 (gJ o) j
  omega
def aT(f:Rat)(b:List Int):List Rat:=b.map (fun n:Int=>f*(n:Rat))
def fX(f:Rat)(b:List Int):(aT f b).length=b.length:=cH _
def dS(f:Rat)(b:List Int)(i:Nat):cf (aT f b) i=f*cf b i:=qS f b i
def CQ(h:f≠0∨b=[])(c:aN b):aN (aT f b):=by
 rcases h with h|rfl
 ·exact(jY h c).trim
 ·intro x a;cases a
def XI{A f:List Rat}(w:∀i,cf A i=c*cf a i)(B:c≠0)(e:Prp f b)(l:b≠[])(h:PQRes a b t m q r)(y:DivQ A f Q R):R.length=r.length∧∀i,cf R i=c/m*cf r i:=by
 have x:=e.ne l;obtain⟨j, -,d,p,e⟩:=e;have s:=gJ h.m0;have o:c/m≠0:=uC B s;have C:DivQ A f (q.map (fun n:Int=>(c/m/d)*(n:Rat))) (r.map (fun n:Int=>(c/m)*(n:Rat))):=by
  refine⟨fun i=> ?_,(jY (uC o p) h.q_trim).trim,(jY o h.r_trim).trim,by rw[cH,j];exact h.r_lt⟩;rw[gL (qS _ q) e i,eI,rF,qS,w];have g:((m*cf a i:Int):Rat)=((conv (cf q) (cf b) i+cf r i:Int):Rat):=by rw[h.id_ i]
  rw[eJ,aqE,oD] at g;generalize conv (fun k=>((cf q k:Int):Rat)) (fun k=>((cf b k:Int):Rat)) i=z at *
  have u:c/m/d*(d*z)=c/m*z:=by rw[<-azC,gW p]
  rw[u];have v:c/m*z+c/m*((cf r i:Int):Rat)=c/m*(m*cf a i):=by rw[g];grind
  rw[v,<-azC,gW s]
 obtain⟨-,rfl⟩:=y.unique C x (by rw[j];exact List.length_pos_iff.2 l);exact⟨cH _,qS _ r⟩
inductive ChT(B:Nat):List Int->Rat->List Int->Rat->List (List Rat)->Prop
 |done (a:List Int) (fa fb:Rat):ChT B a fa [] fb []
 |step {a b q r r':List Int} {fa fb f':Rat} {m:Int} {C:List (List Rat)} (hb:b≠[]) (h:PQRes a b B m q r) (h0:fa≠0∧fb≠0∧aN b) (ht:aN r') (hl:r'.length=r.length) (hf:f'≠0∨r'=[]) (he:∀i,f'*cf r' i= -(fa/m)*cf r i)
   (hR:∀F,RL F fa->RL (F+B) f') (hn:∀n∈r',nl n.natAbs<=B) (t:ChT B b fb r' f' C):ChT B a fa b fb (aT fb b :: C)
def CS{r':List Int}(k:b≠[])(h:PQRes a b B m q r)(e:c≠0∧f≠0∧aN b)(o:aN r')(n:d≠0∨r'=[])(l:∀i,d*cf r' i= -(c/m)*cf r i)(j:DivQ (aT c a) (aT f b) Q R):
  aW aV (oA [] (-1) R)=aT d r':=by
 obtain⟨-,g⟩:=XI (dS c a) e.1 (jY e.2.1 e.2.2) k h j;refine oZ (jS _) (CQ n o) (fun i=> ?_);rw[iS,xW,eR,g,dS,l];grind
def ChT.len(h:ChT B a c b d C):C.length<=b.length:=by
 induction h with
 |done a c d=>exact mC 0
 |step g h e l k j i f hn t m=>
  have:=h.r_lt;rw[eG];omega
def JT(h:PQRes a b B m q r)(e:c≠0∧d≠0):∃Q R,DivQ (aT c a) (aT d b) Q R:=by
 have f:=gJ h.m0;refine⟨aT (c/m/d) q,aT (c/m) r,fun i=> ?_,(jY (uC (uC e.1 f) e.2) h.q_trim).trim,(jY (uC e.1 f) h.r_trim).trim,by rw[fX,fX];exact h.r_lt⟩;rw[gL (dS _ q) (dS _ b) i,eI,rF,dS,dS];have g:((m*cf a i:Int):Rat)=((conv (cf q) (cf b) i+cf r i:Int):Rat):=by rw[h.id_ i]
 rw[eJ,aqE,oD] at g;generalize conv (fun k=>((cf q k:Int):Rat)) (fun k=>((cf b k:Int):Rat)) i=z at *
 have j:c/m/d*(d*z)=c/m*z:=by rw[<-azC,gW e.2]
 rw[j];have l:c/m*z+c/m*((cf r i:Int):Rat)=c/m*(m*cf a i):=by rw[g];grind
 rw[l,<-azC,gW f]
def ChT.unique{n o:Rat}(h:ChT B a n b o C):∀{m:Nat} {g i:List Int} {k c:Rat} {f:List (List Rat)},ChT m g k i c f->aT n a=aT k g->aT o b=aT c i->C=f:=by
 induction h with
 |done a n o=>
  intro m g i k c f d _ e;cases d with
  |done=>rfl
  |step l=>exact absurd (bX (by rw[<-fX c,<-e];rfl)) l
 |step l h p z J x v H hn t D=>
  intro m g i k c f d r j;cases d with
  |done=>exact absurd (bX (by rw[<-fX,j];rfl)) l
  |step u d s A K y w I L G=>
   obtain⟨Q,R,q⟩:=JT h ⟨p.1,p.2.1⟩;have E:=CS l h p z x v q;rw[r,j] at q;have F:=CS u d s A y w q;rw[j,D G j (E.symm.trans F)]
inductive StT(B:Nat):List Int->List Int->List (List Int)->Prop
 |done (a:List Int):StT B a [] []
 |step {a b q r:List Int} {m:Int} {c:List (List Int)} (hb:b≠[]) (h:PQRes a b B m q r) (t:StT B b (if 0<m then (aS r).map (·*(-1)) else aS r) c):StT B a b (b :: c)
inductive All2{α β:Type}(P:α->β->Prop):List α->List β->Prop
 |nil:All2 P [] []
 |cons {a:α} {b:β} {l:List α} {m:List β} (h:P a b) (t:All2 P l m):All2 P (a :: l) (b :: m)
def Sg(e:Rat)(A:List Rat)(a:List Int):Prop:=a≠[]∧aN a∧∃f,0<e*f∧A=aT f a
def nK{e:Rat}(h:0<e*f):f≠0:=fun a=>by rw[a,dU] at h;exact absurd h (by decide)
def XJ{c:List (List Int)}(h:StT K a b c)(e:Rat)(G:1<=K):∀f d:Rat,0<e*f->(b≠[]->0<e*d)->aN b->∃C,ChT K a f b d C∧All2 (Sg e) C c:=by
 induction h with
 |done a=>exact fun f d _ _ _=>⟨[],.done a f d,.nil⟩
 | @step a b q r m c j h t o=>
  intro f d y H p;have g:=H j;have Q:=gJ h.m0;have B:=Q5 h.r_trim;by_cases v:r=[]
  ·have O:(if 0<m then (aS r).map (·*(-1)) else aS r)=[]:=by
    have:aS r=[]:=bX (by rw[dF,v];rfl);rw[this];split<;>rfl
   rw[O] at t o;obtain⟨C,s,u⟩:=o d f g (fun e=>absurd rfl e) (fun x A=>by cases A);exact⟨_,.step j h ⟨nK y,nK g,p⟩ (fun x A=>by cases A) (by rw[v]) (.inr rfl) (fun i=>by rw[v,eR,aq4,dU,dU]) (fun F hF=>bU hF (by omega)) (fun n hn=>by cases hn) s,.cons ⟨j,p,d,g,rfl⟩ u⟩
  ·have P:=nI h.r_trim v;have I:0<((bC r:Int):Rat):=by
    have:(0:Int)<(bC r:Int):=by omega
    exact_mod_cast this
   have J:nl (bC r:Int).natAbs<=K:=by rw[dD];exact az4 h.br
   have M:(0:Int)<(m.natAbs:Int):=by have:=h.m0;omega
   have N:0<((m.natAbs:Int):Rat):=by exact_mod_cast M
   have l:0<e*(f*(((bC r:Int):Rat)/((m.natAbs:Int):Rat))):=by
    rw[<-azC,azE];exact azA y (azA I (Rat.inv_pos.2 N))
   have w:∀F,RL F f->RL (F+K) (f*(((bC r:Int):Rat)/((m.natAbs:Int):Rat))):=fun F hF=>o6 hF (pM J (by rw[dD];exact h.bm) G);have R:((m.natAbs:Int):Rat)≠0:=gJ (by omega);by_cases D:0<m
   ·rw[if_pos D] at t o;have z:(m.natAbs:Int)=m:=by omega
    rw[z] at w l;have E:aN ((aS r).map (·*(-1))):=xM (by decide) B;obtain⟨C,s,u⟩:=o d _ g (fun _=>l) E;refine⟨_,.step j h ⟨nK y,nK g,p⟩ E (by rw[cH,dF]) (.inl (nK l)) (fun i=> ?_) w (fun n hn=> ?_) s,.cons ⟨j,p,d,g,rfl⟩ u⟩
    ·rw[CC,<-lW r i,eJ,eJ];have:((-1:Int):Rat)= -1:=rfl;rw[this];grind
    ·obtain⟨k,L,rfl⟩:=List.mem_map.1 hn;rw[fL];simpa using gU h.br k L
   ·rw[if_neg D] at t o;have z:(m.natAbs:Int)= -m:=by omega
    rw[z,bx4] at w l;obtain⟨C,s,u⟩:=o d _ g (fun _=>l) B;refine⟨_,.step j h ⟨nK y,nK g,p⟩ B (by rw[dF]) (.inl (nK l)) (fun i=> ?_) w (gU h.br) s,.cons ⟨j,p,d,g,rfl⟩ u⟩;rw[<-lW r i,eJ];grind
def aY:Int->List Int->Nat
 |_,[]=>0
 |l,s :: t=>if s=0 then aY l t else (if l≠0∧s≠l then 1 else 0)+aY s t
def XK(t:List Int):∀l,aY (-l) (t.map (fun s=> -s))=aY l t:=by
 induction t with
 |nil=>intro l;rfl
 |cons s t c=>
  intro l;show(if -s=0 then aY (-l) (t.map (fun s=> -s)) else (if -l≠0∧ -s≠ -l then 1 else 0)+aY (-s) (t.map (fun s=> -s)))=if s=0 then aY l t else (if l≠0∧s≠l then 1 else 0)+aY s t
  rw[c l,c s];by_cases a:s=0
  ·rw[if_pos a,if_pos (by omega)]
  ·rw[if_neg a,if_neg (by omega)];congr 1;by_cases b:l≠0∧s≠l
   ·rw[if_pos b,if_pos (by omega)]
   ·rw[if_neg b,if_neg (by omega)]
def cyE(A:List Rat)(i:Int)(x:Rat):Int:=if i=0 then (aI A x).num.sign else if i<0∧A.length%2=0 then -(cf A (A.length-1)).num.sign else (cf A (A.length-1)).num.sign
def aP(a:List Int)(i:Int)(x:Rat):Int:=if i=0 then (fE a x.num x.den).sign else if i<0∧a.length%2=0 then -(cf a (a.length-1)).sign else (cf a (a.length-1)).sign
def uA(f:Rat)(a:List Int)(x:Rat):aI (aT f a) x=f*aI (a.map (fun n:Int=>(n:Rat))) x:=by
 induction a with
 |nil=>show(0:Rat)=f*0;rw[dU]
 |cons n a b=>
  show aI (aT f a) x*x+f*n=f*(aI (a.map (fun n:Int=>(n:Rat))) x*x+n)
  rw[b];grind
def JU(a:List Int)(x:Rat):(fE a x.num x.den).sign=(aI (a.map (fun n:Int=>(n:Rat))) x).num.sign:=by
 have b:(x.den:Int)≠0:=by have:=x.den_nz;omega
 have c:0<((x.den:Int):Rat):=by
  have:(0:Int)<(x.den:Int):=by omega
  exact_mod_cast this
 have h:=WR a x.num x.den b;have e:((x.num:Int):Rat)/((x.den:Int):Rat)=x:=by rw[aq3,<-oU]
 rw[e] at h;have d:0<((iZ a x.num x.den:Int):Rat):=by
  rw[WQ];have:(0:Int)<(x.den:Int)^a.length:=aqH (by omega);exact_mod_cast this
 rw[<-xJ,<-tU c,byD,h,tU d]
def uB(b:0<f)(a:List Int)(i:Int)(x:Rat):cyE (aT f a) i x=aP a i x:=by
 unfold cyE aP;rw[fX,dS,tU b,xJ,uA,tU b,JU]
def xU(d:f<0)(a:List Int)(i:Int)(x:Rat):cyE (aT f a) i x= -aP a i x:=by
 have h:=uB (f:= -f) (by grind) a i x;have e:∀y:Rat,(-f*y).num.sign= -(f*y).num.sign:=fun y=>by
  have: -f*y= -(f*y):=by grind
  rw[this,Rat.neg_num,Int.sign_neg]
 unfold cyE aP at *;rw[fX,dS,e,uA,e] at h;rw[fX,dS,uA];by_cases b:i=0
 ·simp only[if_pos b] at h⊢;omega
 ·simp only[if_neg b] at h⊢;by_cases c:i<0∧a.length%2=0
  ·simp only[if_pos c] at h⊢;omega
  ·simp only[if_neg c] at h⊢;omega
def All2.map_eq{α β γ:Type}{P:α->β->Prop}{l:List α}{m:List β}(h:All2 P l m){f:α->γ}{g:β->γ}(c:∀a b,P a b->f a=g b):l.map f=m.map g:=by
 induction h with
 |nil=>rfl
 |cons h t d=>rw[fM,fM,c _ _ h,d]
def xV{e:Rat}{c:List (List Int)}(h:All2 (Sg e) C c)(i:Int)(x:Rat):aY 0 (C.map (fun A=>cyE A i x))=aY 0 (c.map (fun a=>aP a i x)):=by
 by_cases l:0<e
 ·rw[h.map_eq (g:=fun a=>aP a i x) (fun A a j=>by
   obtain⟨-, -,f,b,rfl⟩:=j
   exact uB (by rcases iY f with k|k|k
                ·have:=azA l (show 0< -f by grind);grind
                ·exact absurd k (nK b)
                ·exact k) a i x)]
 ·rw[h.map_eq (g:=fun a=> -aP a i x) (fun A a j=>by
   obtain⟨-, -,f,b,rfl⟩:=j
   exact xU (by rcases iY f with k|k|k
                ·exact k
                ·exact absurd k (nK b)
                ·rcases iY e with d|d|d
                 ·have:=azA k (show 0< -e by grind);grind
                 ·rw[d,aqQ] at b;exact absurd b (by decide)
                 ·exact absurd d l) a i x)]
  have:=XK (c.map (fun a=>aP a i x)) 0;rw[List.map_map] at this;exact this
def K8{P:Nat->Prop}(h:∃n,P n):∃n,P n∧∀m,P m->n<=m:=by
 obtain⟨n,hn⟩:=h;induction n using Nat.strongRecOn with
 |ind n e=>
  by_cases h:∃m,m<n∧P m
  ·obtain⟨m,a,b⟩:=h;exact e m a b
  ·exact⟨n,hn,fun m d=>Nat.le_of_not_lt (fun c=>h ⟨m,c,d⟩)⟩
def Pm(p:Nat):Prop:=1<p∧∀a b:Int,(p:Int)∣a*b->(p:Int)∣a∨(p:Int)∣b
def K9(h:1<n):∃p,Pm p∧p∣n:=by
 obtain⟨d,⟨j,f⟩,k⟩:=K8 (P:=fun d=>1<d∧d∣n) ⟨n,h,Nat.dvd_refl n⟩;refine⟨d,⟨j,fun a b m=> ?_⟩,f⟩;have g:=aqX d a.natAbs;have o:=bzV a.natAbs (show 0<d by omega);rcases dE 1 (Nat.gcd d a.natAbs) with i|i
 ·left;have l:=k _ ⟨i,bzF g f⟩;have e:Nat.gcd d a.natAbs=d:=byS (aqY (by omega) g) l;have c:=azU d a.natAbs;rw[e] at c;exact Int.ofNat_dvd_left.2 c
 ·right;have e:Nat.Coprime d a.natAbs:=by unfold Nat.Coprime;omega
  have c:=Int.ofNat_dvd_left.1 m;rw[fL] at c;exact Int.ofNat_dvd_left.2 (e.dvd_of_dvd_mul_left c)
def YN{t:Nat->Int}(h:∀k,k<n->p∣t k):p∣bW t n:=by
 induction n with
 |zero=>exact Int.dvd_zero p
 |succ n a=>exact Int.dvd_add (a (fun k b=>h k (by omega))) (h n (by omega))
def YO{t:Nat->Int}(g:j<n)(h:∀k,k<n->k≠j->p∣t k):p∣bW t n-t j:=by
 induction n with
 |zero=>omega
 |succ n f=>
  rw[bW];by_cases e:j=n
  ·subst e;have:=YN (p:=p) (t:=t) (n:=j) (fun k d=>h k (by omega) (by omega));rw[show bW t j+t j-t j=bW t j by omega];exact this
  ·have b:=f (by omega) (fun k d=>h k (by omega));have c:=h n (by omega) (fun a=>e a.symm);rw[show bW t n+t n-t j=bW t n-t j+t n by omega];exact Int.dvd_add b c
def YP{p:Nat}(q:Pm p){f g:Nat->Int}(hi:¬(p:Int)∣f i)(l:∀k,k<i->(p:Int)∣f k)(m:¬(p:Int)∣g j)(o:∀k,k<j->(p:Int)∣g k):¬(p:Int)∣conv f g (i+j):=fun h=>by
 have d:=YO (p:=(p:Int)) (t:=fun k=>f k*g (i+j-k)) (n:=i+j+1) (j:=i) (by omega) (fun k r s=>by
  rcases dE k i with c|c
  ·exact byF (l k c) (Int.dvd_mul_right _ _)
  ·exact byF (o (i+j-k) (by omega)) (Int.dvd_mul_left _ _))
 have b:(p:Int)∣f i*g (i+j-i):=by
  have a:=Int.dvd_sub h d;have e:conv f g (i+j)-(bW (fun k=>f k*g (i+j-k)) (i+j+1)-f i*g (i+j-i))=f i*g (i+j-i):=by
   show bW (fun k=>f k*g (i+j-k)) (i+j+1)-_=_
   omega
  rw[e] at a;exact a
 rw[bzC] at b;rcases q.2 _ _ b with a|a
 ·exact hi a
 ·exact m a
def KC{p:Nat}(j:1<p){f:List Int}(d:bC f=1):∃i,¬(p:Int)∣cf f i∧∀k,k<i->(p:Int)∣cf f k:=by
 obtain⟨i,a,c⟩:=K8 (P:=fun i=>¬(p:Int)∣cf f i) (by
  by_cases h:∃i,¬(p:Int)∣cf f i
  ·exact h
  ·exfalso
   have a:p∣bC f:=CM (fun n hn=>by
    obtain⟨i,e,rfl⟩:=List.mem_iff_getElem.1 hn;rw[<-fZ e];by_cases b:(p:Int)∣cf f i
    ·exact b
    ·exact absurd ⟨i,b⟩ h)
   rw[d] at a;have:=aqY (by decide) a;omega)
 refine⟨i,a,fun k g=> ?_⟩;by_cases h:(p:Int)∣cf f k
 ·exact h
 ·have:=c k h;omega
def YQ{f:List Int}(e:bC f=1)(k:bC g=1){d:Nat}(h:∀i,(d:Int)∣conv (cf f) (cf g) i):d=1:=by
 by_cases c:d=1
 ·exact c
 ·exfalso;obtain⟨p,a,l⟩:∃p,Pm p∧p∣d:=by
   rcases iB d with b|b
   ·obtain⟨p,a, -⟩:=K9 (n:=2) (by decide);exact⟨p,a,by rw[b];exact Nat.dvd_zero p⟩
   ·exact K9 (by omega)
  obtain⟨i,m,o⟩:=KC a.1 e;obtain⟨j,q,r⟩:=KC a.1 k;exact YP a m o q r (byF (Int.ofNat_dvd.2 l) (h (i+j)))
def xZ(h:(bC ns:Int)≠0):bC (aS ns)=1:=by
 have f:bC (aS ns)*bC ns∣bC ns:=CM (fun n hn=>by
  obtain⟨i,a,rfl⟩:=List.mem_iff_getElem.1 hn;rw[<-fZ a,<-lW ns i,az8];refine Int.mul_dvd_mul ?_ (Int.dvd_refl _);have e:i<(aS ns).length:=by rw[dF];exact a
  rw[fZ e];exact CL (aq0 e))
 have b:0<bC ns:=by omega
 have k:=aqY b f;rcases dE 1 (bC (aS ns)) with c|c
 ·have:=dK (bC ns) c;omega
 ·rcases iB (bC (aS ns)) with d|d
  ·exfalso;have g:∀i,cf ns i=0:=fun i=>by
    rw[<-lW ns i];by_cases a:i<(aS ns).length
    ·rw[fZ a,JQ d _ (aq0 a),bxB]
    ·rw[bV (by omega),bxB]
   have j:∀n∈ns,((bC ns+bC ns:Nat):Int)∣n:=fun n hn=>by
    obtain⟨i,a,rfl⟩:=List.mem_iff_getElem.1 hn;rw[<-fZ a,g];exact Int.dvd_zero _
   have l:=aqY b (CM j);omega
  ·omega
def YR(Q:List Rat):∃D:Nat,0<D∧∀q∈Q,(q.den:Int)∣(D:Int):=by
 induction Q with
 |nil=>exact⟨1,by decide,fun q b=>by cases b⟩
 |cons a Q e=>
  obtain⟨D,c,d⟩:=e;refine⟨a.den*D,aqZ a.den_pos c,fun q b=> ?_⟩;rw[az8];rcases List.mem_cons.1 b with rfl|b
  ·exact Int.dvd_mul_right _ _
  ·exact byF (d q b) (Int.dvd_mul_left _ _)
def D7(B:bC g=1)(h:∀i,((cf xs i:Int):Rat)=conv (cf Q) (fun k=>((cf g k:Int):Rat)) i):∃q:List Int,q.length=Q.length∧∀i,cf Q i=((cf q i:Int):Rat):=by
 obtain⟨D,w,A⟩:=YR Q;have hn:=JC Q (D:Int) A;have p:((D:Int):Rat)≠0:=gJ (by omega);have t:=oN Q (D:Int);generalize G:cC Q (D:Int)=N at *;by_cases s:(bC N:Int)=0
 ·refine⟨N,t,fun i=> ?_⟩;have e:cf N i=0:=by
   rw[<-lW N i,s,Int.mul_zero]
  have c:=hn i;rw[e] at c⊢;have f:cf Q i*((D:Int):Rat)=0:=by rw[<-c,aq4]
  rcases Rat.mul_eq_zero.1 f with d|d
  ·rw[d,aq4]
  ·exact absurd d p
 ·have E:=xZ s;have F:∀i,(D:Int)*cf xs i=(bC N:Int)*conv (cf (aS N)) (cf g) i:=fun i=>by
   have e:(((D:Int)*cf xs i:Int):Rat)=(((bC N:Int)*conv (cf (aS N)) (cf g) i:Int):Rat):=by
    rw[eJ,eJ,oD,h i,<-eI,<-eI];refine gL (fun k=> ?_) (fun _=>rfl) i;have c:=hn k;rw[<-lW N k,eJ] at c;grind
   exact Rat.intCast_inj.1 e
  have x:D∣bC N:=by
   have u:=aqX D (bC N);have v:=azU D (bC N);have l:=bzV (bC N) w;obtain⟨a,j⟩:=u;obtain⟨b,r⟩:=v;have z:Nat.Coprime a b:=by
    have:=Nat.coprime_div_gcd_div_gcd (m:=D) (n:=bC N) l;rwa [Nat.div_eq_of_eq_mul_right l j,Nat.div_eq_of_eq_mul_right l r] at this
   have y:a=1:=YQ E B (fun i=>by
    have e:=F i;have c:((Nat.gcd D (bC N):Nat):Int)*((a:Int)*cf xs i)=((Nat.gcd D (bC N):Nat):Int)*((b:Int)*conv (cf (aS N)) (cf g) i):=by
     rw[<-Int.mul_assoc,<-Int.mul_assoc,<-az8,<-az8,<-j,<-r];exact e
    have f:=bzK (by omega) c;have d:(a:Int)∣(b:Int)*conv (cf (aS N)) (cf g) i:=⟨_,f.symm⟩
    have o:=Int.ofNat_dvd_left.1 d;rw[fL,dD] at o;exact Int.ofNat_dvd_left.2 (z.dvd_of_dvd_mul_left o))
   rw[y,az9] at j;rw[j];exact azU _ _
  obtain⟨k,C⟩:=x;refine⟨(aS N).map (·*(k:Int)),by rw[cH,dF];exact t,fun i=> ?_⟩;rw[CC,eJ];have c:=hn i;rw[<-lW N i,C,az8,eJ,eJ] at c;have f:(((cf (aS N) i:Int):Rat)*((k:Int):Rat)-cf Q i)*((D:Int):Rat)=0:=by grind
  rcases Rat.mul_eq_zero.1 f with d|d
  ·grind
  ·exact absurd d p
end Go.Proofs.YtjgbleapffgbcaaGreatDoor
namespace Go.Proofs.YtjgbleapffgbcaaGreatDoor
open Go.RowKit Sos
variable{a b g:List Int}
def y5{B:Nat}(h:Euc B a b g)(i:1<=B):aN a->aN b->(∀n∈a,nl n.natAbs<=B)->(∀n∈b,nl n.natAbs<=B)->aN g∧(∀n∈g,nl n.natAbs<=B)∧g.length<=max a.length b.length:=by
 induction h with
 |done a=>exact fun p _ k _=>⟨p,k,Nat.le_max_left _ _⟩
 |one c=>exact fun _ _ _ _=>⟨oB rfl,fun n hn=>by rw[List.mem_singleton.1 hn];exact aH (cJ (m:=1) (by unfold BN;decide)) i,by rw[c];exact Nat.le_max_right _ _⟩
 |step c h t j=>
  intro _ q _ o;obtain⟨d,e,f⟩:=j q (Q5 h.r_trim) o (gU h.br);rw[dF] at f;have:=h.r_lt;exact⟨d,e,by omega⟩
def GcT(A B:List Rat)(g:List Int):Prop:=∃D E,ComDen A D 8∧ComDen B E 8∧pO 43740 (cC A D) (cC B E) g
def GcT.ok{A B:List Rat}(h:GcT A B g)(p:aN A)(r:aN B)(v:∀q∈A,RL 1 q)(x:∀q∈B,RL 1 q)(y:A.length<=7)(z:B.length<=7):(∃a b,Prp A a∧Prp B b∧Trc 43740 a b g)∧aN g∧(∀n∈g,nl n.natAbs<=43740)∧g.length<=7:=by
 obtain⟨D,E,c,d,h⟩:=h;have s:=oO c.pos c.dvd p;have t:=oO d.pos d.dvd r;have j:=gU (K:=43740) (fun n hn=>aH (sA _ D 1 _ v c.nl_ n hn) (by decide));have k:=gU (K:=43740) (fun n hn=>aH (sA _ E 1 _ x d.nl_ n hn) (by decide));have m:=nM (uE c p);have o:=nM (uE d r);have C:=oN A D;have F:=oN B E;unfold pO at h;split at h
 ·rename_i u;obtain⟨e,f,i⟩:=y5 h (by decide) (Q5 t) (Q5 s) k j;rw[dF,dF] at i;exact⟨⟨_,_,m,o,.inr (.inr ⟨by rw[dF,dF];exact u,h,j⟩)⟩,e,f,by omega⟩
 ·obtain⟨e,f,i⟩:=y5 h (by decide) (Q5 s) (Q5 t) j k;rw[dF,dF] at i;exact⟨⟨_,_,m,o,.inl h⟩,e,f,by omega⟩
section
variable (a b:List (List UInt8))(va vb:Value)(w:World)(hG:Glob w)(ha:StrsAt w va a)(hb':StrsAt w vb b)(hla:a.length<=7)(hlb:b.length<=7)(hsa:∀l∈a,l.length<=6)(hsb:∀l∈b,l.length<=6)
include hG ha hb' hla hlb hsa hsb
end
end Go.Proofs.YtjgbleapffgbcaaGreatDoor
namespace Go.Proofs.YtjgbleapffgbcaaGreatDoor
open Sos
variable{B K j:Nat}{a b g r s w w':List Int}{A:List Rat}{c c':List (List Int)}
def CO(f:Nat->Int)(i:Nat):conv f (cf [1]) i=f i:=by
 have h:∀k,cf [(1:Int)] k=if k=0 then 1 else 0:=fun k=>by
  cases k with
  |zero=>rfl
  |succ k=>rw[bV (by simp)];rfl
 rw[sO,gL h (fun _=>rfl),qE,if_pos (dC _),az5];rfl
def JS(h:Euc B a b g):Dv (cf a) g∧Dv (cf b) g:=by
 induction h with
 |done a=>exact⟨(Dv.self a 1).congr (fun i=>(az5 _).symm),(Dv.zero a).congr (fun i=>eR i)⟩
 | @one a b d=>exact⟨⟨1,a,by decide,fun i=>by rw[CO,az5]⟩,⟨1,b,by decide,fun i=>by rw[CO,az5]⟩⟩
 | @step a b q r g m d h t c=>
  refine⟨Dv.cancel h.m0 ((c.2.lin c.1 q (bC r:Int) 1).congr (fun i=> ?_)),c.1⟩;rw[h.id_ i,fD (bC r:Int),lW r i];omega
def XA(h:Euc B a b g):bC a=1->(b=[]∨bC b=1)->bC g=1:=by
 induction h with
 |done a=>exact fun h _=>h
 |one c=>exact fun _ _=>rfl
 | @step a b q r g m c h t j=>
  intro _ f;have i:b≠[]:=fun e=>by rw[e] at c;simp at c
  refine j (f.resolve_left i) ?_;by_cases d:r=[]
  ·exact .inl (bX (by rw[dF,d];rfl))
  ·exact .inr (xZ (nI h.r_trim d))
def XC(h:bC w=1):aS w=w:=by
 refine bzO (dF w) (fun i a b=> ?_);have:=lW w i;rw[h,fZ a,fZ b] at this;simpa using this
def lE(h:aN w):aN (bB w):=by
 by_cases b:bB w=[]
 ·rw[b];exact fun a c=>by simp at c
 ·have f:=lZ w;have g:(bB w).length≠0:=fun e=>b (bX e);have d:w≠[]:=fun e=>b (by rw[e];rfl);rw[dR b,sB,show(bB w).length-1+1=w.length-1 by omega];exact bxK ((dR d).1 h) (by omega)
structure Sqp(B:Nat)(w s:List Int):Prop where
 out:∃g,Euc B w (aS (bB w)) g∧g≠[]∧aN g∧bC g=1∧s.length+g.length=w.length+1∧∀i,cf w i=conv (cf s) (cf g) i
 ne:s≠[]
 ts:aN s
def XD(v:w≠[])(o:aN w)(z:bC w=1)(h:Euc B w (aS (bB w)) g)(C:aN g):bC g=1∧g≠[]∧∃s,s≠[]∧aN s∧s.length+g.length=w.length+1∧∀i,cf w i=conv (cf s) (cf g) i:=by
 have A:=lE o
 have a:bC g=1:=XA h z (by
  by_cases b:bB w=[]
  ·exact .inl (bX (by rw[dF,b];rfl))
  ·exact .inr (xZ (nI A b)))
 have c:g≠[]:=fun e=>by rw[e] at a;cases a
 refine⟨a,c,?_⟩;obtain⟨k,u,f,n⟩:=(JS h).1;have D:=gJ f
 obtain⟨q, -,t⟩:=D7 (xs:=w) (Q:=aT (1/(k:Rat)) u) a (fun i=>by
  rw[gL (dS _ u) (fun _=>rfl),eI,<-oD,<-n i,eJ];grind)
 have d:∀i,cf w i=conv (cf (aW aV q)) (cf g) i:=fun i=>by
  rw[gL (iS q) (fun _=>rfl)];have p:=n i;have r:((k*cf w i:Int):Rat)=((k*conv (cf q) (cf g) i:Int):Rat):=by
   rw[p,eJ,oD,oD,gL (fun j=>(t j).symm) (fun _=>rfl),gL (dS _ u) (fun _=>rfl),eI];grind
  exact bzK f (Rat.intCast_inj.1 r)
 have m:=jS q;obtain⟨x,y⟩:=K7 m o C c d;have l:aW aV q≠[]:=fun e=>v (x e);exact⟨_,l,m,(y l).symm,d⟩
def XF(h:Euc B a b g):∀{v:Nat} {p f g':List Int},Euc v p f g'->∀{A k:List Rat},Prp A a->Prp A p->Prp k b->Prp k f->cE g=cE g':=by
 induction h with
 |done a=>
  intro v p f g' l A k s w j n;have o:f=[]:=bX (by rw[<-n.1,j.1];rfl);subst o;rw[YM l,<-qT s,<-qT w]
 | @one a b o=>
  intro v p f g' l A k s w j n;have u:f.length=1:=by rw[<-n.1,j.1,o]
  cases l with
  |done=>simp at u
  |one=>rfl
  |step h=>omega
 | @step a b q r g m o h t G=>
  intro v p f g' l A k s w j n;have u:1<f.length:=by rw[<-n.1,j.1];exact o
  have C:b≠[]:=fun e=>by rw[e] at o;simp at o
  cases l with
  |done=>simp at u
  |one h=>omega
  | @step _ _ L M _ K _ l J=>
   obtain⟨Q,R,x⟩:∃Q R,DivQ A k Q R:=by
    obtain⟨H, -,c,E,y⟩:=s;obtain⟨I, -,d,F,z⟩:=j;have:A=aT c a:=oR (by rw[fX];exact H) (fun i=>by rw[y,dS]);rw[this];have:k=aT d b:=oR (by rw[fX];exact I) (fun i=>by rw[z,dS]);rw[this];exact JT h ⟨E,F⟩
   have D:f≠[]:=fun e=>by rw[e] at u;simp at u
   exact G J j n (nM (CT s j C h x)) (nM (CT w n D l x))
def Prp.eq_smul(h:Prp A a):∃c,c≠0∧A=aT c a:=by
 obtain⟨e, -,c,d,b⟩:=h;exact⟨c,d,oR (by rw[fX];exact e) (fun i=>by rw[b,dS])⟩
def XG{c c':Rat}(h:aT c w=aT c' w'):aT c (bB w)=aT c' (bB w'):=by
 have b:w.length=w'.length:=by rw[<-fX c w,h,fX]
 refine oR (by rw[fX,fX,lZ,lZ,b]) (fun i=> ?_);have a:cf (aT c w) (i+1)=cf (aT c' w') (i+1):=by rw[h]
 rw[dS,dS] at a;rw[dS,dS,sB,sB,eJ,eJ,<-azC,<-azC,a]
def CP{c:Rat}(b:c≠0)(ts:aN s)(j:aN g)(d:g≠[])(m:∀i,cf w i=conv (cf s) (cf g) i):∃f,f≠0∧DivQ (aT c w) (cE g) (aT f s) []:=by
 have h:=gJ ((dR d).1 j);refine⟨c*((cf g (g.length-1):Int):Rat),m6 b h,fun i=> ?_,CQ (.inl (m6 b h)) ts,(fun a l=>by simp at l),by rw[(uD j).1];exact List.length_pos_iff.2 d⟩;have e:∀k,cf (cE g) k=(1/((cf g (g.length-1):Int):Rat))*cf g k:=fun k=>by unfold cE;rw[xN];grind
 rw[eR,bx3,gL (dS _ s) e,eI,rF,dS,<-oD,<-m i];grind
def Sqp.unique{r:Nat}{p:List Int}(h:Sqp B w s)(a:Sqp r w' p)(b:Prp A w)(d:Prp A w'):cE s=cE p:=by
 obtain⟨g,u,i,q, -, -,D⟩:=h.out;obtain⟨M,v,C,J, -, -,E⟩:=a.out;obtain⟨c,m,e⟩:=b.eq_smul;obtain⟨K,n,l⟩:=d.eq_smul;have x:=XG (e.symm.trans l);have I:Prp (aT c (bB w)) (bB w):=jY m (lE b.2.1);have p2:Prp (aT c (bB w)) (bB w'):=by rw[x];exact jY n (lE d.2.1)
 have F:=XF u v b d (nM I) (nM p2);obtain⟨f,y,j⟩:=CP m h.ts q i D;obtain⟨L,z,k⟩:=CP n a.ts J C E;rw[<-e] at j;rw[<-l,<-F] at k;have o:=uD q;obtain⟨t, -⟩:=j.unique k (o.ne i) (by rw[o.1];exact List.length_pos_iff.2 i);have G:=qT (jY y h.ts);have H:=qT (jY z a.ts);rw[<-G,<-H];exact congrArg oQ t
structure Cn(B:Nat)(w s:List Int)(c:List (List Int)):Prop where
 sq:Sqp B w s
 st:StT B s (aS (bB s)) c
def fF(s:List Int)(c:List (List Int))(i:Int)(x:Rat)(j:Int)(y:Rat):Int:=(aY 0 ((s :: c).map (fun a=>aP a i x)):Int)-(aY 0 ((s :: c).map (fun a=>aP a j y)):Int)
def pN(s:List Int):cE s=aT (1/((cf s (s.length-1):Int):Rat)) s:=oR (by rw[fX];exact cH _) (fun i=>by rw[dS];unfold cE;rw[xN];grind)
def CN(f:Rat)(s:List Int):fW (aT f s)=aT (f*((bC (bB s):Int):Rat)) (aS (bB s)):=by
 refine oR (by rw[fX,dF,lZ,qO,fX]) (fun i=> ?_);have h:=lW (bB s) i;have a:(((cf (aS (bB s)) i:Int):Rat))*((bC (bB s):Int):Rat)=((cf s (i+1):Int):Rat)*((i+1:Nat):Rat):=by
  rw[<-eJ,h,sB,eJ];congr 1
 rw[tV,dS,dS,azC f _ ((i+1:Nat):Rat),<-a];grind
def Cn.rat(h:Cn B w s c)(i:1<=B):∃C,ChT B s (1/((cf s (s.length-1):Int):Rat)) (aS (bB s)) (1/((cf s (s.length-1):Int):Rat)*((bC (bB s):Int):Rat)) C∧All2 (Sg ((cf s (s.length-1):Int):Rat)) (cE s :: C) (s :: c):=by
 have l:=gJ ((dR h.sq.ne).1 h.sq.ts);have a:0<((cf s (s.length-1):Int):Rat)*(1/((cf s (s.length-1):Int):Rat)):=by
  have:((cf s (s.length-1):Int):Rat)*(1/((cf s (s.length-1):Int):Rat))=1:=by grind
  rw[this];decide
 obtain⟨C,b,d⟩:=XJ h.st ((cf s (s.length-1):Int):Rat) i _ (1/((cf s (s.length-1):Int):Rat)*((bC (bB s):Int):Rat)) a (fun j=>by
  have f:bB s≠[]:=fun e=>j (bX (by rw[dF,e];rfl));have k:=nI (lE h.sq.ts) f;have g:0<((bC (bB s):Int):Rat):=by
   have:(0:Int)<(bC (bB s):Int):=by omega
   exact_mod_cast this
  rw[<-azC];exact azA a g) (Q5 (lE h.sq.ts))
 exact⟨C,b,.cons ⟨h.sq.ne,h.sq.ts,_,a,pN s⟩ d⟩
def Sg.zero{e:Rat}(h:Sg e A a)(i:Int)(x:Rat):cyE A i x=0↔aP a i x=0:=by
 obtain⟨-, -,f,b,rfl⟩:=h;rcases iY f with k|k|k
 ·rw[xU k];omega
 ·exact absurd k (nK b)
 ·rw[uB k]
def Cn.both{b:Nat}{f:List Int}(h:Cn B w s c)(d:Cn b w' f c')(n:1<=B)(o:1<=b)(l:Prp A w)(m:Prp A w'):∃C e k,All2 (Sg e) C (s :: c)∧All2 (Sg k) C (f :: c'):=by
 have a:=h.sq.unique d.sq l m;obtain⟨C,p,i⟩:=h.rat n;obtain⟨g,q,j⟩:=d.rat o;have e:C=g:=p.unique q (by rw[<-pN,<-pN,a]) (by rw[<-CN,<-CN,<-pN,<-pN,a]);exact⟨_,_,_,i,by rw[a,e];exact j⟩
def Cn.same{d:Nat}(h:Cn B w s c)(j:Cn d w' b c')(o:1<=B)(p:1<=d)(m:Prp A w)(n:Prp A w')(i:Int)(x:Rat):aY 0 ((s :: c).map (fun a=>aP a i x))=aY 0 ((b :: c').map (fun a=>aP a i x))∧(aP s i x=0↔aP b i x=0):=by
 obtain⟨C,e,q,f,g⟩:=h.both j o p m n;refine⟨by rw[<-xV f,xV g],?_⟩;cases f with
 |cons k _=>cases g with
  |cons l _=>exact(k.zero i x).symm.trans (l.zero i x)
def Cn.unique{a:Nat}{k:List Int}(h:Cn B w s c)(b:Cn a w' k c')(f:1<=B)(g:1<=a)(d:Prp A w)(e:Prp A w')(i:Int)(x:Rat)(j:Int)(y:Rat):fF s c i x j y=fF k c' i x j y:=by
 unfold fF;rw[(h.same b f g d e i x).1,(h.same b f g d e j y).1]
def MI(h:Prp A w):Prp (fW A) (aS (bB w))∧aW aV (fW A)=fW A:=by
 obtain⟨c,a,rfl⟩:=h.eq_smul
 have e:fW (aT c w)=aT c (bB w):=oR (by rw[qO,fX,fX,lZ]) (fun i=>by
  rw[tV,dS,dS,sB,eJ,azC];congr 2)
 have p:=jY a (lE h.2.1);rw[e];exact⟨nM p,qB p.trim⟩
def qU(n:Int): -1<=n.sign∧n.sign<=1:=by
 rcases aqL n 0 with h|h|h
 ·rw[aqT h];decide
 ·rw[h];decide
 ·rw[aqI h];decide
def YT(a:List Int)(i:Int)(x:Rat): -1<=aP a i x∧aP a i x<=1:=by
 have b:=qU (fE a x.num x.den);have c:=qU (cf a (a.length-1));unfold aP;split
 ·exact b
 ·split<;>omega
def KD{α:Type}(f:α->Int){b:List α}{a:α}(h:b[j]? =some a)(l:Int):aY l ((b.drop j).map f)=if f a=0 then aY l ((b.drop (j+1)).map f) else (if l≠0∧f a≠l then 1 else 0)+aY (f a) ((b.drop (j+1)).map f):=by
 obtain⟨c,rfl⟩:=List.getElem?_eq_some_iff.1 h;rw[j5 c];rfl
def YU{b a c:Nat}(h:(K+1)*(b-a+2)*3^(a-1)<=B)(k:c<a)(j:a<=b)(i:c≠0):(K+(b+1-a)*(K+1)+1)*(a-c+2)*3^(c-1)<=B:=by
 have e:K+(b+1-a)*(K+1)+1=(K+1)*(b-a+2):=by
  rw[show b+1-a=b-a+1 by omega,aqA (b-a) 1 (K+1),iL (K+1) (b-a) 2,dN (b-a) (K+1)];omega
 have f:a-1=(a-c)+(c-1):=by omega
 have g:=JZ (d:=a-c) (by omega);rw[f,KF,<-iW] at h;rw[e];exact aH (dK _ (eV _ g)) h
def YV{b a:Nat}(h:(K+1)*(b-a+2)*3^(a-1)<=B)(d:a<=b):K+(b+1-a)*(K+1)+1<=B:=by
 have c:K+(b+1-a)*(K+1)+1=(K+1)*(b-a+2):=by
  rw[show b+1-a=b-a+1 by omega,aqA (b-a) 1 (K+1),iL (K+1) (b-a) 2,dN (b-a) (K+1)];omega
 rw[c];exact aH (by7 _ (d7 (by decide))) h
def YW{m:Int}(e:aN r)(d:∀n∈r,nl n.natAbs<=K):aN (if 0<m then (aS r).map (·*(-1)) else aS r)∧(∀n∈(if 0<m then (aS r).map (·*(-1)) else aS r),nl n.natAbs<=K)∧(if 0<m then (aS r).map (·*(-1)) else aS r).length=r.length:=by
 have b:=Q5 e;have a:=gU d;split
 ·refine⟨xM (by decide) b,fun n hn=> ?_,by rw[cH,dF]⟩;obtain⟨k,c,rfl⟩:=List.mem_map.1 hn;rw[fL];simpa using a k c
 ·exact⟨b,a,dF r⟩
def StT.mem(h:StT K a b c):aN b->(∀n∈b,nl n.natAbs<=K)->∀x∈c,x≠[]∧aN x∧x.length<=b.length∧∀n∈x,nl n.natAbs<=K:=by
 induction h with
 |done a=>intro _ _ x d;cases d
 |step e h t k=>
  intro q l x d;rcases List.mem_cons.1 d with rfl|d
  ·exact⟨e,q,aE,l⟩
  ·obtain⟨m,o,p⟩:=YW h.r_trim h.br;obtain⟨f,g,i,j⟩:=k m o x d;have:=h.r_lt;rw[p] at i;exact⟨f,g,by omega,j⟩
def StT.len(h:StT K a b c):c.length<=b.length:=by
 induction h with
 |done a=>exact mC 0
 | @step a b q r m c f h t e=>
  have:=h.r_lt;have d:(if 0<m then (aS r).map (·*(-1)) else aS r).length=r.length:=by
   split
   ·rw[cH,dF]
   ·exact dF r
  rw[d] at e;rw[eG];omega
def Sz(s:List Int):Prop:=s.length<=7∧((∀n∈s,nl n.natAbs<=9)∨s.length<=6∧∀n∈s,nl n.natAbs<=150)
def Sz.nums(h:Sz s):∀n∈s,nl n.natAbs<=150:=fun n hn=>by
 rcases h.2 with k|k
 ·exact aH (k n hn) (by decide)
 ·exact k.2 n hn
def Sz.ex(h:Sz s):∃K,(∀n∈s,nl n.natAbs<=K)∧1<=K∧K<=150∧(K+2)*3*3^(s.length-2)<=110079:=by
 rcases h.2 with k|k
 ·refine⟨9,k,by decide,by decide,aH (eV _ (cO (by decide) (show s.length-2<=5 by have:=h.1;omega))) (by decide)⟩
 ·exact⟨150,k.2,by decide,by decide,aH (eV _ (cO (by decide) (show s.length-2<=4 by omega))) (by decide)⟩
end Go.Proofs.YtjgbleapffgbcaaGreatDoor
namespace Go.Proofs.YtjgbleapffgbcaaGreatDoor
open Go.RowKit Sos Tryz
variable{d l n:List UInt8}{a b c:Bool}
def cyJ(l:List UInt8):Bool:=(cL l).isSome
def cyL(h:Digs l)(a:l.length<=9):aO l<1000000000:=by
 have b:=tI h;have c:10^l.length<=10^9:=cO (by decide) a;have d:10^9=1000000000:=rfl;omega
def cxT(h:Digs l)(k:Nat):Digs (l.take k):=fun c a=>h c (lH a)
def cxU(s:ByteArray)(w:World)(b:Digs s.data.toList)(t:s.size<=9):
  Calls prog 69 #[.string s] w fun e w'=>e= .returned (.int .i64 (aO s.data.toList:Nat))∧w=w':=by
 have u:s.data.toList.length=s.size:=by simp
 go_enter func69,ntmps69;go_wp2_with fail;go_loop [3,7] (fun v i=>∃k:Nat,k<=s.size∧i= .int .i64 k∧v= .int .i64 (aO (s.data.toList.take k):Nat)) (fun _ i=>s.size-(intOf i).toNat)
 case atStart=>exact⟨0,by omega,rfl,rfl⟩
 case round=>
  obtain⟨k,r,rfl,rfl⟩:=hrel;have p:(0:Int)<=(k:Int):=by omega
  have q:=cyL (cxT b k) (by rw[bK];omega);by_cases h:k<s.size
  ·have j:(k:Int)<(s.size:Int):=by omega
   have a:s.data.toList[k]? =some s[k]:=by rw[aR (by simpa using h)];rfl
   obtain⟨l,m⟩:=b s[k] (dG a);have n:(48:Int)<=(s[k].toNat:Int):=by omega
   have o:(s[k].toNat:Int)<=57:=by omega
   have d:aO (s.data.toList.take (k+1))=10*aO (s.data.toList.take k)+(s[k].toNat-48):=by
    rw[Q9,a,aqO,oK]
   have f:=aB d;clear a d;generalize aO (s.data.toList.take k)=V at *;go_wp2_with fail;go_round
   case rel=>exact⟨k+1,by omega,by simp,by rw[f.out];congr 1;omega⟩
   case measure=>simp[intOf];omega
  ·have c:k=s.size:=by omega
   have j:¬(k:Int)<(s.size:Int):=by omega
   have g:Hid (s.data.toList.take k=s.data.toList):=by unfold Hid;rw[c];exact cZ (by omega)
   clear c;go_wp2;go_ret;rw[g.out];exact⟨rfl,rfl⟩
def cxH(l:List UInt8)(w:World)(a:Digs l)(b:l.length<=9):Calls prog 69 #[.string ⟨l.toArray⟩] w fun e w'=>e= .returned (.int .i64 (aO l:Nat))∧w=w':=
 cxU ⟨l.toArray⟩ w a (by simpa [ByteArray.size] using b)
def cxV(a b:Nat)(w:World)(l:a<1000000000)(m:b<1000000000):
  Calls prog 70 #[.int .i64 a,.int .i64 b] w fun e w'=>e= .returned (.int .i64 (Nat.gcd a b:Nat))∧Below w.1.size w w':=by
 go_enter func70,ntmps70;go_wp2_with fail;go_loopw [0,1] (fun u v wr=>∃x y:Nat,u= .int .i64 x∧v= .int .i64 y∧x<1000000000∧y<1000000000∧Hid (Nat.gcd x y=Nat.gcd a b)∧Below w.1.size w wr) (fun _ v _=>(intOf v).toNat)
 case atStart=>exact⟨a,b,rfl,rfl,l,m,rfl,aG _ _⟩
 case round=>
  obtain⟨x,y,rfl,rfl,r,t,d,f⟩:=hrel;by_cases c:y=0
  ·have k:((y:Int)==0)=true:=by rw[c];rfl
   have j:Hid (x=Nat.gcd a b):=by have:=d.out;rw[c,bxN] at this;exact this
   have o:(y:Int)=0:=by omega
   clear k;obtain rfl:y=0:=c;go_wp2;go_ret;rw[<-j.out];exact⟨rfl,f⟩
  ·have z:(0:Int)<(y:Int):=by omega
   have s:(0:Int)<=(x:Int):=by omega
   have q:((y:Int)==0)=false:=by simp;exact c
   have g:(x:Int)%(y:Int)=((x%y:Nat):Int):=by omega
   have i:=aB g;have p:x%y<y:=dI _ (by omega);have h:Hid (Nat.gcd y (x%y)=Nat.gcd a b):=by unfold Hid;rw[<-d.out,azD x y,Nat.gcd_rec y x,azD]
   have n:=f.drew;clear g;go_wp2_with fail;go_region
   all_goals (
    go_wp2_with fail;go_roundw
    case rel=>exact⟨y,x%y,rfl,by rw[<-i.out],by omega,by omega,h,n⟩
    case measure=>simp[intOf];omega)
def cxI(h:iA l=some (a,n,[])):cyJ l=true:=by unfold cyJ;rw[TX h];rfl
def cxJ(h:iA l=some (c,n,d))(b:d≠[]):cyJ l=decide (Nat.gcd (aO n) (aO d)=1):=by
 unfold cyJ;rw[IQ h b];by_cases a:Nat.gcd (aO n) (aO d)=1
 ·rw[if_pos a,decide_eq_true a];rfl
 ·rw[if_neg a,decide_eq_false a];rfl
def cyG(l:List UInt8)(n d:Int):Prop:=cyJ l=true∧∃D:Nat,d=(D:Int)∧0<D∧D<1000000000∧n.natAbs<1000000000∧cL l=some (mkRat n D)
def cxK(b:Bool)(n:Nat):(fO b n).natAbs=n:=by
 cases b
 ·exact dD n
 ·show(-(n:Int)).natAbs=n;omega
def cxW(h:iA l=some (a,n,[]))(c:aO n<1000000000):cyG l (fO a (aO n)) 1:=
 ⟨cxI h,1,rfl,by decide,by decide,by rw[cxK];exact c,by rw[TX h,Rat.mkRat_one]⟩
def cxX(h:iA l=some (b,n,d))(a:d≠[])(f:Parts b n d)(c:aO n<1000000000)(c':aO d<1000000000)(e:Nat.gcd (aO n) (aO d)=1):cyG l (fO b (aO n)) (aO d:Nat):=
 ⟨by rw[cxJ h a,decide_eq_true e],aO d,rfl,bzI (wP f.d_digs a f.d_head),c',by rw[cxK];exact c,by rw[IQ h a,if_pos e]⟩
def cyM(l:List UInt8)(w:World)(hl:l.length<=1099511627776):
  Calls prog 25 #[.string ⟨l.toArray⟩] w fun e w'=>∃n d t,e= .returned (.tuple #[.agg #[.int .i64 n,.int .i64 d],.bool t])∧(t=true->cyG l n d)∧Below w.1.size w w':=by
 have av:(⟨l.toArray⟩:ByteArray).size=l.length:=by simp[ByteArray.size]
 have H:=fun W=>U9 l W hl;go_enter func25,ntmps25;by_cases ao:l.length<=20
 ·have ad:¬(20:Int)<(l.length:Int):=by omega
  go_wp2_with fail;have R:=Bx.new w [.int .i64 0,.int .i64 0] 51;have c:Below w.1.size w (w.alloc (.cells #[.int .i64 0,.int .i64 0] 51)):=(aG _ _).alloc aE _;generalize w.alloc (.cells #[.int .i64 0,.int .i64 0] 51)=w0 at *;have ai:=R.lt;refine(H w0).mono ?_;rintro e1 m ⟨i,n,d,t,rfl,F,U,M⟩;clear H;replace R:=R.be M;replace c:=aC c M;have aj:=R.lt;have x:=R.cell 0 rfl;have y:=R.cell 1 rfl;have Z:=R.free 0;have ac:=R.free 1;have au:(⟨n.toArray⟩:ByteArray).size=n.length:=by simp[ByteArray.size]
  have ar:(⟨d.toArray⟩:ByteArray).size=d.length:=by simp[ByteArray.size]
  cases t with
  |false=>
   clear F U;go_wp2_with fail;have a:=(R.set 0 (.int .i64 0)).set 1 (.int .i64 0);replace a:=a.alloc (.cells #[.bool i,.string ⟨n.toArray⟩,.string ⟨d.toArray⟩] 55);have f:=a.cell 0 rfl;have g:=a.cell 1 rfl;have b:=(c.setCell (p:=⟨w.1.size,0,none⟩) aE (.int .i64 0)).setCell (p:=⟨w.1.size,1,none⟩) aE (.int .i64 0);replace b:=b.alloc b.size (.cells #[.bool i,.string ⟨n.toArray⟩,.string ⟨d.toArray⟩] 55);exact aM (v:= .tuple #[.agg #[.int .i64 0,.int .i64 0],.bool false]) (by simp[results,results25,go_sem,f,g]) rfl ⟨_,_,false,rfl,(fun h=>by cases h),b⟩
  |true=>
   have G:=F rfl;obtain⟨s,hj⟩:=I1 G;have T:=s.n_digs;have N:=s.d_digs;have K:=aB G;have X:=aB s;clear F U G s hj;by_cases Q:n.length<=9
   ·by_cases B:d.length<=9
    ·have C:=fun W=>cxH n W T Q;have z:=cyL T Q;have an:(0:Int)<=(aO n:Nat):=by omega
     have S:¬(9:Int)<(n.length:Int):=by omega
     have ae:¬(9:Int)<(d.length:Int):=by omega
     cases d with
     |nil=>
      have q:Hid (cyG l (fO i (aO n)) 1):=cxW K.out z;generalize aO n=V at *;cases i with
      |false=>
       go_wp2_with (go_at_call 69;refine(C _).mono ?_;rintro A I ⟨rfl,rfl⟩);have a:=(R.set 0 (.int .i64 V)).set 1 (.int .i64 1);replace a:=a.alloc (.cells #[.bool false,.string ⟨n.toArray⟩,.string ⟨#[]⟩] 55);replace a:=a.alloc (.cells #[.int .i64 V,.int .i64 1] 51);have f:=a.cell 0 rfl;have g:=a.cell 1 rfl;have b:=(c.setCell (p:=⟨w.1.size,0,none⟩) aE (.int .i64 V)).setCell (p:=⟨w.1.size,1,none⟩) aE (.int .i64 1);replace b:=b.alloc b.size (.cells #[.bool false,.string ⟨n.toArray⟩,.string ⟨#[]⟩] 55);replace b:=b.alloc b.size (.cells #[.int .i64 V,.int .i64 1] 51);exact aM (v:= .tuple #[.agg #[.int .i64 V,.int .i64 1],.bool true]) (by simp[results,results25,go_sem,f,g]) rfl ⟨_,_,true,rfl,(fun _=>q.out),b⟩
      |true=>
       go_wp2_with (go_at_call 69;refine(C _).mono ?_;rintro A I ⟨rfl,rfl⟩);have a:=(R.set 0 (.int .i64 (-V))).set 1 (.int .i64 1);replace a:=a.alloc (.cells #[.bool true,.string ⟨n.toArray⟩,.string ⟨#[]⟩] 55);replace a:=a.alloc (.cells #[.int .i64 (-V),.int .i64 1] 51);have f:=a.cell 0 rfl;have g:=a.cell 1 rfl;have b:=(c.setCell (p:=⟨w.1.size,0,none⟩) aE (.int .i64 (-V))).setCell (p:=⟨w.1.size,1,none⟩) aE (.int .i64 1);replace b:=b.alloc b.size (.cells #[.bool true,.string ⟨n.toArray⟩,.string ⟨#[]⟩] 55);replace b:=b.alloc b.size (.cells #[.int .i64 (-V),.int .i64 1] 51);exact aM (v:= .tuple #[.agg #[.int .i64 (-V),.int .i64 1],.bool true]) (by simp[results,results25,go_sem,f,g]) rfl ⟨_,_,true,rfl,(fun _=>q.out),b⟩
     |cons k j=>
      have af:=fun W=>cxH (k :: j) W N B;have L:=cyL N B;have q:Hid (Nat.gcd (aO n) (aO (k :: j))=1->cyG l (fO i (aO n)) (aO (k :: j):Nat)):=cxX K.out (by simp) X.out z L;have ap:¬(9:Int)<(j.length:Int)+1:=by have:=B;rw[eG] at this;omega
      have aq:(⟨(k :: j).toArray⟩:ByteArray)≠⟨#[]⟩:=fun h=>by injection h with h;simp at h
      generalize aO n=V at *;generalize aO (k :: j)=D at *;go_wp2_with (first|(go_at_call 69;(with_reducible refine(C _).mono ?_);rintro A I ⟨rfl,rfl⟩)|(go_at_call 69;(with_reducible refine(af _).mono ?_);rintro A I ⟨rfl,rfl⟩));have Y:=(R.alloc (.cells #[.bool i,.string ⟨n.toArray⟩,.string ⟨(k :: j).toArray⟩] 55)).alloc (.cells #[.int .i64 V,.int .i64 D] 51);have u:=(Bx.new m [.bool i,.string ⟨n.toArray⟩,.string ⟨(k :: j).toArray⟩] 55).alloc (.cells #[.int .i64 V,.int .i64 D] 51);have o:=Bx.newAt (m.alloc (.cells #[.bool i,.string ⟨n.toArray⟩,.string ⟨(k :: j).toArray⟩] 55)) [.int .i64 V,.int .i64 D] 51 (m.1.size+1) (World.size_alloc _ _);replace c:=(c.alloc c.size (.cells #[.bool i,.string ⟨n.toArray⟩,.string ⟨(k :: j).toArray⟩] 55));replace c:=c.alloc c.size (.cells #[.int .i64 V,.int .i64 D] 51);refine(cxV V D _ z L).mono ?_;rintro e3 w3 ⟨rfl,r⟩;replace R:=Y.be r;replace u:=u.be r;replace o:=o.be r;replace c:=aC c r;replace x:=R.cell 0 rfl;replace y:=R.cell 1 rfl;replace Z:=R.free 0;replace ac:=R.free 1;have ah:=u.cell 0 rfl;have ak:=o.cell 0 rfl;have al:=o.cell 1 rfl;have am:=o.free 0;have ag:m.1.size+1≠w.1.size:=by omega
      by_cases E:Nat.gcd V D=1
      ·have O:(((Nat.gcd V D:Nat):Int)==1)=true:=by rw[E];rfl
       have J:Hid (cyG l (fO i V) (D:Nat)):=q.out E;have P:((Nat.gcd V D:Nat):Int)=1:=by omega
       rw[P];clear E O P;cases i with
       |false=>
        go_wp2_with fail;have a:=(R.set 0 (.int .i64 V)).set 1 (.int .i64 D);have f:=a.cell 0 rfl;have g:=a.cell 1 rfl;have b:=(c.setCell (p:=⟨w.1.size,0,none⟩) aE (.int .i64 V)).setCell (p:=⟨w.1.size,1,none⟩) aE (.int .i64 D);exact aM (v:= .tuple #[.agg #[.int .i64 V,.int .i64 D],.bool true]) (by simp[results,results25,go_sem,f,g]) rfl ⟨_,_,true,rfl,(fun _=>J.out),b⟩
       |true=>
        go_wp2_with fail;replace R:=R.far 0 (.int .i64 (-V)) ag;replace c:=c.setCell (p:=⟨m.1.size+1,0,none⟩) (show w.1.size<=m.1.size+1 by omega) (.int .i64 (-V));have a:=(R.set 0 (.int .i64 (-V))).set 1 (.int .i64 D);have f:=a.cell 0 rfl;have g:=a.cell 1 rfl;have b:=(c.setCell (p:=⟨w.1.size,0,none⟩) aE (.int .i64 (-V))).setCell (p:=⟨w.1.size,1,none⟩) aE (.int .i64 D);exact aM (v:= .tuple #[.agg #[.int .i64 (-V),.int .i64 D],.bool true]) (by simp[results,results25,go_sem,f,g]) rfl ⟨_,_,true,rfl,(fun _=>J.out),b⟩
      ·have O:(((Nat.gcd V D:Nat):Int)==1)=false:=by rw[beq_eq_false_iff_ne];omega
       generalize ((Nat.gcd V D:Nat):Int)=gg at *;go_wp2_with fail;have a:=(R.set 0 (.int .i64 0)).set 1 (.int .i64 0);have f:=a.cell 0 rfl;have g:=a.cell 1 rfl;have b:=(c.setCell (p:=⟨w.1.size,0,none⟩) aE (.int .i64 0)).setCell (p:=⟨w.1.size,1,none⟩) aE (.int .i64 0);exact aM (v:= .tuple #[.agg #[.int .i64 0,.int .i64 0],.bool false]) (by simp[results,results25,go_sem,f,g]) rfl ⟨_,_,false,rfl,(fun h=>by cases h),b⟩
    ·have S:¬(9:Int)<(n.length:Int):=by omega
     have ae:(9:Int)<(d.length:Int):=by omega
     go_wp2_with fail;have a:=(R.set 0 (.int .i64 0)).set 1 (.int .i64 0);replace a:=a.alloc (.cells #[.bool i,.string ⟨n.toArray⟩,.string ⟨d.toArray⟩] 55);have f:=a.cell 0 rfl;have g:=a.cell 1 rfl;have b:=(c.setCell (p:=⟨w.1.size,0,none⟩) aE (.int .i64 0)).setCell (p:=⟨w.1.size,1,none⟩) aE (.int .i64 0);replace b:=b.alloc b.size (.cells #[.bool i,.string ⟨n.toArray⟩,.string ⟨d.toArray⟩] 55);exact aM (v:= .tuple #[.agg #[.int .i64 0,.int .i64 0],.bool false]) (by simp[results,results25,go_sem,f,g]) rfl ⟨_,_,false,rfl,(fun h=>by cases h),b⟩
   ·have S:(9:Int)<(n.length:Int):=by omega
    go_wp2_with fail;have a:=(R.set 0 (.int .i64 0)).set 1 (.int .i64 0);replace a:=a.alloc (.cells #[.bool i,.string ⟨n.toArray⟩,.string ⟨d.toArray⟩] 55);have f:=a.cell 0 rfl;have g:=a.cell 1 rfl;have b:=(c.setCell (p:=⟨w.1.size,0,none⟩) aE (.int .i64 0)).setCell (p:=⟨w.1.size,1,none⟩) aE (.int .i64 0);replace b:=b.alloc b.size (.cells #[.bool i,.string ⟨n.toArray⟩,.string ⟨d.toArray⟩] 55);exact aM (v:= .tuple #[.agg #[.int .i64 0,.int .i64 0],.bool false]) (by simp[results,results25,go_sem,f,g]) rfl ⟨_,_,false,rfl,(fun h=>by cases h),b⟩
 ·have ad:(20:Int)<(l.length:Int):=by omega
  clear H;go_wp2_with fail;have R:=Bx.new w [.int .i64 0,.int .i64 0] 51;have x:=R.cell 0 rfl;have y:=R.cell 1 rfl;have c:Below w.1.size w (w.alloc (.cells #[.int .i64 0,.int .i64 0] 51)):=(aG _ _).alloc aE _;exact aM (v:= .tuple #[.agg #[.int .i64 0,.int .i64 0],.bool false]) (by simp[results,results25,go_sem,x,y]) rfl ⟨_,_,false,rfl,(fun h=>by cases h),c⟩
def cyQ(h:Digs n):nl (aO n)<=n.length:=by
 refine cJ (aZ (tI h) (aqN (by decide) _))
def cxS(l:List UInt8)(w:World)(t:Glob w)(hl:l.length<=1073741824):
  Calls prog 7 #[.string ⟨l.toArray⟩] w fun e w'=>e= .returned (.bool (rd l))∧Below w.1.size w w':=by
 go_enter func7,ntmps7;go_wp2_with fail;refine(cyM l w (by omega)).mono ?_;rintro s w1 ⟨x,y,H,rfl,q,a⟩;cases H with
 |true=>
  have o:Hid (rd l=true):=(q rfl).1;clear q;go_wp2;go_ret;rw[o.out];exact⟨rfl,a.alloc a.size _⟩
 |false=>
  clear q;go_wp2_with fail;replace a:=a.alloc a.size (.cells #[.int .i64 x,.int .i64 y] 51);generalize w1.alloc (.cells #[.int .i64 x,.int .i64 y] 51)=w2 at *;refine(U9 l w2 (by omega)).mono ?_;rintro e3 I ⟨G,n,d,H,rfl,q,D,ah⟩;replace a:=aC a ah;cases H with
  |false=>
   have o:Hid (rd l=false):=by unfold Hid rd;rw[TW (D rfl)];rfl
   clear q D;go_wp2;go_ret;rw[o.out];exact⟨rfl,a.alloc a.size _⟩
  |true=>
   have r:=q rfl;obtain⟨E,X⟩:=I1 r;have C:=E.n_digs;have z:=E.d_digs;obtain⟨ln,ld⟩:=TY X;clear q D E X;cases d with
   |nil=>
    have o:Hid (rd l=true):=cxI r;clear r;go_wp2;go_ret;rw[o.out];exact⟨rfl,a.alloc a.size _⟩
   |cons b c=>
    have o:Hid (rd l=decide (Nat.gcd (aO n) (aO (b :: c))=1)):=cxJ r (by simp);have ak:(⟨(b :: c).toArray⟩:ByteArray)≠⟨#[]⟩:=fun h=>by injection h with h;simp at h
    have L:=aH (cyQ C) ln;have bd:=aH (cyQ z) ld;have Y:=fun W=>FE ⟨n.toArray⟩ W (by simpa using C) (by simp[ByteArray.size];omega);have Z:=fun W=>FE ⟨(b :: c).toArray⟩ W (by simpa using z) (by show(b :: c).toArray.size<=_;rw[bzA];omega);have A:=fun W v u t h1 h2=>qF ((aO n:Nat):Int) ((aO (b :: c):Nat):Int) v u W t h1 h2 1073741824 (by rw[dD];omega) (by rw[dD];omega) (by unfold aJ;omega);simp only[dD] at A;have K:nl (Nat.gcd (aO n) (aO (b :: c)))<=17592186044416:=by
     rcases iB (aO n) with O|O
     ·rw[O,Nat.gcd_zero_left];omega
     ·exact aH (wQ _ _ _ (by omega) L) (by omega)
    have B:=fun W v h=>n6 ((Nat.gcd (aO n) (aO (b :: c)):Nat):Int) v W h (by rw[dD];exact K);have U:decide (((Nat.gcd (aO n) (aO (b :: c)):Nat):Int)=1)=rd l:=by rw[o.out];exact decide_eq_decide.2 ⟨fun h=>by omega,fun h=>by omega⟩
    rw[U] at B;have s:(⟨n.toArray⟩:ByteArray).data.toList=n:=rfl;have M:(⟨(b :: c).toArray⟩:ByteArray).data.toList=b :: c:=rfl;rw[s] at Y;rw[M] at Z;obtain⟨N,V⟩:∃N,N=Nat.gcd (aO n) (aO (b :: c)):=⟨_,rfl⟩;rw[<-V] at A B;clear r C z ln ld L bd s M U o K V;go_wp2_with fail;have F:=Bx.new I [.bool G,.string ⟨n.toArray⟩,.string ⟨(b :: c).toArray⟩] 55;replace a:=a.alloc a.size (.cells #[.bool G,.string ⟨n.toArray⟩,.string ⟨(b :: c).toArray⟩] 55);have ag:=t.be a;generalize hf:I.1.size=f at *;generalize I.alloc (.cells #[.bool G,.string ⟨n.toArray⟩,.string ⟨(b :: c).toArray⟩] 55)=g at *;clear hf;have ai:=F.cell 1 rfl;have aj:=F.cell 2 rfl;have J:=F.lt;have KS:=aB (show∀w',Below g.1.size g w'->(w'.cell? ⟨f,1,none⟩=some (.string ⟨n.toArray⟩)∧w'.cell? ⟨f,2,none⟩=some (.string ⟨(b :: c).toArray⟩)) from fun w' S=>⟨(S.cell (p:=⟨f,1,none⟩) J).trans (F.cell 1 rfl),(S.cell (p:=⟨f,2,none⟩) J).trans (F.cell 2 rfl)⟩)
    go_region_held3 (fun w'=>w'.cell? ⟨f,1,none⟩=some (.string ⟨n.toArray⟩)∧w'.cell? ⟨f,2,none⟩=some (.string ⟨(b :: c).toArray⟩))
     (exact KS.out _ (by with_reducible (repeat (first|exact aG _ _|refine ua ?_|refine ud ?_|refine ut ?_ i|refine ut ?_ j|refine ut ?_ k|refine ut ?_ m|refine us ?_ (by omega)))))
     (first
      |(go_at_call 27;(with_reducible refine(Y _).mono ?_);rintro e5 w5 ⟨v5,rfl,P,i⟩;have l5:=i.size;(try simp at l5);have ac:Below g.1.size g w5:=(by with_reducible (repeat (first|exact aG _ _|refine ua ?_|refine ud ?_|refine ut ?_ i|refine ut ?_ j|refine ut ?_ k|refine ut ?_ m|refine us ?_ (by omega))));have al:=ac.size;obtain⟨s5,A5,k5,c5,rfl⟩:=P.form)
      |(go_at_call 27;(with_reducible refine(Z _).mono ?_);rintro e6 w6 ⟨v6,rfl,Q,j⟩;have l6:=j.size;(try simp at l6);have ad:Below g.1.size g w6:=(by with_reducible (repeat (first|exact aG _ _|refine ua ?_|refine ud ?_|refine ut ?_ i|refine ut ?_ j|refine ut ?_ k|refine ut ?_ m|refine us ?_ (by omega))));have am:=ad.size;obtain⟨s6,A6,k6,c6,rfl⟩:=Q.form)
      |(go_at_call 28;(with_reducible refine(A _ _ _ (ag.be (by with_reducible (repeat (first|exact aG _ _|refine ua ?_|refine ud ?_|refine ut ?_ i|refine ut ?_ j|refine ut ?_ k|refine ut ?_ m|refine us ?_ (by omega))))) (P.be (by with_reducible (repeat (first|exact aG _ _|refine ua ?_|refine ud ?_|refine ut ?_ i|refine ut ?_ j|refine ut ?_ k|refine ut ?_ m|refine us ?_ (by omega))))) (Q.be (by with_reducible (repeat (first|exact aG _ _|refine ua ?_|refine ud ?_|refine ut ?_ i|refine ut ?_ j|refine ut ?_ k|refine ut ?_ m|refine us ?_ (by omega)))))).mono ?_);rintro e7 w7 ⟨v7,rfl,R,k⟩;have l7:=k.size;(try simp at l7);have ae:Below g.1.size g w7:=(by with_reducible (repeat (first|exact aG _ _|refine ua ?_|refine ud ?_|refine ut ?_ i|refine ut ?_ j|refine ut ?_ k|refine ut ?_ m|refine us ?_ (by omega))));have an:=ae.size;obtain⟨s7,A7,k7,c7,rfl⟩:=R.form)
      |(go_at_call 29;(with_reducible refine(B _ _ (R.be (by with_reducible (repeat (first|exact aG _ _|refine ua ?_|refine ud ?_|refine ut ?_ i|refine ut ?_ j|refine ut ?_ k|refine ut ?_ m|refine us ?_ (by omega)))))).mono ?_);rintro e8 w8 ⟨rfl,m⟩;have l8:=m.size;(try simp at l8);have af:Below g.1.size g w8:=(by with_reducible (repeat (first|exact aG _ _|refine ua ?_|refine ud ?_|refine ut ?_ i|refine ut ?_ j|refine ut ?_ k|refine ut ?_ m|refine us ?_ (by omega))));have ao:=af.size;have T:Below g.1.size g w8:=(by with_reducible (repeat (first|exact aG _ _|refine ua ?_|refine ud ?_|refine ut ?_ i|refine ut ?_ j|refine ut ?_ k|refine ut ?_ m|refine us ?_ (by omega))));have Z8:=F.be T;skip))
    all_goals (
     go_wp2;go_ret;exact⟨rfl,aC a T⟩)
end Go.Proofs.YtjgbleapffgbcaaGreatDoor
namespace Go.Proofs.YtjgbleapffgbcaaGreatDoor
open Sos
variable{i j n:Int}
def lC(l:List UInt8)(d:Int):Int:=if l=[] then d else 0
def m5(l:List UInt8):Rat:=if l=[] then 0 else (cL l).getD 0
def nJ(l:List UInt8):Bool:=l=[]||rd l
def jO(i:Int)(x:Rat)(j:Int)(y:Rat):Bool:=if i≠j∨i≠0 then decide (i<j) else decide (x<y)
def qR(t:List Int):∀l,aY l t<=t.length:=by
 induction t with
 |nil=>intro l;exact mC 0
 |cons s t a=>
  intro l;show(if s=0 then aY l t else (if l≠0∧s≠l then 1 else 0)+aY s t)<=t.length+1
  have b:=a l;have c:=a s;split
  ·omega
  ·split<;>omega
def CnZ(w s:List Int)(c:List (List Int)):Prop:=Cn 110079 w s c∧Sqp 24057 w s∧Sz s∧w.length<=7∧∀n∈w,nl n.natAbs<=9
def CntR(A:List Rat)(i:Int)(x:Rat)(j:Int)(y:Rat)(n:Int):Prop:=(jO i x j y=false->n=0)∧(jO i x j y=true->∃w s c,Prp A w∧CnZ w s c∧n=fF s c i x j y)
def CntR.get{A:List Rat}{B:Nat}{w s:List Int}{c:List (List Int)}(d:1<=B)(a:Prp A w)(e:Cn B w s c){x:Rat}{y:Rat}(h:CntR A i x j y n)(g:jO i x j y=true):n=fF s c i x j y:=by
 obtain⟨m,l,k,b,f,rfl⟩:=h.2 g;exact f.1.unique e (by decide) d b a i x j y
end Go.Proofs.YtjgbleapffgbcaaGreatDoor
namespace Go.Proofs.YtjgbleapffgbcaaGreatDoor
open Go.RowKit Sos Tryz
def J1(w:World)(l:List UInt8)(d:Int)(e:Ending)(w':World):Prop:=∃v,e= .returned (.tuple #[v,.bool (nJ l)])∧EndAt w' v (lC l d) (m5 l)∧Below w.1.size w w'
def BW(w:World):RatAt w (.agg #[.bool false,.slice none 0 0,.bool false,.slice none 0 0]) 0:=RatAt.of (IntAt.zero _) (IntAt.zero _) rfl rfl
def J2(l:List UInt8)(d:Int)(w:World)(r:Glob w)(C:l.length<=1073741824):Calls prog 67 #[.string ⟨l.toArray⟩,.int .i64 d] w (J1 w l d):=by
 have D:=fun W r=>wU l W r C;by_cases g:l=[]
 ·have c:Hid (lC l d=d∧m5 l=0∧nJ l=true):=by unfold Hid lC m5 nJ;simp[g]
  subst g;obtain⟨W,f,b,R⟩:=bI w [.bool false,.slice none 0 0,.bool false,.slice none 0 0,.int .i64 0] 107;have u:=R.g5;go_enter func67,ntmps67;go_wp2_with fail;(try rw[f]);clear f;obtain⟨A,e,R,b,z,B⟩:=R.put5 b (by omega) (.bool false) (.slice none 0 0) (.bool false) (.slice none 0 0) (.int .i64 d) rfl rfl;rw[e];clear e;refine aM (v:= .tuple #[.agg #[.bool false,.slice none 0 0,.bool false,.slice none 0 0,.int .i64 d],.bool true]) (by simp[results,results67,go_sem,R.k5]) rfl ⟨.agg #[.bool false,.slice none 0 0,.bool false,.slice none 0 0,.int .i64 d],by rw[c.out.2.2],by rw[c.out.1,c.out.2.1];exact EndAt.of (BW _),b⟩
 ·have c:Hid (lC l d=0∧m5 l=(cL l).getD 0∧nJ l=(cL l).isSome):=by unfold Hid lC m5 nJ;simp[g];rfl
  have G:l.isEmpty=false:=by cases l with
   |nil=>exact absurd rfl g
   |cons a t=>rfl
  clear g;obtain⟨W,f,b,R⟩:=bI w [.bool false,.slice none 0 0,.bool false,.slice none 0 0,.int .i64 0] 107;have u:=R.g5;go_enter func67,ntmps67;go_wp2_with fail;(try rw[f]);clear f;refine(D _ (r.be b)).mono ?_;rintro F E ⟨I,rfl,m,y⟩;obtain⟨p,h,n,j,q,i,o,k,rfl⟩:=m.form;replace R:=R.be y;have H:=R.lt;replace b:=aC b y;obtain⟨J,x,s,P⟩:=bI E [.bool p,.slice h n j,.bool q,.slice i o k] 76;replace R:=R.be s;replace m:=m.be s;replace b:=aC b s;have u:=aa R.g5 P.k4;go_wp2_with fail;(try rw[x]);clear x;obtain⟨A,e,R,b,z,B⟩:=R.put5 b (by omega) (.bool p) (.slice h n j) (.bool q) (.slice i o k) (.int .i64 0) rfl rfl;rw[e];clear e;refine aM (v:= .tuple #[.agg #[.bool p,.slice h n j,.bool q,.slice i o k,.int .i64 0],.bool (cL l).isSome]) (by simp[results,results67,go_sem,R.k5]) rfl ⟨.agg #[.bool p,.slice h n j,.bool q,.slice i o k,.int .i64 0],by rw[c.out.2.2],by rw[c.out.1,c.out.2.1];exact EndAt.of (m.ke z),b⟩
def UL(i j:Int)(x y:Rat)(v u:Value)(w:World)(s:EndAt w v i x)(t:EndAt w u j y)(hi: -1<=i∧i<=1)(R: -1<=j∧j<=1)(K:Nat)(N:RL K x)(O:RL K y)(L:4*K+8<=17592186044416):
  Calls prog 146 #[v,u] w fun e w'=>e= .returned (.bool (jO i x j y))∧Below w.1.size w w':=by
 obtain⟨D,f,z,m,E,g,A,n,rfl⟩:=s.form;obtain⟨F,k,B,o,G,l,C,p,rfl⟩:=t.form;replace s:=s.rat;replace t:=t.rat;have d:=fun W h J=>BY x y (.agg #[.bool D,.slice f z m,.bool E,.slice g A n]) (.agg #[.bool F,.slice k B o,.bool G,.slice l C p]) W h J K N O L;by_cases r:i=j
 ·subst r;have T:(i != i)=false:=by simp
  by_cases q:i=0
  ·subst q;have c:Hid (jO 0 x 0 y=decide ((x-y).num.sign<0)):=by
    unfold Hid jO;rw[if_neg (by simp)];rcases iY (x-y) with h|h|h
    ·rw[(fS _).2 h,decide_eq_true (show x<y by grind)];rfl
    ·rw[h,decide_eq_false (show¬x<y by grind)];rfl
    ·rw[(fS _).1 h,decide_eq_false (show¬x<y by grind)];rfl
   obtain⟨S,I⟩:∃S,(x-y).num.sign=S:=⟨_,rfl⟩;rw[I] at d c;unfold eO at d;clear I;obtain⟨W,b,a,X,Y⟩:=eL w [.bool D,.slice f z m,.bool E,.slice g A n,.int .i64 0] 107 [.bool F,.slice k B o,.bool G,.slice l C p,.int .i64 0] 107;have H:=aa X.g5 Y.g5;go_enter func146,ntmps146;go_wp2_with fail;(try rw[b]);clear b;refine(d _ (s.be a) (t.be a)).mono ?_;rintro Q V ⟨rfl,M⟩;replace a:=aC a M;go_wp2;go_ret;exact⟨by rw[c.out];rfl,a⟩
  ·have c:Hid (jO i x i y=false):=by unfold Hid jO;rw[if_pos (.inr q)];simp
   have P:(i != 0)=true:=by simpa using q
   have U:¬i<i:=by omega
   clear q d;obtain⟨W,b,a,X,Y⟩:=eL w [.bool D,.slice f z m,.bool E,.slice g A n,.int .i64 i] 107 [.bool F,.slice k B o,.bool G,.slice l C p,.int .i64 i] 107;have H:=aa X.g5 Y.g5;go_enter func146,ntmps146;go_wp2_with fail;(try rw[b]);clear b;go_ret;exact⟨by rw[c.out];simp,a⟩
 ·have c:Hid (jO i x j y=decide (i<j)):=by unfold Hid jO;rw[if_pos (.inl r)]
  have P:(i != j)=true:=by simpa using r
  clear r d;obtain⟨W,b,a,X,Y⟩:=eL w [.bool D,.slice f z m,.bool E,.slice g A n,.int .i64 i] 107 [.bool F,.slice k B o,.bool G,.slice l C p,.int .i64 j] 107;have H:=aa X.g5 Y.g5;go_enter func146,ntmps146;go_wp2_with fail;(try rw[b]);clear b;go_ret;exact⟨by rw[c.out];rfl,a⟩
def UM(i:Int)(x:Rat)(a:List Int)(v u:Value)(w:World)(I:EndAt w v i x)(s:WholeAt w u a)(hi: -1<=i∧i<=1)(f:a≠[])(hl:a.length<=65)(K:Nat)(O:∀n∈a,nl n.natAbs<=K)(J:RL K x)(ad:140*K+10<=17592186044416):
  Calls prog 114 #[v,u] w (eO w (aP a i x)):=by
 obtain⟨E,o,C,q,F,p,D,r,rfl⟩:=I.form;obtain⟨A,c,rfl,hc⟩:=s.form;replace I:=I.rat;have t:=fun W h h'=>CB a x (.slice A a.length c) (.agg #[.bool E,.slice o C q,.bool F,.slice p D r]) W h h' K O J hl ad;have Y:=xK (ns:=a) (a:=x.num) (b:=x.den) (T:=BN^K) (fun n h=>mS (O n h)) (mS J.1) (mS J.2);have ac:nl (fE a x.num x.den).natAbs<=K*65+1:=by
  refine cJ (jI Y.1 (aZ (xL (by omega)).1 (cO (by decide) ?_)));have:=eV K (show a.length<=65 by omega);omega
 have z:=fun W u h=>qG (fE a x.num x.den) u W h (by omega);have y:=fun W h=>wS a (.slice A a.length c) W h f (by omega);have af:=List.length_pos_iff.2 f;have bl:=iU O (a.length-1);have B:=fun W u h=>qG (cf a (a.length-1)) u W h (by omega);have G:=fun W=>JO a.length c A W (by omega);unfold dW at t y;unfold eO;have S1:=qU (cf a (a.length-1));obtain⟨S,P⟩:∃S,(cf a (a.length-1)).sign=S:=⟨_,rfl⟩;obtain⟨T,Q⟩:∃T,(fE a x.num x.den).sign=T:=⟨_,rfl⟩;have k:Hid (aP a i x=if i=0 then T else if i<0∧a.length%2=0 then -S else S):=by unfold Hid aP;rw[P,Q]
 rw[P] at S1 B;rw[Q] at z;clear Y ac bl P Q f J;generalize fE a x.num x.den=hv at *;generalize cf a (a.length-1)=cl at *;by_cases f:i=0
 ·subst f;have l:Hid (aP a 0 x=T):=by unfold Hid;rw[k.out,if_pos rfl]
  clear y B G k;obtain⟨W,e,d,X⟩:=bI w [.bool E,.slice o C q,.bool F,.slice p D r,.int .i64 0] 107;have L:=X.g5;go_enter func114,ntmps114;go_wp2_with fail;(try rw[e]);clear e;refine(t _ (s.be d) (I.be d)).mono ?_;rintro M U ⟨R,rfl,m,g⟩;replace d:=aC d g;go_wp2_with fail;refine(z _ _ m).mono ?_;rintro N V ⟨rfl,j⟩;go_wp2;go_ret;exact⟨by rw[l.out];rfl,aC d j⟩
 ·have ae:i= -1∨i=1:=by omega
  rcases ae with rfl|rfl
  ·by_cases H:a.length%2=0
   ·have l:Hid (aP a (-1) x= -S):=by unfold Hid;rw[k.out,if_neg f,if_pos ⟨by decide,H⟩]
    have r0:((a.length:Int)-1).tmod 2=1:=by rw[bz3 (by omega)];omega
    clear t z k H f;obtain⟨W,e,d,X⟩:=bI w [.bool E,.slice o C q,.bool F,.slice p D r,.int .i64 (-1)] 107;have L:=X.g5;go_enter func114,ntmps114;go_wp2_with fail;(try rw[e]);clear e;refine(y _ (s.be d)).mono ?_;rintro M U ⟨R,rfl,m,g⟩;replace X:=X.be g;replace d:=aC d g;go_wp2_with fail;refine(B _ _ m).mono ?_;rintro N V ⟨rfl,j⟩;replace X:=X.be j;replace d:=aC d j;have Z:=X.k5;go_wp2_with fail;refine(G _).mono ?_;rintro e3 w3 ⟨rfl,rfl⟩;go_wp2;go_ret;exact⟨by rw[l.out];rfl,d⟩
   ·have l:Hid (aP a (-1) x=S):=by unfold Hid;rw[k.out,if_neg f,if_neg (fun h=>H h.2)]
    have r0:((a.length:Int)-1).tmod 2=0:=by rw[bz3 (by omega)];omega
    clear t z k H f;obtain⟨W,e,d,X⟩:=bI w [.bool E,.slice o C q,.bool F,.slice p D r,.int .i64 (-1)] 107;have L:=X.g5;go_enter func114,ntmps114;go_wp2_with fail;(try rw[e]);clear e;refine(y _ (s.be d)).mono ?_;rintro M U ⟨R,rfl,m,g⟩;replace X:=X.be g;replace d:=aC d g;go_wp2_with fail;refine(B _ _ m).mono ?_;rintro N V ⟨rfl,j⟩;replace X:=X.be j;replace d:=aC d j;have Z:=X.k5;go_wp2_with fail;refine(G _).mono ?_;rintro e3 w3 ⟨rfl,rfl⟩;go_wp2;go_ret;exact⟨by rw[l.out];rfl,d⟩
  ·have l:Hid (aP a 1 x=S):=by unfold Hid;rw[k.out,if_neg f,if_neg (fun h=>absurd h.1 (by decide))]
   clear t z G k f;obtain⟨W,e,d,X⟩:=bI w [.bool E,.slice o C q,.bool F,.slice p D r,.int .i64 1] 107;have L:=X.g5;go_enter func114,ntmps114;go_wp2_with fail;(try rw[e]);clear e;refine(y _ (s.be d)).mono ?_;rintro M U ⟨R,rfl,m,g⟩;replace X:=X.be g;replace d:=aC d g;go_wp2_with fail;refine(B _ _ m).mono ?_;rintro N V ⟨rfl,j⟩;replace X:=X.be j;replace d:=aC d j;have Z:=X.k5;go_wp2;go_ret;exact⟨by rw[l.out];rfl,d⟩
end Go.Proofs.YtjgbleapffgbcaaGreatDoor
namespace Go.Proofs.YtjgbleapffgbcaaGreatDoor
open Sos
variable{M N R c x y:Rat}{a b d f h l u:List Rat}{B H L:Nat}{g s w:List Int}
def ab(y M:Rat):Prop:= -M<=y∧y<=M
def ab.mono(h:ab y M)(c:M<=N):ab y N:=by have a:=h.1;have b:=h.2;constructor<;>grind
def ab.neg(h:ab y M):ab (-y) M:=by have a:=h.1;have b:=h.2;constructor<;>grind
def ab.add(h:ab x M)(k:ab y N):ab (x+y) (M+N):=by have a:=h.1;have b:=h.2;have c:=k.1;have d:=k.2;constructor<;>grind
def ab.mul(h:ab x M)(k:ab y N):ab (x*y) (M*N):=by
 have e:=h.1;have f:=h.2;have g:=k.1;have i:=k.2
 have a:=cA (show 0<=M-x by grind) (show 0<=N+y by grind);have b:=cA (show 0<=M+x by grind) (show 0<=N-y by grind);have c:=cA (show 0<=M-x by grind) (show 0<=N-y by grind);have d:=cA (show 0<=M+x by grind) (show 0<=N+y by grind);constructor<;>grind
def axN(q:Rat):∃M,0<=M∧ab q M:=by
 rcases iY q with h|h|h
 ·exact⟨-q,by grind,by constructor<;>grind⟩
 ·exact⟨0,by grind,by constructor<;>grind⟩
 ·exact⟨q,by grind,by constructor<;>grind⟩
def gV(a:Rat)(l:List Rat)(x:Rat):aI (a :: l) x=aI l x*x+a:=rfl
def LK(h:∀i,cf l i=0)(x:Rat):aI l x=0:=by
 induction l with
 |nil=>rfl
 |cons a l b=>
  rw[gV,b (fun i=>h (i+1)),show a=0 from h 0];grind
def oT:∀{b:List Rat},(∀i,cf a i=cf b i)->∀x,aI a x=aI b x:=by
 induction a with
 |nil=>intro b h x;rw[LK (fun i=>(h i).symm.trans (eR i))];rfl
 |cons p a c=>
  intro b h x;cases b with
  |nil=>rw[LK (fun i=>(h i).trans (eR i))];rfl
  |cons q b=>rw[gV,gV,c (fun i=>h (i+1)),show p=q from h 0]
def j0:List Rat->List Rat->List Rat
 |[],b=>b
 |a,[]=>a
 |p :: a,q :: b=>(p+q) :: j0 a b
def DP(a:List Rat):∀(b:List Rat) (i:Nat),cf (j0 a b) i=cf a i+cf b i:=by
 induction a with
 |nil=>intro b i;rw[eR,bxT];rfl
 |cons p a c=>
  intro b i;cases b with
  |nil=>rw[eR,bx3];rfl
  |cons q b=>
   cases i with
   |zero=>rfl
   |succ i=>exact c b i
def lG(a:List Rat):∀(b:List Rat) (x:Rat),aI (j0 a b) x=aI a x+aI b x:=by
 induction a with
 |nil=>intro b x;show aI b x=0+aI b x;rw[bxT]
 |cons p a c=>
  intro b x;cases b with
  |nil=>show aI (p :: a) x=aI (p :: a) x+0;rw[bx3]
  |cons q b=>
   show aI (j0 a b) x*x+(p+q)=(aI a x*x+p)+(aI b x*x+q)
   rw[c];grind
def iI(c:Rat)(l:List Rat)(x:Rat):aI (l.map (fun q=>c*q)) x=c*aI l x:=by
 induction l with
 |nil=>show(0:Rat)=c*0;rw[dU]
 |cons a l b=>
  show aI (l.map (fun q=>c*q)) x*x+c*a=c*(aI l x*x+a)
  rw[b];grind
def fG(q b:List Rat):List Rat:=q.foldr (fun a r=>j0 (b.map (fun y=>a*y)) (0 :: r)) []
def fY(q b:List Rat)(x:Rat):aI (fG q b) x=aI q x*aI b x:=by
 induction q with
 |nil=>show(0:Rat)=0*aI b x;rw[aqQ]
 |cons a q c=>
  show aI (j0 (b.map (fun y=>a*y)) (0 :: fG q b)) x=(aI q x*x+a)*aI b x
  rw[lG,iI,gV,c];grind
def axO(f:Nat->Rat)(n:Nat):bW f (n+1)=f 0+bW (fun k=>f (k+1)) n:=by
 induction n with
 |zero=>show 0+f 0=f 0+0;grind
 |succ n a=>show bW f (n+1)+f (n+1)=f 0+(bW (fun k=>f (k+1)) n+f (n+1));rw[a];grind
def uU(q b:List Rat):∀i,cf (fG q b) i=conv (cf q) (cf b) i:=by
 induction q with
 |nil=>intro i;rw[lK (fun k=>eR k)];exact eR i
 |cons a q c=>
  intro i;show cf (j0 (b.map (fun y=>a*y)) (0 :: fG q b)) i=_
  rw[DP,mG (fun y=>a*y) (dU a)];unfold conv
  rw[axO];show a*cf b i+cf (0 :: fG q b) i=a*cf b (i-0)+bW (fun k=>cf q k*cf b (i-(k+1))) i
  rw[byA];congr 1;cases i with
  |zero=>rfl
  |succ i=>
   show cf (fG q b) i=_
   rw[c];unfold conv
   exact mH (fun k _=>by rw[show i+1-(k+1)=i-k by omega])
def axP{A Q B C:List Rat}(h:∀i,cf A i=conv (cf Q) (cf B) i+cf C i)(x:Rat):aI A x=aI Q x*aI B x+aI C x:=by
 rw[<-fY,<-lG];exact oT (fun i=>by rw[h,DP,uU]) x
def axQ(l:List Rat)(d:0<=R):∃M,0<=M∧∀x,ab x R->ab (aI l x) M:=by
 induction l with
 |nil=>exact⟨0,by grind,fun x _=>by show ab 0 0;constructor<;>grind⟩
 |cons a l e=>
  obtain⟨M,c,h⟩:=e;obtain⟨N,f,k⟩:=axN a;exact⟨M*R+N,by have:=cA c d;grind,fun x b=>by rw[gV];exact((h x b).mul b).add k⟩
def bM:List Rat->Rat->Rat
 |[],_=>0
 |_ :: l,x=>bM l x*x+aI l x
def axR(l:List Rat)(b:0<=R):∃M,0<=M∧∀x y,ab x R->ab y R->x<=y->ab (aI l y-aI l x) (M*(y-x)):=by
 induction l with
 |nil=>exact⟨0,by grind,fun x y _ _ _=>by show ab (0-0) (0*(y-x));constructor<;>grind⟩
 |cons a l j=>
  obtain⟨M,g,h⟩:=j;obtain⟨N,o,n⟩:=axQ l b;refine⟨M*R+N,by have:=cA g b;grind,fun x y c d i=> ?_⟩;have e:aI (a :: l) y-aI (a :: l) x=(aI l y-aI l x)*y+aI l x*(y-x):=by rw[gV,gV];grind
  rw[e];have k:=(h x y c d i).mul d;have m:ab (aI l x*(y-x)) (N*(y-x)):=(n x c).mul ⟨by grind,by grind⟩;have f:(M*R+N)*(y-x)=M*(y-x)*R+N*(y-x):=by grind
  rw[f];exact k.add m
def qW(l:List Rat)(x:Rat):bM l x=aI (fW l) x:=by
 have c:∀(l:List Rat) (n:Nat),aI ((List.range l.length).map (fun i=>cf l i*((i+n:Nat):Rat))) x=bM l x*x+(n:Rat)*aI l x:=by
  intro l;induction l with
  |nil=>intro n;show(0:Rat)=0*x+(n:Rat)*0;grind
  |cons a l b=>
   intro n;rw[eG,List.range_succ_eq_map,fM,List.map_map,gV];have e:(List.range l.length).map ((fun i=>cf (a :: l) i*((i+n:Nat):Rat)) ∘ Nat.succ)=(List.range l.length).map (fun i=>cf l i*((i+(n+1):Nat):Rat)):=by
    refine by3 (fun i _=> ?_);show cf l i*((i+1+n:Nat):Rat)=_
    rw[show i+1+n=i+(n+1) by omega]
   rw[e,b];show(bM l x*x+((n+1:Nat):Rat)*aI l x)*x+a*((0+n:Nat):Rat)=(bM l x*x+aI l x)*x+(n:Rat)*(aI l x*x+a)
   rw[bA,Rat.natCast_add];have:((1:Nat):Rat)=1:=rfl;rw[this];grind
 cases l with
 |nil=>rfl
 |cons a l=>
  have h:=c l 1;have:((1:Nat):Rat)=1:=rfl;rw[this,azF] at h;show bM l x*x+aI l x=_
  rw[<-h];rfl
def DQ:(∀x,aI l x=0)->∀i,cf l i=0:=by
 induction l with
 |nil=>exact fun _ i=>eR i
 |cons a l z=>
  intro h;have g:a=0:=by have:=h 0;rw[gV,dU,bxT] at this;exact this
  have d:∀x,x≠0->aI l x=0:=fun x b=>by
   have:=h x;rw[gV,g,bx3] at this;exact(Rat.mul_eq_zero.1 this).resolve_right b
  have o:aI l 0=0:=by
   obtain⟨M,C,q⟩:=axR l (R:=1) (by decide);have A:∀v:Rat,aI l 0=v->∀x,0<x->x<=1->ab v (M*x):=fun v hv x b c=>by
    have:=q 0 x (by constructor<;>decide) ⟨by grind,c⟩ (az6 b);rw[d x (by grind),hv] at this;have e:x-0=x:=by grind
    rw[e] at this;have:=this.neg;have n: -(0-v)=v:=by grind
    rwa [n] at this
   obtain⟨v,hv⟩:∃v,aI l 0=v:=⟨_,rfl⟩;rw[hv];have k:=A v hv;have f:0<M+1:=by grind
   have m:∀u:Rat,0<u->(∀x,0<x->x<=1->u<=M*x)->False:=fun u E j=>by
    obtain⟨y,t,s⟩:∃y,0<y∧y*(M+1)=u/2:=⟨u/2/(M+1),by rw[azE];exact azA (by grind) (Rat.inv_pos.2 f),gW (by grind)⟩;by_cases w:y<=1
    ·have:=j y t w;have e:y*(M+1)=M*y+y:=by grind
     rw[e] at s;grind
    ·have B:=j 1 (by decide) (by decide);have:=cA (show 0<=y-1 by grind) (az6 f);grind
   rcases iY v with D|h|r
   ·exact(m (-v) (by grind) (fun x b c=>by have:=(k x b c).1;grind)).elim
   ·exact h
   ·exact(m v r (fun x b c=>(k x b c).2)).elim
  have p:∀x,aI l x=0:=fun x=>by
   by_cases b:x=0
   ·rw[b];exact o
   ·exact d x b
  intro i;cases i with
  |zero=>exact g
  |succ i=>exact z p i
def LL(h:∀x,aI a x=aI b x)(i:Nat):cf a i=cf b i:=by
 have:=DQ (l:=j0 a (b.map (fun q=>(-1)*q))) (fun x=>by rw[lG,iI,h];grind) i;rw[DP,mG (fun q=>(-1)*q) (dU _)] at this;generalize cf a i=p at *;generalize cf b i=q at *;clear h;grind
def axS(h:∀i,cf a i=cf b i)(x:Rat):bM a x=bM b x:=by
 rw[qW,qW];exact oT (fun i=>by rw[tV,tV,h]) x
def axT(a:List Rat):∀(b:List Rat) (x:Rat),bM (j0 a b) x=bM a x+bM b x:=by
 induction a with
 |nil=>intro b x;show bM b x=0+bM b x;rw[bxT]
 |cons p a c=>
  intro b x;cases b with
  |nil=>show bM (p :: a) x=bM (p :: a) x+0;rw[bx3]
  |cons q b=>
   show bM (j0 a b) x*x+aI (j0 a b) x=(bM a x*x+aI a x)+(bM b x*x+aI b x)
   rw[c,lG];grind
def axU(c:Rat)(l:List Rat)(x:Rat):bM (l.map (fun q=>c*q)) x=c*bM l x:=by
 induction l with
 |nil=>show(0:Rat)=c*0;rw[dU]
 |cons a l b=>
  show bM (l.map (fun q=>c*q)) x*x+aI (l.map (fun q=>c*q)) x=c*(bM l x*x+aI l x)
  rw[b,iI];grind
def LM(q b:List Rat)(x:Rat):bM (fG q b) x=bM q x*aI b x+aI q x*bM b x:=by
 induction q with
 |nil=>show(0:Rat)=0*aI b x+0*bM b x;grind
 |cons a q c=>
  show bM (j0 (b.map (fun y=>a*y)) (0 :: fG q b)) x=(bM q x*x+aI q x)*aI b x+(aI q x*x+a)*bM b x
  rw[axT,axU];show a*bM b x+(bM (fG q b) x*x+aI (fG q b) x)=_
  rw[c,fY];grind
def uV(h:∀x,aI f x=aI u x*aI d x)(x:Rat):bM f x=bM u x*aI d x+aI u x*bM d x:=by
 rw[<-LM];exact axS (fun i=>LL (fun y=>by rw[h,fY]) i) x
def DvE(f:Rat->Rat)(d:List Rat):Prop:=∃u:List Rat,∀x,f x=aI u x*aI d x
def DvE.lin{f g:Rat->Rat}(h:DvE f d)(k:DvE g d)(c:Rat)(q:List Rat):DvE (fun x=>c*f x+aI q x*g x) d:=by
 obtain⟨u,a⟩:=h;obtain⟨v,hv⟩:=k;exact⟨j0 (u.map (fun y=>c*y)) (fG q v),fun x=>by rw[lG,iI,fY];show c*f x+aI q x*g x=_;rw[a,hv];grind⟩
def DvE.congr{f g:Rat->Rat}(h:DvE f d)(e:∀x,g x=f x):DvE g d:=by
 obtain⟨u,a⟩:=h;exact⟨u,fun x=>by rw[e,a]⟩
def aX(a:List Int)(x:Rat):Rat:=aI (aT 1 a) x
def sH{A Q B C:List Int}{m:Int}(h:∀i,m*cf A i=conv (cf Q) (cf B) i+cf C i)(x:Rat):(m:Rat)*aX A x=aX Q x*aX B x+aX C x:=by
 unfold aX;rw[<-iI];refine axP (fun i=> ?_) x;rw[mG (fun q=>(m:Rat)*q) (dU _),dS,dS,gL (dS 1 Q) (dS 1 B),eI,rF,<-oD];have:=h i;have a:((m*cf A i:Int):Rat)=((conv (cf Q) (cf B) i+cf C i:Int):Rat):=by rw[this]
 rw[eJ,aqE] at a;grind
def DR{a b:List Int}(h:∀i,((cf a i:Int):Rat)=c*cf b i)(x:Rat):aX a x=c*aX b x:=by
 unfold aX;rw[<-iI];refine oT (fun i=> ?_) x;rw[mG (fun q=>c*q) (dU _),dS,dS,h];grind
def pR(r:List Int)(x:Rat):aX r x=((bC r:Int):Rat)*aX (aS r) x:=DR (fun i=>by rw[<-lW r i,eJ,byD]) x
def DS(x:Rat):aX [] x=0:=rfl
def axV{a b:List Int}(h:Euc B a b g):aN b->∀d,DvE (aX a) d->DvE (aX b) d->DvE (aX g) d:=by
 induction h with
 |done a=>exact fun _ d h _=>h
 | @one a b i=>
  intro k d _ h;obtain⟨y,rfl⟩:=List.length_eq_one_iff.1 i;have z:=gJ (k y rfl);obtain⟨u,p⟩:=h;refine⟨u.map (fun q=>(1/(y:Rat))*q),fun x=> ?_⟩;have c:=p x;have e:aX [y] x=y:=by show(0:Rat)*x+1*(y:Rat)=y;grind
  have l:aX [1] x=1:=by show(0:Rat)*x+1*((1:Int):Rat)=1;rw[bxS];grind
  rw[e] at c;rw[l,iI,azC,<-c];grind
 | @step a b q r g m i h t s=>
  intro k d n j;refine s (Q5 h.r_trim) d j ?_;by_cases f:r=[]
  ·have o:aS r=[]:=bX (by rw[dF,f];rfl);rw[o];exact⟨[],fun x=>by show(0:Rat)=0*_;grind⟩
  ·have w:=gJ (nI h.r_trim f)
   obtain⟨v,hv⟩:=(n.lin j (m:Rat) (aT (-1) q)).congr (g:=aX r) (fun x=>by
    have:=sH h.id_ x;have e:aI (aT (-1) q) x= -aX q x:=by rw[uA,aX,uA];grind
    rw[e];grind)
   refine⟨v.map (fun q=>(1/((bC r:Int):Rat))*q),fun x=> ?_⟩;have c:=hv x;rw[pR] at c;rw[iI,azC,<-c];grind
def fJ(h:List Rat):Nat->List Rat
 |0=>[1]
 |n+1=>fG (fJ h n) h
def LN(h:List Rat)(n:Nat)(x:Rat):aI h x*bM (fJ h n) x=(n:Rat)*aI (fJ h n) x*bM h x:=by
 induction n with
 |zero=>show aI h x*(0*x+0)=((0:Nat):Rat)*_*_;rw[show((0:Nat):Rat)=0 from rfl];grind
 |succ n a=>
  show aI h x*bM (fG (fJ h n) h) x=((n+1:Nat):Rat)*aI (fG (fJ h n) h) x*bM h x
  rw[LM,fY,Rat.natCast_add,show((1:Nat):Rat)=1 from rfl];generalize bM (fJ h n) x=p at *;generalize aI (fJ h n) x=q at *;generalize aI h x=y at *;have:y*(p*y+q*bM h x)=y*p*y+y*q*bM h x:=by grind
  rw[this,a];grind
def axW(d:cf h L≠0)(c:∀i,L<i->cf h i=0)(n:Nat):cf (fJ h n) (n*L)≠0∧∀i,n*L<i->cf (fJ h n) i=0:=by
 induction n with
 |zero=>exact⟨by rw[azW];show(1:Rat)≠0;decide,fun i a=>by show cf [1] i=0;exact bV (by show 1<=i;omega)⟩
 |succ n b=>
  rw[aqA,aqD];refine⟨?_,fun i a=> ?_⟩
  ·show cf (fG (fJ h n) h) (n*L+L)≠0
   rw[uU,p5 b.2 c];exact m6 b.1 d
  ·show cf (fG (fJ h n) h) i=0
   rw[uU];exact rG (m:=n*L+1) (n:=L+1) (fun i a=>b.2 i (by omega)) (fun i a=>c i (by omega)) (by omega)
def axX(f:g≠[])(t:aN g)(j:1<=L)(l:cf h L≠0)(q:∀i,L<i->cf h i=0):¬∀n,DvE (aX g) (fJ h n):=fun m=>by
 obtain⟨c,o⟩:=m g.length;have b:∀i,cf (aT 1 g) i=conv (cf (aW aV c)) (cf (fJ h g.length)) i:=fun i=>by
  rw[gL (iS c) (fun _=>rfl),<-uU];exact LL (fun x=>by rw[fY];exact o x) i
 have u:=List.length_pos_iff.2 f;have s:=jS c;generalize aW aV c=d at *;by_cases e:d=[]
 ·have:=b (g.length-1);rw[e,lK (fun k=>eR k),dS,azF] at this;exact gJ ((dR f).1 t) this
 ·have p:=(dR e).1 s;obtain⟨r,p2⟩:=axW l q g.length;have a:=b (d.length-1+g.length*L);rw[p5 (fun i hi=>bV (by omega)) p2,bV (by rw[fX];have:=by7 g.length j;omega)] at a;exact m6 p r a.symm
def yM(a:List Int)(x:Rat):aX (bB a) x=bM (aT 1 a) x:=by
 rw[qW];unfold aX;refine oT (fun i=> ?_) x;rw[dS,tV,dS,sB,eJ,azF,azF];congr 1
def axY(h:Sqp B w s)(Z:aN w)(H:DvE (aX s) d)(I:DvE (aX (bB s)) d):∀i,1<=i->cf d i=0:=by
 obtain⟨g,K,N,Y, -, -,P⟩:=h.out;obtain⟨a,f⟩:=H;obtain⟨b,M⟩:=I;have z:=lE Z;have u:∀x,aX w x=aX s x*aX g x:=fun x=>by
  have:=sH (A:=w) (Q:=s) (B:=g) (C:=[]) (m:=1) (fun i=>by rw[eR,az5,P];omega) x;rw[bxS,DS] at this;grind
 have S:∀x,bM (aT 1 s) x=bM a x*aI d x+aI a x*bM d x:=uV (fun x=>f x);have T:∀x,bM (aT 1 w) x=bM (aT 1 s) x*aX g x+aX s x*bM (aT 1 g) x:=uV (fun x=>u x);have L:∀n,DvE (aX g) (fJ d n):=fun n=>by
  induction n with
  |zero=>exact⟨aT 1 g,fun x=>by show aX g x=aX g x*(0*x+1);grind⟩
  |succ n U=>
   obtain⟨c,k⟩:=U;have O:∀x,bM (aT 1 g) x=bM c x*aI (fJ d n) x+aI c x*bM (fJ d n) x:=uV (fun x=>k x);refine axV K (Q5 z) _ ⟨fG a c,fun x=> ?_⟩ ?_
   ·show aX w x=aI (fG a c) x*aI (fG (fJ d n) d) x
    rw[u,f,k,fY,fY];grind
   ·have J:DvE (aX (bB w)) (fJ d (n+1)):=by
     refine⟨j0 (fG b c) (j0 (fG a (fW c)) ((fG c (j0 b ((fW a).map (fun y=>(-1)*y)))).map (fun y=>(n:Rat)*y))),fun x=> ?_⟩;show _=_*aI (fG (fJ d n) d) x
     have e1:=S x;have D:=T x;have E:=O x;have F:=LN d n x;have o:=M x;have p:=f x;have G:=k x;rw[yM] at o;rw[yM,lG,lG,iI,fY,fY,fY,fY,lG,iI,<-qW,<-qW];have V:aI a x*bM d x=aI b x*aI d x-bM a x*aI d x:=by grind
     have W:aX s x*(aI c x*bM (fJ d n) x)=aI a x*aI c x*((n:Rat)*aI (fJ d n) x*bM d x):=by rw[<-F,p];grind
     have X:aI a x*aI c x*((n:Rat)*aI (fJ d n) x*bM d x)=aI c x*(n:Rat)*aI (fJ d n) x*(aI b x*aI d x-bM a x*aI d x):=by rw[<-V];grind
     rw[D,E,Rat.mul_add,W,X,o,G,p];grind
    by_cases r:bB w=[]
    ·have R:aS (bB w)=[]:=bX (by rw[dF,r];rfl);rw[R];exact⟨[],fun x=>by show(0:Rat)=0*_;grind⟩
    ·have ac:=gJ (nI z r);obtain⟨v,hv⟩:=J;refine⟨v.map (fun q=>(1/((bC (bB w):Int):Rat))*q),fun x=> ?_⟩;have e:=hv x;rw[pR] at e;rw[iI,azC,<-e];grind
 intro i hi;by_cases l:aW aV d=[]
 ·rw[<-iS d i,l,eR]
 ·have hl:=List.length_pos_iff.2 l;have t:=(dR l).1 (jS d);rw[iS] at t;rcases dE 1 (aW aV d).length with e|e
  ·exact absurd L (axX N Y (show 1<=(aW aV d).length-1 by omega) t (fun j hj=>by rw[<-iS d j];exact bV (by omega)))
  ·rw[<-iS d i];exact bV (by omega)
def cyF:List Int->Int->Int
 |[],_=>0
 |a :: l,k=>a+k*cyF l k
def bzZ(l:List Int)(k:Int):aX l (k:Rat)=((cyF l k:Int):Rat):=by
 unfold aX;induction l with
 |nil=>rfl
 |cons a l b=>
  show aI (aT 1 l) k*k+1*(a:Rat)=((a+k*cyF l k:Int):Rat)
  rw[b,aqE,eJ];grind
def azX:List Int->Int->List Int
 |[],_=>[]
 |[_],_=>[]
 |_ :: b :: l,k=>cyF (b :: l) k :: azX (b :: l) k
def bq9:∀(l:List Int) (k:Int),(azX l k).length=l.length-1
 |[],_=>rfl
 |[_],_=>rfl
 |_ :: b :: l,k=>by
  show(azX (b :: l) k).length+1=_
  rw[bq9 (b :: l) k];simp
def bqA:∀(l:List Int) (k x:Int),cyF l x=cyF l k+(x-k)*cyF (azX l k) x
 |[],_,_=>by show(0:Int)=0+_*0;omega
 |[a],k,x=>by show a+x*0=(a+k*0)+(x-k)*0;omega
 |a :: b :: l,k,x=>by
  have h:=bqA (b :: l) k x;show a+x*cyF (b :: l) x=(a+k*cyF (b :: l) k)+(x-k)*(cyF (b :: l) k+x*cyF (azX (b :: l) k) x)
  rw[h];grind
def bqB:∀(l:List Int) (k:Int) (j:Nat),cf l j=(if j=0 then cyF l k else cf (azX l k) (j-1))-k*cf (azX l k) j
 |[],k,j=>by
  rw[show azX [] k=[] from rfl,eR,eR];show(0:Int)=(if j=0 then 0 else cf [] (j-1))-k*0
  rw[eR];split<;>omega
 |[a],k,j=>by
  rw[show azX [a] k=[] from rfl,eR,eR];cases j with
  |zero=>show a=(if 0=0 then a+k*0 else 0)-k*0;rw[if_pos rfl];omega
  |succ j=>rw[if_neg (by omega),bV (l:=[a]) (by show 1<=j+1;omega)];omega
 |a :: b :: l,k,j=>by
  have h:=bqB (b :: l) k;cases j with
  |zero=>
   show a=(if 0=0 then a+k*cyF (b :: l) k else _)-k*cyF (b :: l) k
   rw[if_pos rfl];omega
  |succ j=>
   rw[if_neg (by omega)];show cf (b :: l) j=cf (cyF (b :: l) k :: azX (b :: l) k) j-k*cf (azX (b :: l) k) j
   rw[h j];cases j with
   |zero=>rfl
   |succ j=>rfl
def cx6:∀(m R V:Nat) (f:List Int),f.length<=m+1->(∀i,i<=m->(cyF f ((R+i:Nat):Int)).natAbs<=V)->∀j,(cf f j).natAbs<=V*(2*(R+m+2))^m:=by
 intro m;induction m with
 |zero=>
  intro R V f g hv j;rw[bx0,az9];have k:=hv 0 (mC 0);match f,g with
  |[],_=>rw[eR];exact dC _
  |[a],_=>
   cases j with
   |zero=>show a.natAbs<=V;have e:cyF [a] ((R+0:Nat):Int)=a:=by show a+_*0=a;omega
          rwa [e] at k
   |succ j=>rw[bV (by show 1<=j+1;omega)];exact dC _
 |succ m s=>
  intro R V f g hv j
  have c:=s (R+1) (2*V) (azX f (R:Int)) (by rw[bq9];omega) (fun i v=>by
   have l:=hv 0 (by omega);have t:=hv (i+1) (by omega);have e:=bqA f (R:Int) ((R+(i+1):Nat):Int);rw[gQ] at l;have h:(((R+(i+1):Nat):Int)-(R:Int))=((i+1:Nat):Int):=by omega
   rw[h] at e;rw[show R+1+i=R+(i+1) by omega];generalize cyF (azX f (R:Int)) ((R+(i+1):Nat):Int)=q at *;have d:(((i+1:Nat):Int)*q).natAbs<=2*V:=by omega
   rw[fL,dD] at d;have:=byT q.natAbs (show 0<i+1 by omega);omega)
  obtain⟨P,b⟩:∃P,(2*(R+1+m+2))^m=P:=⟨_,rfl⟩;have n:1<=P:=by rw[<-b];exact d7 (by omega)
  rw[b] at c;have u:V<=2*V*P:=by
   have:=by7 (2*V) n;omega
  have o:=hv 0 (by omega);rw[gQ] at o;have r:=c j;have p:V*(2*(R+(m+1)+2))^(m+1)=(R+m+3)*(2*V*P):=by
   rw[dH,show R+(m+1)+2=R+1+m+2 by omega,b];rw[show R+1+m+2=R+m+3 by omega];grind
  rw[p,bqB f (R:Int) j];have w:((R:Int)*cf (azX f (R:Int)) j).natAbs<=R*(2*V*P):=by
   rw[fL,dD];exact eV _ r
  have x:(R+m+3)*(2*V*P)=R*(2*V*P)+(m+3)*(2*V*P):=by rw[show R+m+3=R+(m+3) by omega,aqA]
  have d:2*V*P<=(m+3)*(2*V*P):=byT _ (by omega);split
  ·omega
  ·have:=c (j-1);omega
def bqC(H k:Nat):∀l:List Int,(∀n∈l,n.natAbs<=H)->(cyF l (k:Int)).natAbs<=H*(1+k)^l.length
 |[],_=>by show(0:Int).natAbs<=_;exact dC _
 |a :: l,h=>by
  have c:=bqC H k l (fun n hn=>h n (j8 _ hn));have g:=h a iC;show(a+(k:Int)*cyF l k).natAbs<=H*(1+k)^(l.length+1)
  have d:((k:Int)*cyF l k).natAbs<=k*(H*(1+k)^l.length):=by rw[fL,dD];exact eV _ c
  have b:1<=(1+k)^l.length:=d7 (by omega);have f:H*1<=H*(1+k)^l.length:=eV _ b;have e:H*(1+k)^(l.length+1)=H*(1+k)^l.length+k*(H*(1+k)^l.length):=by rw[dH];grind
  rw[e];omega
def bqD(H k:Nat)(c:H<k):∀l:List Int,l≠[]->aN l->(∀n∈l,n.natAbs<=H)->1<=(cyF l (k:Int)).natAbs
 |[],h,_,_=>absurd rfl h
 |[a],_,t,_=>by
  have:=t a rfl;have e:cyF [a] (k:Int)=a:=by show a+_*0=a;omega
  rw[e];omega
 |a :: b :: l,_,t,h=>by
  have f:=bqD H k c (b :: l) (by simp) (fun x d=>t x (by rw[bxY];exact d)) (fun n hn=>h n (j8 _ hn));have i:=h a iC;show 1<=(a+(k:Int)*cyF (b :: l) k).natAbs
  have g:k*1<=((k:Int)*cyF (b :: l) k).natAbs:=by rw[fL,dD];exact eV _ f
  omega
def cx7(c:w≠[])(l:aN w)(b:∀n∈w,n.natAbs<=H)(f:∀i,cf w i=conv (cf s) (cf g) i)(p:s.length<=w.length)(j:Nat):(cf s j).natAbs<=H*(H+w.length+2)^w.length*(2*(H+w.length+3))^w.length:=by
 have q:=List.length_pos_iff.2 c;refine aH (cx6 w.length (H+1) (H*(H+w.length+2)^w.length) s (by omega) (fun i o=> ?_) j) (eV _ (aqN (by omega) _));have d:=bqC H (H+1+i) w b;have a:=bqD H (H+1+i) (by omega) w c l b;have r:H*(1+(H+1+i))^w.length<=H*(H+w.length+2)^w.length:=eV _ (aqN (by omega) _);have k:cyF w ((H+1+i:Nat):Int)=cyF s ((H+1+i:Nat):Int)*cyF g ((H+1+i:Nat):Int):=by
  have:=sH (A:=w) (Q:=s) (B:=g) (C:=[]) (m:=1) (fun i=>by rw[eR,az5,f];omega) ((((H+1+i:Nat):Int)):Rat);rw[bxS,DS,bzZ,bzZ,bzZ,<-eJ,bx3,azF] at this;exact Rat.intCast_inj.1 this
 rw[k,fL] at d a;have e:1<=(cyF g ((H+1+i:Nat):Int)).natAbs:=by
  rcases iB (cyF g ((H+1+i:Nat):Int)).natAbs with h|h
  ·rw[h,azP] at a;omega
  ·exact h
 have:=by7 (cyF s ((H+1+i:Nat):Int)).natAbs e;omega
def cx8{K N:Nat}(m:w≠[])(o:aN w)(d:∀n∈w,nl n.natAbs<=K)(e:∀i,cf w i=conv (cf s) (cf g) i)(k:s.length<=w.length)(a:w.length<=N)(p:N<=1000):∀n∈s,nl n.natAbs<=K+2*N*(K+1)+1:=fun n hn=>by
 obtain⟨j,f,rfl⟩:=List.mem_iff_getElem.1 hn;have h:=cx7 m o (H:=BN^K) (fun n hn=>iE (aZ (cyD n.natAbs) (cO (by unfold BN;decide) (d n hn)))) e k j;rw[fZ f] at h;refine cJ (jI h ?_);have q:1<=BN^K:=d7 (by unfold BN;decide);have l:2*(BN^K+w.length+3)<=BN^(K+1):=by
  rw[dH];have:BN^K*4000<=BN^K*BN:=eV _ (by unfold BN;decide);omega
 have b:(BN^K+w.length+2)^w.length<=BN^((K+1)*N):=by
  rw[azL];exact aH (aqN (by omega) _) (cO (d7 (by unfold BN;decide)) a)
 have c:(2*(BN^K+w.length+3))^w.length<=BN^((K+1)*N):=by
  rw[azL];exact aH (aqN l _) (cO (d7 (by unfold BN;decide)) a)
 refine jI (aqK (eV _ b) c) ?_;rw[<-KF,<-KF];exact by9 (by unfold BN;decide) (by rw[iW,dN N (K+1)];omega)
end Go.Proofs.YtjgbleapffgbcaaGreatDoor
namespace Go.Proofs.YtjgbleapffgbcaaGreatDoor
open Go.RowKit Sos Tryz
variable{b p:List (List Int)}{P g l s xs ys:List Int}{B k:Nat}{w w':World}{u v:Value}
def cx5{p:List Int}(l:p≠[])(o:aN p)(m:aN g)(d:g≠[])(b:∀n∈p,nl n.natAbs<=9)(a:∀i,cf p i=conv (cf s) (cf g) i)(r:s.length+g.length=p.length+1)(j:p.length<=7):Sz s:=by
 have q:=List.length_pos_iff.2 d;refine⟨by omega,?_⟩;by_cases c:g.length=1
 ·obtain⟨y,rfl⟩:=List.length_eq_one_iff.1 c;have t:=m y rfl;refine .inl (fun n hn=> ?_);obtain⟨i,f,rfl⟩:=List.mem_iff_getElem.1 hn;have h:∀k,cf [y] k=if k=0 then y else 0:=fun k=>by
   cases k with
   |zero=>rfl
   |succ k=>rw[bV (by simp)];rfl
  have e:=a i;rw[sO,gL h (fun _=>rfl),qE,if_pos (dC _),byA,fZ f] at e;have k:=iU b i;rw[e,fL] at k;exact aH (cK (byT s[i].natAbs (show 0<y.natAbs by omega))) k
 ·refine .inr ⟨by omega,fun n hn=> ?_⟩;exact aH (cx8 l o b a (by omega) j (by decide) n hn) (by decide)
def dxZ(b:List Int)(K:Nat)(v:Value)(w:World)(q:Glob w)(hv:WholeAt w v b)(t:aN b)(B:b≠[])(hl:b.length<=7)(O:∀n∈b,nl n.natAbs<=K)(ag:K<=1048576)(m:∀n∈aS b,nl n.natAbs<=9):
  Calls prog 36 #[v] w fun e w'=>∃Z s,e= .returned Z∧WholeAt w' Z s∧Sqp 24057 (aS b) s∧Sz s∧Below w.1.size w w':=by
 obtain⟨A,c,rfl,hc⟩:=hv.form;have X:=qQ b _ w q hv t K O (by unfold aJ;omega) (by omega);have V:=dF b;have l:=Q5 t;have E:=xZ (nI t B);have r:aS b≠[]:=fun e=>B (bX (by rw[<-V,e];rfl));generalize aS b=p at *;have ae:p.length<=7:=by omega
 have R:=fun W v h=>JN p v W h 9 m (by unfold aJ;decide) (by omega);have D:=pL m (by omega);have ad:=lZ p;have F:=lE l;have Y:11*(p.length-(bB p).length+2)*3^(bB p).length<=24057:=by
  have a:=List.length_pos_iff.2 r;have f:∀x,x<=6->11*3*3^x<=24057:=by decide
  rw[show p.length-(bB p).length+2=3 by omega];exact f _ (by omega)
 have T:=fun W v u q a f=>XV p (bB p) v u W q a f l F 10 24057 (fun n hn=>aH (m n hn) (by decide)) D (by decide) (fun h=>absurd h (by omega)) (fun _=>Y) (by unfold aJ;decide) (by omega) (by omega);have S:∀g,pO 24057 p (bB p) g->∃s,Sqp 24057 p s∧Sz s∧g≠[]∧aN g∧(∀n∈g,nl n.natAbs<=24057)∧g.length<=8∧∀i,cf p i=conv (cf s) (cf g) i:=fun g k=>by
  unfold pO at k;rw[if_neg (by omega),XC E] at k;obtain⟨y,o2,o3⟩:=y5 k (by decide) l (Q5 F) (fun n hn=>aH (m n hn) (by decide)) (gU (fun n hn=>aH (D n hn) (by decide)));rw[dF] at o3;obtain⟨I,o,s,J,L,M,z⟩:=XD r l E k y;exact⟨s,⟨⟨g,k,o,y,I,M,z⟩,J,L⟩,cx5 r l y o m z M ae,o,y,o2,by omega,z⟩
 clear D ad F Y E r O B t V;generalize bB p=d at *;go_enter func36,ntmps36;go_wp2_with fail;refine X.mono ?_;rintro I w1 ⟨v1,rfl,a,j⟩;obtain⟨A1,c1,rfl,ah⟩:=a.form;clear X;go_wp2_with fail;refine(R _ _ a).mono ?_;rintro o w2 ⟨v2,rfl,f,P⟩;obtain⟨A2,c2,rfl,ai⟩:=f.form;replace a:=a.be P;replace j:=aC j P;clear R;go_wp2_with fail;refine(T _ _ _ (q.be j) a f).mono ?_;rintro J w3 ⟨v3,g,rfl,N,k,Q⟩;obtain⟨A3,c3,rfl,aj⟩:=N.form;replace a:=a.be Q;replace j:=aC j Q;obtain⟨s,C,G,g0,tg,kg,lg,U⟩:=S g k;have af:=fun W a f=>YI s p g (.slice A1 p.length c1) (.slice A3 g.length c3) W a f g0 C.ts l tg U 24057 (fun n hn=>aH (G.nums n hn) (by decide)) kg (by unfold aJ;decide) (by omega) (by omega);have H:=aB (And.intro C G);clear k S T f C G U l m;go_wp2_with fail;refine(af _ a N).mono ?_;rintro L w4 ⟨v4,rfl,h4,ac⟩;go_wp2;go_ret;exact⟨_,s,rfl,h4,H.out.1,H.out.2,aC j ac⟩
def CZ(a:List Int)(v:Value)(w:World)(f:Glob w)(hv:WholeAt w v a)(h:aN a)(d:a≠[])(g:a.length<=7)(b:∀n∈a,nl n.natAbs<=9):
  Calls prog 36 #[v] w fun e w'=>∃c s,e= .returned c∧WholeAt w' c s∧Sqp 24057 (aS a) s∧Sz s∧Below w.1.size w w':=dxZ a 9 v w f hv h d g b (by decide) (gU b)
structure QuoOf(x c Q:List Int):Prop where
 trim:aN Q
 ne:c≠[]
 tc:aN c
 id_:∀i,cf x i=conv (cf Q) (cf c) i
inductive Sqf(B:Nat):List Int->List Int->List (List Int)->Prop
 |done {p r:List Int} (h:p.length<=1):Sqf B p r []
 |step {p r c Qp Qr:List Int} {l:List (List Int)} (h:1<p.length) (hg:pO B p r c) (hp:QuoOf p c Qp) (hr:QuoOf r c Qr) (t:Sqf B c Qr l):Sqf B p r (Qp :: l)
structure GcdFit(K B:Nat)(xs ys:List Int):Prop where
 tx:aN xs
 ty:aN ys
 kx:∀n∈xs,nl n.natAbs<=K
 ky:∀n∈ys,nl n.natAbs<=K
 b1:xs.length<ys.length->(K+1)*(ys.length-xs.length+2)*3^xs.length<=B
 b2:¬xs.length<ys.length->(K+1)*(xs.length-ys.length+2)*3^ys.length<=B
 lx:xs.length<=1073741824
 ly:ys.length<=1073741824
structure SqfInv(K B:Nat)(Inv:Nat->List Int->List Int->Prop):Prop where
 fit:∀n p r,Inv n p r->GcdFit K B p r
 go:∀n p r c,Inv n p r->1<p.length->pO B p r c->∃Qp Qr n',n'<n∧QuoOf p c Qp∧QuoOf r c Qr∧(∀x∈c,nl x.natAbs<=K)∧(∀x∈Qp,nl x.natAbs<=K)∧(∀x∈Qr,nl x.natAbs<=K)∧c.length<=1073741824∧Inv n' c Qr
def U3{K:Nat}(h:GcdFit K B xs ys)(a b:Value)(w:World)(f:Glob w)(j:WholeAt w a xs)(k:WholeAt w b ys)(i:1<=K)(d:5*B+8<=aJ):
  Calls prog 85 #[a,b] w fun e w'=>∃c g,e= .returned c∧WholeAt w' c g∧pO B xs ys g∧Below w.1.size w w':=
 XV xs ys a b w f j k h.tx h.ty K B h.kx h.ky i h.b1 h.b2 d h.lx h.ly
def U5(w:World)(B:Nat)(ns:List Int)(e:Ending)(w':World):Prop:=
 ∃v g Q l,e= .returned v∧WsAt w' w.1.size 64 v l∧pO B (aS ns) (bB (aS ns)) g∧QuoOf (aS ns) g Q∧Sqf B Q g l∧Below w.1.size w w'
def dq8(ns:List Int)(v:Value)(w:World)(hG:Glob w)(hv:WholeAt w v ns)(ht:aN ns)(K B:Nat)(hK:∀n∈ns,nl n.natAbs<=K)(ag:1<=K)(O:7*K+8<=aJ)(af:5*B+8<=aJ)(hl:ns.length<=1073741824)
  (ac:Nat->List Int->List Int->Prop)(hI:SqfInv K B ac)(al:GcdFit K B (aS ns) (bB (aS ns)))
  (av:∀g,pO B (aS ns) (bB (aS ns)) g->∃Q n,QuoOf (aS ns) g Q∧(∀x∈g,nl x.natAbs<=K)∧(∀x∈Q,nl x.natAbs<=K)∧g.length<=1073741824∧n<=1073741824∧ac n Q g):
  Calls prog 115 #[v] w (U5 w B ns):=by
 obtain⟨A,c,rfl,hc⟩:=hv.form;have aq:=qQ ns _ w hG hv ht K hK (by omega) (by omega);have a3:=dF ns;have a2:=gU hK;have a5:=Q5 ht;unfold U5;generalize aS ns=p at *;have T:p.length<=1073741824:=by omega
 have ak:=fun W v h=>JN p v W h K a2 (by unfold aJ at O⊢;omega) T;clear a3;generalize bB p=d at *;go_enter func115,ntmps115;go_wp2_with fail;refine aq.mono ?_;rintro e1 w1 ⟨v1,rfl,b,a⟩;obtain⟨A1,c1,rfl,ba⟩:=b.form;clear aq;go_wp2_with fail;refine(ak _ _ b).mono ?_;rintro e2 w2 ⟨v2,rfl,f,ah⟩;obtain⟨A2,c2,rfl,bb⟩:=f.form;replace b:=b.be ah;replace a:=aC a ah;clear ak;go_wp2_with fail;refine(U3 al _ _ _ (hG.be a) b f ag af).mono ?_;rintro e3 w3 ⟨v3,g,rfl,s,q,ai⟩;obtain⟨A3,c3,rfl,bc⟩:=s.form;replace b:=b.be ai;replace a:=aC a ai;obtain⟨Q,n,y,kg,kQ,lg,ln,J⟩:=av g q;have ax:=aB q;have HQ:=aB y;have au:=fun W b f=>YI Q p g (.slice A1 p.length c1) (.slice A3 g.length c3) W b f y.ne y.trim a5 y.tc y.id_ K kQ kg O T lg;clear q y av al f;go_wp2_with fail;refine(au _ b s).mono ?_;rintro e4 w4 ⟨v4,rfl,h4,aj⟩;obtain⟨A4,c4,rfl,bf⟩:=h4.form;replace s:=s.be aj;replace a:=aC a aj;clear au b;go_wp2_with fail;go_loopg [4,5,6] n (fun k vr vp vf wr=>∃r p M N F G j,vr= .slice M r.length N∧vp= .slice F p.length G∧WholeAt wr (.slice M r.length N) r∧WholeAt wr (.slice F p.length G) p∧WsAt wr w.1.size 64 vf j∧ac k p r∧k<=1073741824∧j.length+k<=n∧Hid (∀l,Sqf B p r l->Sqf B Q g (j++l))∧Below w.1.size w wr)
 case atStart=>exact⟨g,Q,A3,c3,A4,c4,[],rfl,rfl,s,h4,RowsAt.nil _ _ _ _,J,ln,by simp,fun l h=>h,a⟩
 case round=>
  clear s h4 a J;obtain⟨r,p,M,N,F,G,j,rfl,rfl,i,U,e,J,hk,bm,HS,a⟩:=hrel;generalize wr=wy at *;have hF:=hI.fit _ _ _ J;have T:=hF.lx;obtain⟨Af,a9,rfl,bk⟩:=e.form;have a0:=fun W=>JO p.length G F W (by omega);go_wp2_with fail;refine(a0 _).mono ?_;rintro e5 w5 ⟨rfl,rfl⟩;by_cases b:p.length<=1
  ·have q1:¬(0:Int)<(p.length:Int)-1:=by omega
   have u:=HS.out [] (Sqf.done b);rw[fH] at u;have HE:=aB u;clear u b;go_wp2;go_ret;exact⟨_,g,Q,j,rfl,e,ax.out,HQ.out,HE.out,a⟩
  ·have q1:(0:Int)<(p.length:Int)-1:=by omega
   have ao:1<p.length:=by omega
   clear b;go_wp2_with fail;refine(U3 hF _ _ _ (hG.be a) U i ag af).mono ?_;rintro e6 w6 ⟨v6,c,rfl,m,q,P⟩;obtain⟨A6,c6,rfl,bg⟩:=m.form;obtain⟨o,Qr,n',bn,z,C,kc,a6,a7,lc,a1⟩:=hI.go _ _ _ c J ao q;have u:∀l,Sqf B c Qr l->Sqf B Q g (j++(o :: l)):=fun l t=>HS.out _ (Sqf.step ao q z C t);have HE:=aB u;have ar:=fun W b f=>YI o p c (.slice F p.length G) (.slice A6 c.length c6) W b f z.ne z.trim hF.tx z.tc z.id_ K a6 kc O T lc;have a4:=fun W b f=>YI Qr r c (.slice M r.length N) (.slice A6 c.length c6) W b f C.ne C.trim hF.ty C.tc C.id_ K a7 kc O hF.ly lc;replace i:=i.be P;replace U:=U.be P;replace e:=e.be P;replace a:=aC a P;clear u z C q HS;go_wp2_with fail;refine(ar _ U m).mono ?_;rintro e7 L ⟨v7,rfl,H,R⟩;obtain⟨A7,c7,rfl,bh⟩:=H.form;replace i:=i.be R;replace m:=m.be R;replace e:=e.be R;replace a:=aC a R;clear ar;have D:Below L.1.size L (L.alloc (.cells #[.slice A7 o.length c7] 64)):=(aG _ _).alloc aE _;replace i:=i.be D;replace m:=m.be D;replace H:=H.be D;replace e:=e.be D;replace a:=aC a D;have X:=Bx.new L [.slice A7 o.length c7] 64;have ae:=X.cell 0 rfl;obtain⟨a8,E,V,aw⟩:=id e;go_wp2_with (at_builtin;refine K4 rfl rfl 64 24 underlying129 Y3 w.1.size _ a8 rfl E L.1.size (.slice A7 o.length c7) rfl ae ⟨_,_,_,rfl⟩ (by rw[V];omega) (by rw[V];unfold maxLen;omega) a.size ?_;intro v8 w8 ap S I);have Z:=WsAt.push E V aw H ap S I;have zr:=i.grown E S I;have Y:=m.grown E S I;have zb:=K5 a I E aE;obtain⟨A8,c8,rfl,bi⟩:=Z.form;have am:(j++[o]).length=j.length+1:=by rw[dA];rfl
   clear ap S I E V aw e H i m a X ae D;generalize an:j++[o]=LS at *;have az:=aB an;have ay:=aB am;clear an am;go_wp2_with fail;refine(a4 _ zr Y).mono ?_;rintro e9 w9 ⟨v9,rfl,h9,ad⟩;obtain⟨A9,c9,rfl,bj⟩:=h9.form;replace Y:=Y.be ad;replace Z:=Z.be ad;replace zb:=aC zb ad;go_wp2;go_roundg n'
   case rel=>exact⟨Qr,c,A9,c9,A6,c6,LS,rfl,rfl,h9,Y,Z,a1,by omega,by have:=ay.out;omega,fun l t=>by have:=HE.out l t;rw[<-az.out,eK];exact this,zb⟩
   case measure=>omega
def WsAt.mono{a:Nat}(h:WsAt w B 64 v b)(j:a<=B):WsAt w a 64 v b:=by
 obtain⟨l,e,f,i⟩:=h;refine⟨l,?_,f,i⟩;rcases e with h|⟨g,c,d,hv,k,h⟩
 ·exact .inl h
 ·exact .inr ⟨g,c,d,hv,aH j k,h⟩
def WsAt.grown{K:List Value}(h:WsAt w k 64 u p)(G:PRow w B 22 v K)(E:Keep w w')(C:w.grownBy w' v.ownBlock):WsAt w' k 64 u p:=by
 have o:∀(b:Nat) (n:Array Value) (t:TypeId),w.heap[b]? =some (Obj.cells n t (0,0))->t≠22->w'.heap[b]? =w.heap[b]? :=fun b n t a H=>by
  refine C.block b (Array.getElem?_eq_some_iff.1 a).1 (fun e=> ?_);rcases G with ⟨rfl,_⟩|⟨g,m,f,rfl,_,d,_⟩
  ·simp[Value.ownBlock] at e
  ·simp[Value.ownBlock] at e;subst e;rw[d] at a;injection a with a;injection a with _ a;exact H a.symm
 obtain⟨us,r,s,y⟩:=h;refine⟨us,?_,s,fun i x l I F=> ?_⟩
 ·rcases r with h|⟨g,m,f,hv,a,d,h⟩
  ·exact .inl h
  ·exact .inr ⟨g,m,f,hv,a,(o g f 64 d (by decide)).trans d,h⟩
 ·obtain⟨A,c,e,z,h⟩:=y i x l I F;refine⟨A,c,e,z,?_⟩;rcases h with h|⟨b,J,q,j,D⟩
  ·exact .inl h
  ·exact .inr ⟨b,J,q,⟨(o b _ 60 j.1 (by decide)).trans j.1,j.2⟩,D.ke E⟩
def WsAt.one{A:Option Addr}{c:Nat}(h:WholeAt w (.slice A k c) l)(d:B<=w.1.size):WsAt (w.alloc (.cells #[.slice A k c] 64)) B 64 (.slice (some ⟨w.1.size,0,none⟩) 1 1) [l]:=by
 refine⟨[.slice A k c],.inr ⟨w.1.size,1,#[.slice A k c],rfl,d,heap_alloc_new w _,aE,by decide,rfl,rfl,fun u a=> ?_⟩,rfl,fun i u e a b=> ?_⟩
 ·exact⟨A,k,c,by simpa using a⟩
 ·cases i with
  |zero=>
   injection a with a;injection b with b;subst a b;exact h.be ((aG _ _).alloc aE _)
  |succ i=>simp at a
def y6(w:World)(s:List Int)(e:Ending)(w':World):Prop:=∃a c,e= .returned a∧WsAt w' w.1.size 64 a (s :: c)∧StT 110079 s (aS (bB s)) c∧Below w.1.size w w'
def YX(h:aN P):aW aV (P.map (·*(-1)))=P.map (·*(-1)):=oZ (jS _) (xM (by decide) h) (fun i=>iS _ i)
def KE(s:List Int)(v:Value)(w:World)(N:Glob w)(hv:WholeAt w v s)(ts:aN s)(y:s≠[])(hs:Sz s):
  Calls prog 93 #[v] w (y6 w s):=by
 obtain⟨A,c,rfl,hc⟩:=hv.form;obtain⟨K,hK,b2,b3,a6⟩:=hs.ex;have hl:=hs.1;have R:=List.length_pos_iff.2 y;have bb:=fun W h=>JN s (.slice A s.length c) W h K hK (by unfold aJ;omega) (by omega);have td:=lE ts;have kd:=pL hK (by omega);have ld:=lZ s;have ae:=fun W u N h=>qQ (bB s) u W N h td (K+1) kd (by unfold aJ;omega) (by omega);have tp:=Q5 td;have kp:=gU kd;have lp:=dF (bB s);have ks:∀n∈s,nl n.natAbs<=K+1:=fun n hn=>aH (hK n hn) (Nat.le_succ _);unfold y6;generalize aS (bB s)=d at *;generalize bB s=ds at *;have bu:d.length=s.length-1:=by omega
 have a8:d.length≠0->(K+1+1)*(s.length-d.length+2)*3^(d.length-1)<=110079:=fun h=>by
  rw[show s.length-d.length+2=3 by omega,show d.length-1=s.length-2 by omega];exact a6
 have a1:=aB a8;obtain⟨w0,e0,g,X⟩:=bI w [.slice A s.length c] 64;have i:=WsAt.one hv aE;have ar:w.alloc (.cells #[.slice A s.length c] 64)=w0:=e0;rw[ar] at i;replace hv:=hv.be g;have bc:d.length<=s.length:=by omega
 have bv:d.length+1<=8:=by omega
 clear a8 a6 hs y X hK kd ld lp bu;go_enter func93,ntmps93;go_wp2_with fail;(try rw[ar]);clear e0 ar;refine(bb _ hv).mono ?_;rintro e1 w1 ⟨v1,rfl,h1,av⟩;obtain⟨A1,c1,rfl,bs⟩:=h1.form;replace hv:=hv.be av;replace i:=i.be av;replace g:=aC g av;clear bb;go_wp2_with fail;refine(ae _ _ (N.be g) h1).mono ?_;rintro e2 w2 ⟨v2,rfl,h2,aw⟩;obtain⟨A2,c2,rfl,bt⟩:=h2.form;replace hv:=hv.be aw;replace i:=i.be aw;replace g:=aC g aw;clear ae h1;go_wp2_with fail
 go_loopg [3,4,5] d.length (fun k vc vb vl wr=>∃a b Aa ca p x o B,Hid (b.length=k)∧vb= .slice Aa a.length ca∧vl= .slice p b.length x∧WholeAt wr (.slice Aa a.length ca) a∧WholeAt wr (.slice p b.length x) b∧WsAt wr w.1.size 64 vc B∧Hid (aN a)∧Hid (aN b)∧Hid (∃C,B=s :: C∧∀c,StT 110079 a b c->StT 110079 s d (C++c))∧
  (∀n∈a,nl n.natAbs<=o)∧(∀n∈b,nl n.natAbs<=o)∧1<=o∧b.length<=a.length∧a.length<=7∧B.length+b.length<=8∧Hid (b.length≠0->(o+1)*(a.length-b.length+2)*3^(b.length-1)<=110079)∧Below w.1.size w wr)
 case atStart=>exact⟨s,d,A,c,A2,c2,K+1,[s],rfl,rfl,rfl,hv,h2,i,ts,tp,⟨[],rfl,fun c h=>h⟩,ks,kp,by omega,bc,hl,by rw[iJ];omega,a1,g⟩
 case round=>
  clear h2 hv i g a1 tp kp ks ts R hl hc bs bt bc bv;obtain⟨a,b,Aa,ca,p,x,o,B,HL,rfl,rfl,O,H,i,bq,aq,HE,ka,kb,a5,a9,cc,cd,HP,g⟩:=hrel;generalize wr=T at *;obtain⟨Af,b1,rfl,b8⟩:=i.form;by_cases y:b.length=0
  ·have q0:¬(0:Int)<(b.length:Int):=by omega
   have Q:b=[]:=bX y;obtain⟨C,R,E⟩:=HE.out;have E:=E [] (by rw[Q];exact .done a);rw[fH] at E;have J:=aB (And.intro R E);clear Q y E R;go_wp2;go_ret
   first
    |exact⟨_,C,rfl,by rw[J.out.1] at i;rw[J.out.1];exact i,J.out.2,g⟩
    |exact⟨_,rfl,C,by rw[J.out.1] at i;rw[J.out.1];exact i,J.out.2,g⟩
  ·have q0:(0:Int)<(b.length:Int):=by omega
   have Q:b≠[]:=fun e=>y (by rw[e];rfl);have b4:=YV (HP.out y) a9;have pq:=fun W O H=>BU a b (.slice Aa a.length ca) (.slice p b.length x) W O H Q bq.out aq.out o _ ka kb a5 aE (by unfold aJ;omega) (by omega) (by omega);unfold wZ at pq;have Z:Below T.1.size T (T.alloc (.cells #[.slice p b.length x] 64)):=(aG _ _).alloc aE _;have X:=Bx.new T [.slice p b.length x] 64;replace O:=O.be Z;replace H:=H.be Z;replace i:=i.be Z;have ce:w.1.size<=T.1.size:=g.size;replace g:=aC g Z;have a2:=X.cell 0 rfl;obtain⟨b0,S,ao,bo⟩:=id i;go_wp2_with (at_builtin;refine K4 rfl rfl 64 24 underlying129 Y3 w.1.size _ b0 rfl S T.1.size (.slice p b.length x) rfl a2 ⟨_,_,_,rfl⟩ (by rw[ao];omega) (by rw[ao];unfold maxLen;omega) g.size ?_;intro v8 w8 bj al ac);have l:=WsAt.push S ao bo H bj al ac;have za:=O.grown S al ac;have f:=K5 g ac S aE;have j:=H.grown S al ac;obtain⟨A8,c8,rfl,b6⟩:=l.form;have a3:∃U,B++[b]=s :: U∧∀q r m c,PQRes a b 110079 m q r->StT 110079 b (if 0<m then (aS r).map (·*(-1)) else aS r) c->StT 110079 s d (U++c):=by
    obtain⟨C,R,E⟩:=HE.out;exact⟨C++[b],by rw[R];rfl,fun q r m c h t=>by rw[eK];exact E _ (.step Q h t)⟩
   have az:=aB a3;have a7:(B++[b]).length=B.length+1:=by rw[dA];rfl
   have a0:=aB a7;clear a7 a3 O H i X a2 Z bj al ac S ao bo g HE;generalize B++[b]=LS at *;go_wp2_with fail;refine(pq _ za j).mono ?_;rintro e3 w3 ⟨vq,vr,vm,q,r,m,rfl,hq,hr,I,z,ax⟩;obtain⟨Aq,cq,rfl, -⟩:=hq.form;obtain⟨Ar,cr,rfl,b9⟩:=hr.form;obtain⟨s3,A3,k3,c3,rfl⟩:=I.form;have bx:=z.r_lt;have ae:=fun W N h=>qQ r (.slice Ar r.length cr) W N h z.r_trim _ z.br (by unfold aJ;omega) (by omega);have bn:=fun W h=>qG m (.agg #[.bool s3,.slice A3 k3 c3]) W h (aH z.bm (by omega));have an:=Q5 z.r_trim;have am:=gU z.br;have bf:=dF r;have bg:=z.m0;have ai:=az.out;obtain⟨U,ba,ai⟩:=ai;have a4:=fun c=>ai q r m c (z.mono (by omega));have bi:r.length≠0->(o+(a.length+1-b.length)*(o+1)+1)*(b.length-r.length+2)*3^(r.length-1)<=110079:=fun h=>YU (HP.out y) bx a9 h;have bp:∀n∈b,nl n.natAbs<=o+(a.length+1-b.length)*(o+1):=fun n hn=>aH (kb n hn) (byR _ _);have au:1<=o+(a.length+1-b.length)*(o+1):=aH a5 (byR _ _);have HH:=aB (And.intro ba bi);have ag:=aB a4;have L:=aB bf;clear ai a4 az ba bi HP Q y z pq hq za bf;generalize aS r=P at *;generalize o+(a.length+1-b.length)*(o+1)=KK at *;replace j:=j.be ax;replace l:=l.be ax;replace f:=aC f ax;obtain⟨w4,e4,V,F⟩:=bI w3 [.bool s3,.slice A3 k3 c3] 60;replace j:=j.be V;replace l:=l.be V;replace hr:=hr.be V;replace I:=I.be V;replace f:=aC f V;have cF:=F.k2;go_wp2_with fail;(try rw[e4]);clear e4;refine(ae _ (N.be f) hr).mono ?_;rintro e5 w5 ⟨v5,rfl,D,Y⟩;obtain⟨A5,c5,rfl,b5⟩:=D.form;replace j:=j.be Y;replace l:=l.be Y;replace I:=I.be Y;replace F:=F.be Y;replace f:=aC f Y;replace cF:=F.k2;clear ae hr;go_wp2_with fail;refine(bn _ I).mono ?_;rintro e6 w6 ⟨rfl,aj⟩;replace j:=j.be aj;replace l:=l.be aj;replace D:=D.be aj;replace f:=aC f aj;clear bn cF F I;by_cases ad:0<m
   ·have af:m.sign=1:=aqI ad;rw[af];have G:=ag.out;rw[if_pos ad] at G;have ap:=aB G;have bh:=YX an;have bk:=fun W u h h'=>OD P (-1) (.slice A5 P.length c5) u W h h' KK am (aH (cJ (m:=1) (by unfold BN;decide)) au) (by omega) (by have:=L.out;omega);rw[bh] at bk;have bz:=xM (show(-1:Int)≠0 by decide) an;have bw:∀n∈P.map (·*(-1)),nl n.natAbs<=KK:=fun n hn=>by
     obtain⟨k,hk,rfl⟩:=List.mem_map.1 hn;rw[fL];simpa using am k hk
    have ah:Hid ((P.map (·*(-1))).length=r.length):=by unfold Hid;rw[cH];exact L.out
    clear G ag bh an am af ad bg;generalize P.map (·*(-1))=M at *;go_wp2_with fail;refine(lL (-1) _ (by decide) (by decide)).mono ?_;rintro e7 w7 ⟨v7,rfl,h7,ak⟩;replace j:=j.be ak;replace l:=l.be ak;replace D:=D.be ak;replace f:=aC f ak;go_wp2_with fail;refine(bk _ _ D h7).mono ?_;rintro e9 w9 ⟨v9,rfl,h9,ay⟩;obtain⟨A9,c9,rfl,b7⟩:=h9.form;replace j:=j.be ay;replace l:=l.be ay;replace f:=aC f ay;go_wp2;go_roundg M.length
    case rel=>exact⟨b,M,p,x,A9,c9,KK,LS,rfl,rfl,rfl,j,h9,l,aq,bz,⟨U,HH.out.1,ap.out⟩,bp,bw,au,by have:=ah.out;omega,by omega,by have:=ah.out;have:=a0.out;omega,by rw[ah.out];exact HH.out.2,f⟩
    case measure=>have:=HL.out;have:=ah.out;omega
   ·have af:m.sign= -1:=aqT (by omega);rw[af];have G:=ag.out;rw[if_neg ad] at G;have ap:=aB G;clear G ag af ad bg;go_wp2;go_roundg P.length
    case rel=>exact⟨b,P,p,x,A5,c5,KK,LS,rfl,rfl,rfl,j,D,l,aq,an,⟨U,HH.out.1,ap.out⟩,bp,am,au,by have:=L.out;omega,by omega,by have:=L.out;have:=a0.out;omega,by rw[L.out];exact HH.out.2,f⟩
    case measure=>have:=HL.out;have:=L.out;omega
