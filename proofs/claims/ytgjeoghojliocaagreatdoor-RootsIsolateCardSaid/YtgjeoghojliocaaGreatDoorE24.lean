/- Laws. -/
import Derived.Test.YtgjeoghojliocaaGreatDoorE23
set_option linter.all false
set_option maxHeartbeats 8000000
set_option maxRecDepth 99999
namespace Go.Proofs.YtgjeoghojliocaaGreatDoor
open Sos
end Go.Proofs.YtgjeoghojliocaaGreatDoor
namespace Go.Proofs.YtgjeoghojliocaaGreatDoor
open Go.RowKit Sos
def K1(a b q:List Int)(m:Int):List Int:=aW aV (uG (aW aV (a.map (·*m))) (sN q b) (-1))
inductive Ext(B:Nat):List Int->List Int->List Int->List Int->List Int->List Int->Prop
 |done (a s0 s1:List Int):Ext B a [] s0 s1 a s0
 |step {a b s0 s1 q r g s:List Int} {m c:Int} (hb:b≠[]) (h:PQRes a b B m q r) (hc:c≠0) (hr:∀n∈r,c∣n) (hn:∀n∈K1 s0 s1 q m,c∣n) (t:Ext B b (jX r c) s1 (jX (K1 s0 s1 q m) c) g s):Ext B a b s0 s1 g s
def YJ{d:Nat->Int}{ys:List Int}{L:Nat}(k:ys≠[])(o:aN ys)(b:∀i,L<=i->d i=0)(h:∀i,ys.length<=i+1->conv d (cf ys) i=0):∀i,d i=0:=by
 induction L with
 |zero=>exact fun i=>b i (dC _)
 |succ L l=>
  refine l (fun i r=> ?_);by_cases f:L+1<=i
  ·exact b i f
  ·have e:i=L:=by omega
   subst e;have c:=p5 (p:=d) (q:=cf ys) (m:=i) (n:=ys.length-1) (fun j g=>b j (by omega)) (fun j g=>bV (by omega));rw[h _ (by omega)] at c;rcases Int.mul_eq_zero.1 c.symm with a|a
   ·exact a
   ·exact absurd a ((fT k).1 o)
def YK{r:List Int}(c:aN r)(h:∀i,cf r i=0):r=[]:=oZ c (fun a b=>by simp at b) (fun i=>by rw[h,eR])
def YL(q ys r xs:List Int)(m0:Int)(n:Nat):Bool:=(List.range n).all (fun i=>m0*cf xs i==conv (cf q) (cf ys) i+cf r i)
def oB{l:List Int}(h:(match l.getLast? with|none=>true|some a=>a != 0)=true):aN l:=fun a b=>by
 rw[b] at h;simpa using h
def YM{B:Nat}{a g:List Int}(h:Euc B a [] g):g=a:=by
 cases h with
 |done=>rfl
 |one b=>simp at b
 |step b _ _=>simp at b
end Go.Proofs.YtgjeoghojliocaaGreatDoor
namespace Go.Proofs.YtgjeoghojliocaaGreatDoor
open Sos
section
variable {R:Type}[Add R][Mul R][Sub R][OfNat R 0][CR R]
def XW(p q:Nat->R){n i:Nat}(h:i<=n):conv p q i=bW (fun k=>p k*(if k<=i then q (i-k) else 0)) (n+1):=by
 obtain⟨d,rfl⟩:∃d,n=i+d:=⟨n-i,by omega⟩;rw[show i+d+1=i+1+d by omega,AA,qC (n:=d) (fun k _=>by rw[if_neg (by omega),CR.mul_zero]),CR.add_zero];exact mH (fun k a=>by rw[if_pos (by omega)])
def XX(p q r:Nat->R)(i:Nat):conv (conv p q) r i=conv p (conv q r) i:=by
 have b:conv (conv p q) r i=bW (fun k=>bW (fun j=>p j*((if j<=k then q (k-j) else 0)*r (i-k))) (i+1)) (i+1):=by
  refine mH (fun k a=> ?_);rw[XW p q (show k<=i by omega),CR.mul_comm,<-zZ];refine mH (fun j _=> ?_);rw[CR.mul_comm (r (i-k)),CR.mul_assoc]
 rw[b,O5];refine mH (fun j l=> ?_);rw[zZ];congr 1;obtain⟨d,h⟩:∃d,i+1=j+d:=⟨i+1-j,by omega⟩;rw[h,AA,qC (n:=j) (fun k a=>by rw[if_neg (by omega),rE]),zY];have c:d=i-j+1:=by omega
 rw[c];refine mH (fun k a=> ?_);rw[if_pos (by omega),show j+k-j=k by omega,show i-(j+k)=i-j-k by omega]
end
def XY(xs ys:List Int)(y:Int)(i:Nat):cf (uG xs ys y) i=cf xs i+cf ys i*y:=by
 unfold uG;rw[qA];split
 ·rfl
 ·rw[bV (show xs.length<=i by omega),bV (show ys.length<=i by omega)];simp
def Dv(f:Nat->Int)(d:List Int):Prop:=∃(k:Int) (u:List Int),k≠0∧∀i,k*f i=conv (cf u) (cf d) i
section
variable {f g:Nat->Int}{d e:List Int}
def Dv.congr(h:Dv f d)(a:∀i,g i=f i):Dv g d:=by
 obtain⟨k,u,b,c⟩:=h;exact⟨k,u,b,fun i=>by rw[a,c]⟩
def Dv.self(d:List Int)(c:Int):Dv (fun i=>c*cf d i) d:=⟨1,[c],by decide,fun i=>by
 have h:∀k,cf [c] k=if k=0 then c else 0:=fun k=>by
  cases k with
  |zero=>rfl
  |succ k=>rw[bV (by simp)];rfl
 rw[gL h (fun _=>rfl),qE,if_pos (dC _),Int.one_mul];rfl⟩
def Dv.zero(d:List Int):Dv (fun _=>0) d:=⟨1,[],by decide,fun i=>by rw[lK (fun k=>eR k)];simp⟩
def Dv.lin(h:Dv f d)(a:Dv g d)(q:List Int)(c c':Int):Dv (fun i=>c*f i+c'*conv (cf q) g i) d:=by
 obtain⟨k,u,b,n⟩:=h;obtain⟨l,v,m,hv⟩:=a;refine⟨k*l,uG (u.map (·*(l*c))) (sN q v) (k*c'),Int.mul_ne_zero b m,fun i=> ?_⟩;have e:∀j,cf (uG (u.map (·*(l*c))) (sN q v) (k*c')) j=(l*c)*cf u j+(k*c')*conv (cf q) (cf v) j:=fun j=>by
  rw[XY,CC,NZ,fD (cf u j),fD (conv _ _ _)]
 rw[gL e (fun _=>rfl),qD,kT,kT,<-n,XX,gL (fun _=>rfl) (fun j=>(hv j).symm),rF];grind
def Dv.cancel{c:Int}(a:c≠0)(h:Dv (fun i=>c*f i) d):Dv f d:=by
 obtain⟨k,u,b,j⟩:=h;exact⟨k*c,u,Int.mul_ne_zero b a,fun i=>by rw[Int.mul_assoc];exact j i⟩
def Dv.none{r y:List Int}(h:Dv (cf r) y)(j:r.length<y.length)(o:aN y):∀i,cf r i=0:=by
 obtain⟨k,u,m,l⟩:=h;have p:y≠[]:=fun e=>by rw[e] at j;simp at j
 have n:=YJ (d:=cf u) (L:=u.length) p o (fun i c=>bV c) (fun i c=>by rw[<-l,bV (by omega)];simp);intro i;have b:=l i;rw[lK n] at b;rcases Int.mul_eq_zero.1 b with a|a
 ·exact absurd a m
 ·exact a
end
structure ExtI(x y:List Int)(D:Int)(a b s0 s1:List Int):Prop where
 c0:Dv (fun i=>D*cf a i+ -1*conv (cf s0) (cf x) i) y
 c1:Dv (fun i=>D*cf b i+ -1*conv (cf s1) (cf x) i) y
 dv:∀d,Dv (cf a) d->Dv (cf b) d->Dv (cf x) d∧Dv (cf y) d
 ne:a≠[]∨b≠[]
 ta:aN a
 tb:aN b
 t0:aN s0
 t1:aN s1
 len:(s1=[]∧a=x∧b=y∧s0.length<=1)∨(s1.length+a.length<=y.length+1∧s0.length+a.length<=y.length∧b.length<a.length)
structure ExtR(x y:List Int)(D:Int)(g s:List Int):Prop where
 c:Dv (fun i=>D*cf g i+ -1*conv (cf s) (cf x) i) y
 dx:Dv (cf x) g
 dy:Dv (cf y) g
 ne:g≠[]
 tg:aN g
 ts:aN s
 len:s.length+g.length<=y.length
structure BezRes(A B G S T:List Rat)(Kg K:Nat):Prop where
 id_:∀i,conv (cf S) (cf A) i+conv (cf T) (cf B) i=cf G i
 da:∃U:List Rat,∀i,cf A i=conv (cf U) (cf G) i
 db:∃U:List Rat,∀i,cf B i=conv (cf U) (cf G) i
 ne:G≠[]
 tg:aN G
 ts:aN S
 tt:aN T
 last:cf G (G.length-1)=1
 len:B=[]∨S.length+G.length<=B.length
 lg:G.length<=max A.length B.length
 ls:S.length<=B.length+1
 lt:T.length<=A.length+B.length
 bg:∀q∈G,RL Kg q
 bs:∀q∈S,RL K q
 bt:∀q∈T,RL K q
 bsa:∀i,i<=1000->RL K (conv (cf S) (cf A) i)
 btb:∀i,i<=1000->RL K (conv (cf T) (cf B) i)
def XL{c:Rat}(h:c≠0):c⁻¹≠0:=fun e=>h (by have:=Rat.inv_inv c;rw[e,Rat.inv_zero] at this;exact this.symm)
def m6{c d:Rat}(h:c≠0)(k:d≠0):c*d≠0:=fun e=>(Rat.mul_eq_zero.1 e).elim h k
def uC{c d:Rat}(h:c≠0)(k:d≠0):c/d≠0:=by rw[Rat.div_def];exact m6 h (XL k)
structure Rl(G:List Rat)(c:Rat)(r:List Rat)(e:List Int):Prop where
 c0:c≠0
 r_:∀i,conv (cf r) (cf G) i=c*cf e i
 tr:aN r
 te:aN e
def Rl.len{G r:List Rat}{c:Rat}{e:List Int}(h:Rl G c r e)(s:cf G (G.length-1)≠0)(hn:1<=G.length):(r=[]->e=[])∧(r≠[]->r.length+G.length=e.length+1):=by
 constructor
 ·rintro rfl;refine YK h.te (fun i=> ?_);have:=h.r_ i;rw[lK (fun k=>eR k)] at this;rcases Rat.mul_eq_zero.1 this.symm with a|a
  ·exact absurd a h.c0
  ·exact Rat.intCast_inj.1 a
 ·intro g;have w:=List.length_pos_iff.2 g;have u:=(fT g).1 h.tr;have f:=p5 (p:=cf r) (q:=cf G) (m:=r.length-1) (n:=G.length-1) (fun i b=>bV (by omega)) (fun i b=>bV (by omega));rw[h.r_] at f;have v:cf e (r.length-1+(G.length-1))≠0:=fun d=>by
   rw[d,Rat.intCast_zero,gX] at f;exact m6 u s f.symm
  have l:r.length-1+(G.length-1)<e.length:=by
   rcases dE (r.length-1+(G.length-1)) e.length with a|a
   ·exact a
   ·exact absurd (bV a) v
  have t:e≠[]:=fun d=>by rw[d] at l;simp at l
  have x:¬r.length+(G.length-1)<e.length:=fun a=>by
   have o:=(fT t).1 h.te;have j:=rG (p:=cf r) (q:=cf G) (m:=r.length) (n:=G.length) (fun i b=>bV b) (fun i b=>bV b) (i:=e.length-1) (by omega);rw[h.r_] at j;exact m6 h.c0 (gJ o) j
  omega
def aT(f:Rat)(b:List Int):List Rat:=b.map (fun n:Int=>f*(n:Rat))
def fX(f:Rat)(b:List Int):(aT f b).length=b.length:=cH _
def dS(f:Rat)(b:List Int)(i:Nat):cf (aT f b) i=f*cf b i:=qS f b i
def CQ{f:Rat}{b:List Int}(h:f≠0∨b=[])(c:aN b):aN (aT f b):=by
 rcases h with h|rfl
 ·exact(jY h c).trim
 ·intro x a;cases a
def XH{f:Rat}{b:List Int}{F B:Nat}(d:RL F f)(c:∀n∈b,nl n.natAbs<=B)(a:1<=B):∀q∈aT f b,RL (F+B) q:=fun q e=>by
 obtain⟨n,hn,rfl⟩:=List.mem_map.1 e;exact o6 d ⟨c n hn,by show nl 1<=B;exact aH (cJ (m:=1) (by unfold BN;decide)) a⟩
def XI{A f Q R:List Rat}{a b q r:List Int}{t:Nat}{m:Int}{c:Rat}(w:∀i,cf A i=c*cf a i)(B:c≠0)(e:Prp f b)(l:b≠[])(h:PQRes a b t m q r)(y:DivQ A f Q R):R.length=r.length∧∀i,cf R i=c/m*cf r i:=by
 have x:=e.ne l;obtain⟨j, -,d,p,e⟩:=e;have s:=gJ h.m0;have o:c/m≠0:=uC B s;have C:DivQ A f (q.map (fun n:Int=>(c/m/d)*(n:Rat))) (r.map (fun n:Int=>(c/m)*(n:Rat))):=by
  refine⟨fun i=> ?_,(jY (uC o p) h.q_trim).trim,(jY o h.r_trim).trim,by rw[cH,j];exact h.r_lt⟩;rw[gL (qS _ q) e i,kT,rF,qS,w];have g:((m*cf a i:Int):Rat)=((conv (cf q) (cf b) i+cf r i:Int):Rat):=by rw[h.id_ i]
  rw[eJ,Rat.intCast_add,oD] at g;generalize conv (fun k=>((cf q k:Int):Rat)) (fun k=>((cf b k:Int):Rat)) i=z at *
  have u:c/m/d*(d*z)=c/m*z:=by rw[<-Rat.mul_assoc,gW p]
  rw[u];have v:c/m*z+c/m*((cf r i:Int):Rat)=c/m*(m*cf a i):=by rw[g];grind
  rw[v,<-Rat.mul_assoc,gW s]
 obtain⟨-,rfl⟩:=y.unique C x (by rw[j];exact List.length_pos_iff.2 l);exact⟨cH _,qS _ r⟩
inductive ChT(B:Nat):List Int->Rat->List Int->Rat->List (List Rat)->Prop
 |done (a:List Int) (fa fb:Rat):ChT B a fa [] fb []
 |step {a b q r r':List Int} {fa fb f':Rat} {m:Int} {C:List (List Rat)} (hb:b≠[]) (h:PQRes a b B m q r) (h0:fa≠0∧fb≠0∧aN b) (ht:aN r') (hl:r'.length=r.length) (hf:f'≠0∨r'=[]) (he:∀i,f'*cf r' i= -(fa/m)*cf r i)
   (hR:∀F,RL F fa->RL (F+B) f') (hn:∀n∈r',nl n.natAbs<=B) (t:ChT B b fb r' f' C):ChT B a fa b fb (aT fb b :: C)
def CS{a b q r r':List Int}{c f d:Rat}{m:Int}{B:Nat}{Q R:List Rat}(k:b≠[])(h:PQRes a b B m q r)(e:c≠0∧f≠0∧aN b)(o:aN r')(n:d≠0∨r'=[])(l:∀i,d*cf r' i= -(c/m)*cf r i)(j:DivQ (aT c a) (aT f b) Q R):
  aW aV (oA [] (-1) R)=aT d r':=by
 obtain⟨-,g⟩:=XI (dS c a) e.1 (jY e.2.1 e.2.2) k h j;refine oZ (jS _) (CQ n o) (fun i=> ?_);rw[iS,xW,eR,g,dS,l];grind
def ChT.len{B:Nat}{a b:List Int}{c d:Rat}{C:List (List Rat)}(h:ChT B a c b d C):C.length<=b.length:=by
 induction h with
 |done a c d=>exact mC 0
 |step g h e l k j i f hn t m=>
  have:=h.r_lt;rw[eG];omega
def ChT.sizes{B:Nat}{a b:List Int}{f c:Rat}{C:List (List Rat)}(h:ChT B a f b c C)(j:1<=B):∀F,RL F f->RL F c->(∀n∈b,nl n.natAbs<=B)->∀A∈C,A.length<=b.length∧A≠[]∧∀q∈A,RL (F+b.length*B+B) q:=by
 induction h with
 |done a f c=>exact fun F _ _ _ A d=>by cases d
 | @step a b q r x f c y m C o h z I G E D l hn t u=>
  intro F v i w A d;have H:=h.r_lt;rcases List.mem_cons.1 d with rfl|d
  ·exact⟨by rw[fX];exact aE,fun e=>o (bX (by rw[<-fX c b,e];rfl)),fun q g=>bU (XH i w j q g) (by omega)⟩
  ·obtain⟨J,p,s⟩:=u (F+B) (bU i (by omega)) (l F v) hn A d;refine⟨by omega,p,fun q g=>bU (s q g) ?_⟩;have k:(x.length+1)*B<=b.length*B:=dK _ (by omega);rw[Nat.add_mul,Nat.one_mul] at k;omega
def JT{a b q r:List Int}{B:Nat}{m:Int}{c d:Rat}(h:PQRes a b B m q r)(e:c≠0∧d≠0):∃Q R,DivQ (aT c a) (aT d b) Q R:=by
 have f:=gJ h.m0;refine⟨aT (c/m/d) q,aT (c/m) r,fun i=> ?_,(jY (uC (uC e.1 f) e.2) h.q_trim).trim,(jY (uC e.1 f) h.r_trim).trim,by rw[fX,fX];exact h.r_lt⟩;rw[gL (dS _ q) (dS _ b) i,kT,rF,dS,dS];have g:((m*cf a i:Int):Rat)=((conv (cf q) (cf b) i+cf r i:Int):Rat):=by rw[h.id_ i]
 rw[eJ,Rat.intCast_add,oD] at g;generalize conv (fun k=>((cf q k:Int):Rat)) (fun k=>((cf b k:Int):Rat)) i=z at *
 have j:c/m/d*(d*z)=c/m*z:=by rw[<-Rat.mul_assoc,gW e.2]
 rw[j];have l:c/m*z+c/m*((cf r i:Int):Rat)=c/m*(m*cf a i):=by rw[g];grind
 rw[l,<-Rat.mul_assoc,gW f]
def ChT.unique{B:Nat}{a b:List Int}{n o:Rat}{C:List (List Rat)}(h:ChT B a n b o C):∀{m:Nat} {g i:List Int} {k c:Rat} {f:List (List Rat)},ChT m g k i c f->aT n a=aT k g->aT o b=aT c i->C=f:=by
 induction h with
 |done a n o=>
  intro m g i k c f d _ e;cases d with
  |done=>rfl
  |step l=>exact absurd (bX (by rw[<-fX c,<-e];rfl)) l
 |step l h p z J x v H hn t D=>
  intro m g i k c f d r j;cases d with
  |done=>exact absurd (bX (by rw[<-fX,j];rfl)) l
  |step u d s A K y w I L G=>
   obtain⟨Q,R,q⟩:=JT h ⟨p.1,p.2.1⟩;have E:=CS l h p z x v q;rw[r,j] at q;have F:=CS u d s A y w q;rw[j,D G j (E.symm.trans F)]
inductive StT(B:Nat):List Int->List Int->List (List Int)->Prop
 |done (a:List Int):StT B a [] []
 |step {a b q r:List Int} {m:Int} {c:List (List Int)} (hb:b≠[]) (h:PQRes a b B m q r) (t:StT B b (if 0<m then (aS r).map (·*(-1)) else aS r) c):StT B a b (b :: c)
inductive All2{α β:Type}(P:α->β->Prop):List α->List β->Prop
 |nil:All2 P [] []
 |cons {a:α} {b:β} {l:List α} {m:List β} (h:P a b) (t:All2 P l m):All2 P (a :: l) (b :: m)
def Sg(e:Rat)(A:List Rat)(a:List Int):Prop:=a≠[]∧aN a∧∃f,0<e*f∧A=aT f a
def nK{e f:Rat}(h:0<e*f):f≠0:=fun a=>by rw[a,gX] at h;exact absurd h (by decide)
def XJ{K:Nat}{a b:List Int}{c:List (List Int)}(h:StT K a b c)(e:Rat)(G:1<=K):∀f d:Rat,0<e*f->(b≠[]->0<e*d)->aN b->∃C,ChT K a f b d C∧All2 (Sg e) C c:=by
 induction h with
 |done a=>exact fun f d _ _ _=>⟨[],.done a f d,.nil⟩
 | @step a b q r m c j h t o=>
  intro f d y H p;have g:=H j;have Q:=gJ h.m0;have B:=gV h.r_trim;by_cases v:r=[]
  ·have O:(if 0<m then (aS r).map (·*(-1)) else aS r)=[]:=by
    have:aS r=[]:=bX (by rw[dF,v];rfl);rw[this];split<;>rfl
   rw[O] at t o;obtain⟨C,s,u⟩:=o d f g (fun e=>absurd rfl e) (fun x A=>by cases A);exact⟨_,.step j h ⟨nK y,nK g,p⟩ (fun x A=>by cases A) (by rw[v]) (.inr rfl) (fun i=>by rw[v,eR,Rat.intCast_zero,gX,gX]) (fun F hF=>bU hF (by omega)) (fun n hn=>by cases hn) s,.cons ⟨j,p,d,g,rfl⟩ u⟩
  ·have P:=nI h.r_trim v;have I:0<((bC r:Int):Rat):=by
    have:(0:Int)<(bC r:Int):=by omega
    exact_mod_cast this
   have J:nl (bC r:Int).natAbs<=K:=by rw[dD];exact az4 h.br
   have M:(0:Int)<(m.natAbs:Int):=by have:=h.m0;omega
   have N:0<((m.natAbs:Int):Rat):=by exact_mod_cast M
   have l:0<e*(f*(((bC r:Int):Rat)/((m.natAbs:Int):Rat))):=by
    rw[<-Rat.mul_assoc,Rat.div_def];exact Rat.mul_pos y (Rat.mul_pos I (Rat.inv_pos.2 N))
   have w:∀F,RL F f->RL (F+K) (f*(((bC r:Int):Rat)/((m.natAbs:Int):Rat))):=fun F hF=>o6 hF (pM J (by rw[dD];exact h.bm) G);have R:((m.natAbs:Int):Rat)≠0:=gJ (by omega);by_cases D:0<m
   ·rw[if_pos D] at t o;have z:(m.natAbs:Int)=m:=by omega
    rw[z] at w l;have E:aN ((aS r).map (·*(-1))):=xM (by decide) B;obtain⟨C,s,u⟩:=o d _ g (fun _=>l) E;refine⟨_,.step j h ⟨nK y,nK g,p⟩ E (by rw[cH,dF]) (.inl (nK l)) (fun i=> ?_) w (fun n hn=> ?_) s,.cons ⟨j,p,d,g,rfl⟩ u⟩
    ·rw[CC,<-lW r i,eJ,eJ];have:((-1:Int):Rat)= -1:=rfl;rw[this];grind
    ·obtain⟨k,L,rfl⟩:=List.mem_map.1 hn;rw[fL];simpa using gU h.br k L
   ·rw[if_neg D] at t o;have z:(m.natAbs:Int)= -m:=by omega
    rw[z,Rat.intCast_neg] at w l;obtain⟨C,s,u⟩:=o d _ g (fun _=>l) B;refine⟨_,.step j h ⟨nK y,nK g,p⟩ B (by rw[dF]) (.inl (nK l)) (fun i=> ?_) w (gU h.br) s,.cons ⟨j,p,d,g,rfl⟩ u⟩;rw[<-lW r i,eJ];grind
def aY:Int->List Int->Nat
 |_,[]=>0
 |l,s :: t=>if s=0 then aY l t else (if l≠0∧s≠l then 1 else 0)+aY s t
def XK(t:List Int):∀l,aY (-l) (t.map (fun s=> -s))=aY l t:=by
 induction t with
 |nil=>intro l;rfl
 |cons s t c=>
  intro l;show(if -s=0 then aY (-l) (t.map (fun s=> -s)) else (if -l≠0∧ -s≠ -l then 1 else 0)+aY (-s) (t.map (fun s=> -s)))=if s=0 then aY l t else (if l≠0∧s≠l then 1 else 0)+aY s t
  rw[c l,c s];by_cases a:s=0
  ·rw[if_pos a,if_pos (by omega)]
  ·rw[if_neg a,if_neg (by omega)];congr 1;by_cases b:l≠0∧s≠l
   ·rw[if_pos b,if_pos (by omega)]
   ·rw[if_neg b,if_neg (by omega)]
def eT(A:List Rat)(i:Int)(x:Rat):Int:=if i=0 then (aI A x).num.sign else if i<0∧A.length%2=0 then -(cf A (A.length-1)).num.sign else (cf A (A.length-1)).num.sign
def aP(a:List Int)(i:Int)(x:Rat):Int:=if i=0 then (fE a x.num x.den).sign else if i<0∧a.length%2=0 then -(cf a (a.length-1)).sign else (cf a (a.length-1)).sign
def uA(f:Rat)(a:List Int)(x:Rat):aI (aT f a) x=f*aI (a.map (fun n:Int=>(n:Rat))) x:=by
 induction a with
 |nil=>show(0:Rat)=f*0;rw[gX]
 |cons n a b=>
  show aI (aT f a) x*x+f*n=f*(aI (a.map (fun n:Int=>(n:Rat))) x*x+n)
  rw[b];grind
def JU(a:List Int)(x:Rat):(fE a x.num x.den).sign=(aI (a.map (fun n:Int=>(n:Rat))) x).num.sign:=by
 have b:(x.den:Int)≠0:=by have:=x.den_nz;omega
 have c:0<((x.den:Int):Rat):=by
  have:(0:Int)<(x.den:Int):=by omega
  exact_mod_cast this
 have h:=WR a x.num x.den b;have e:((x.num:Int):Rat)/((x.den:Int):Rat)=x:=by rw[Rat.intCast_natCast,<-oU]
 rw[e] at h;have d:0<((iZ a x.num x.den:Int):Rat):=by
  rw[WQ];have:(0:Int)<(x.den:Int)^a.length:=Int.pow_pos (by omega);exact_mod_cast this
 rw[<-xJ,<-tU c,Rat.mul_comm,h,tU d]
def uB{f:Rat}(b:0<f)(a:List Int)(i:Int)(x:Rat):eT (aT f a) i x=aP a i x:=by
 unfold eT aP;rw[fX,dS,tU b,xJ,uA,tU b,JU]
def xU{f:Rat}(d:f<0)(a:List Int)(i:Int)(x:Rat):eT (aT f a) i x= -aP a i x:=by
 have h:=uB (f:= -f) (by grind) a i x;have e:∀y:Rat,(-f*y).num.sign= -(f*y).num.sign:=fun y=>by
  have: -f*y= -(f*y):=by grind
  rw[this,Rat.neg_num,Int.sign_neg]
 unfold eT aP at *;rw[fX,dS,e,uA,e] at h;rw[fX,dS,uA];by_cases b:i=0
 ·simp only[if_pos b] at h⊢;omega
 ·simp only[if_neg b] at h⊢;by_cases c:i<0∧a.length%2=0
  ·simp only[if_pos c] at h⊢;omega
  ·simp only[if_neg c] at h⊢;omega
def All2.map_eq{α β γ:Type}{P:α->β->Prop}{l:List α}{m:List β}(h:All2 P l m){f:α->γ}{g:β->γ}(c:∀a b,P a b->f a=g b):l.map f=m.map g:=by
 induction h with
 |nil=>rfl
 |cons h t d=>rw[fM,fM,c _ _ h,d]
def xV{e:Rat}{C:List (List Rat)}{c:List (List Int)}(h:All2 (Sg e) C c)(i:Int)(x:Rat):aY 0 (C.map (fun A=>eT A i x))=aY 0 (c.map (fun a=>aP a i x)):=by
 by_cases l:0<e
 ·rw[h.map_eq (g:=fun a=>aP a i x) (fun A a j=>by
   obtain⟨-, -,f,b,rfl⟩:=j
   exact uB (by rcases iY f with k|k|k
                ·have:=Rat.mul_pos l (show 0< -f by grind);grind
                ·exact absurd k (nK b)
                ·exact k) a i x)]
 ·rw[h.map_eq (g:=fun a=> -aP a i x) (fun A a j=>by
   obtain⟨-, -,f,b,rfl⟩:=j
   exact xU (by rcases iY f with k|k|k
                ·exact k
                ·exact absurd k (nK b)
                ·rcases iY e with d|d|d
                 ·have:=Rat.mul_pos k (show 0< -e by grind);grind
                 ·rw[d,Rat.zero_mul] at b;exact absurd b (by decide)
                 ·exact absurd d l) a i x)]
  have:=XK (c.map (fun a=>aP a i x)) 0;rw[List.map_map] at this;exact this
def K8{P:Nat->Prop}(h:∃n,P n):∃n,P n∧∀m,P m->n<=m:=by
 obtain⟨n,hn⟩:=h;induction n using Nat.strongRecOn with
 |ind n e=>
  by_cases h:∃m,m<n∧P m
  ·obtain⟨m,a,b⟩:=h;exact e m a b
  ·exact⟨n,hn,fun m d=>Nat.le_of_not_lt (fun c=>h ⟨m,c,d⟩)⟩
def Pm(p:Nat):Prop:=1<p∧∀a b:Int,(p:Int)∣a*b->(p:Int)∣a∨(p:Int)∣b
def K9{n:Nat}(h:1<n):∃p,Pm p∧p∣n:=by
 obtain⟨d,⟨j,f⟩,k⟩:=K8 (P:=fun d=>1<d∧d∣n) ⟨n,h,Nat.dvd_refl n⟩;refine⟨d,⟨j,fun a b m=> ?_⟩,f⟩;have g:=Nat.gcd_dvd_left d a.natAbs;have o:=Nat.gcd_pos_of_pos_left a.natAbs (show 0<d by omega);rcases dE 1 (Nat.gcd d a.natAbs) with i|i
 ·left;have l:=k _ ⟨i,Nat.dvd_trans g f⟩;have e:Nat.gcd d a.natAbs=d:=Nat.le_antisymm (Nat.le_of_dvd (by omega) g) l;have c:=Nat.gcd_dvd_right d a.natAbs;rw[e] at c;exact Int.ofNat_dvd_left.2 c
 ·right;have e:Nat.Coprime d a.natAbs:=by unfold Nat.Coprime;omega
  have c:=Int.ofNat_dvd_left.1 m;rw[fL] at c;exact Int.ofNat_dvd_left.2 (e.dvd_of_dvd_mul_left c)
def YN{p:Int}{t:Nat->Int}{n:Nat}(h:∀k,k<n->p∣t k):p∣bW t n:=by
 induction n with
 |zero=>exact Int.dvd_zero p
 |succ n a=>exact Int.dvd_add (a (fun k b=>h k (by omega))) (h n (by omega))
def YO{p:Int}{t:Nat->Int}{n j:Nat}(g:j<n)(h:∀k,k<n->k≠j->p∣t k):p∣bW t n-t j:=by
 induction n with
 |zero=>omega
 |succ n f=>
  rw[bW];by_cases e:j=n
  ·subst e;have:=YN (p:=p) (t:=t) (n:=j) (fun k d=>h k (by omega) (by omega));rw[show bW t j+t j-t j=bW t j by omega];exact this
  ·have b:=f (by omega) (fun k d=>h k (by omega));have c:=h n (by omega) (fun a=>e a.symm);rw[show bW t n+t n-t j=bW t n-t j+t n by omega];exact Int.dvd_add b c
def YP{p:Nat}(q:Pm p){f g:Nat->Int}{i j:Nat}(hi:¬(p:Int)∣f i)(l:∀k,k<i->(p:Int)∣f k)(m:¬(p:Int)∣g j)(o:∀k,k<j->(p:Int)∣g k):¬(p:Int)∣conv f g (i+j):=fun h=>by
 have d:=YO (p:=(p:Int)) (t:=fun k=>f k*g (i+j-k)) (n:=i+j+1) (j:=i) (by omega) (fun k r s=>by
  rcases dE k i with c|c
  ·exact Int.dvd_trans (l k c) (Int.dvd_mul_right _ _)
  ·exact Int.dvd_trans (o (i+j-k) (by omega)) (Int.dvd_mul_left _ _))
 have b:(p:Int)∣f i*g (i+j-i):=by
  have a:=Int.dvd_sub h d;have e:conv f g (i+j)-(bW (fun k=>f k*g (i+j-k)) (i+j+1)-f i*g (i+j-i))=f i*g (i+j-i):=by
   show bW (fun k=>f k*g (i+j-k)) (i+j+1)-_=_
   omega
  rw[e] at a;exact a
 rw[Nat.add_sub_cancel_left] at b;rcases q.2 _ _ b with a|a
 ·exact hi a
 ·exact m a
def KC{p:Nat}(j:1<p){f:List Int}(d:bC f=1):∃i,¬(p:Int)∣cf f i∧∀k,k<i->(p:Int)∣cf f k:=by
 obtain⟨i,a,c⟩:=K8 (P:=fun i=>¬(p:Int)∣cf f i) (by
  by_cases h:∃i,¬(p:Int)∣cf f i
  ·exact h
  ·exfalso
   have a:p∣bC f:=CM (fun n hn=>by
    obtain⟨i,e,rfl⟩:=List.mem_iff_getElem.1 hn;rw[<-fZ e];by_cases b:(p:Int)∣cf f i
    ·exact b
    ·exact absurd ⟨i,b⟩ h)
   rw[d] at a;have:=Nat.le_of_dvd (by decide) a;omega)
 refine⟨i,a,fun k g=> ?_⟩;by_cases h:(p:Int)∣cf f k
 ·exact h
 ·have:=c k h;omega
def YQ{f g:List Int}(e:bC f=1)(k:bC g=1){d:Nat}(h:∀i,(d:Int)∣conv (cf f) (cf g) i):d=1:=by
 by_cases c:d=1
 ·exact c
 ·exfalso;obtain⟨p,a,l⟩:∃p,Pm p∧p∣d:=by
   rcases iB d with b|b
   ·obtain⟨p,a, -⟩:=K9 (n:=2) (by decide);exact⟨p,a,by rw[b];exact Nat.dvd_zero p⟩
   ·exact K9 (by omega)
  obtain⟨i,m,o⟩:=KC a.1 e;obtain⟨j,q,r⟩:=KC a.1 k;exact YP a m o q r (Int.dvd_trans (Int.ofNat_dvd.2 l) (h (i+j)))
def xZ{ns:List Int}(h:(bC ns:Int)≠0):bC (aS ns)=1:=by
 have f:bC (aS ns)*bC ns∣bC ns:=CM (fun n hn=>by
  obtain⟨i,a,rfl⟩:=List.mem_iff_getElem.1 hn;rw[<-fZ a,<-lW ns i,Int.natCast_mul];refine Int.mul_dvd_mul ?_ (Int.dvd_refl _);have e:i<(aS ns).length:=by rw[dF];exact a
  rw[fZ e];exact CL (List.getElem_mem e))
 have b:0<bC ns:=by omega
 have k:=Nat.le_of_dvd b f;rcases dE 1 (bC (aS ns)) with c|c
 ·have:=dK (bC ns) c;omega
 ·rcases iB (bC (aS ns)) with d|d
  ·exfalso;have g:∀i,cf ns i=0:=fun i=>by
    rw[<-lW ns i];by_cases a:i<(aS ns).length
    ·rw[fZ a,JQ d _ (List.getElem_mem a),Int.zero_mul]
    ·rw[bV (by omega),Int.zero_mul]
   have j:∀n∈ns,((bC ns+bC ns:Nat):Int)∣n:=fun n hn=>by
    obtain⟨i,a,rfl⟩:=List.mem_iff_getElem.1 hn;rw[<-fZ a,g];exact Int.dvd_zero _
   have l:=Nat.le_of_dvd b (CM j);omega
  ·omega
def YR(Q:List Rat):∃D:Nat,0<D∧∀q∈Q,(q.den:Int)∣(D:Int):=by
 induction Q with
 |nil=>exact⟨1,by decide,fun q b=>by cases b⟩
 |cons a Q e=>
  obtain⟨D,c,d⟩:=e;refine⟨a.den*D,Nat.mul_pos a.den_pos c,fun q b=> ?_⟩;rw[Int.natCast_mul];rcases List.mem_cons.1 b with rfl|b
  ·exact Int.dvd_mul_right _ _
  ·exact Int.dvd_trans (d q b) (Int.dvd_mul_left _ _)
def YS{xs g:List Int}{Q:List Rat}(B:bC g=1)(h:∀i,((cf xs i:Int):Rat)=conv (cf Q) (fun k=>((cf g k:Int):Rat)) i):∃q:List Int,q.length=Q.length∧∀i,cf Q i=((cf q i:Int):Rat):=by
 obtain⟨D,w,A⟩:=YR Q;have hn:=JC Q (D:Int) A;have p:((D:Int):Rat)≠0:=gJ (by omega);have t:=oN Q (D:Int);generalize G:cC Q (D:Int)=N at *;by_cases s:(bC N:Int)=0
 ·refine⟨N,t,fun i=> ?_⟩;have e:cf N i=0:=by
   rw[<-lW N i,s,Int.mul_zero]
  have c:=hn i;rw[e] at c⊢;have f:cf Q i*((D:Int):Rat)=0:=by rw[<-c,Rat.intCast_zero]
  rcases Rat.mul_eq_zero.1 f with d|d
  ·rw[d,Rat.intCast_zero]
  ·exact absurd d p
 ·have E:=xZ s;have F:∀i,(D:Int)*cf xs i=(bC N:Int)*conv (cf (aS N)) (cf g) i:=fun i=>by
   have e:(((D:Int)*cf xs i:Int):Rat)=(((bC N:Int)*conv (cf (aS N)) (cf g) i:Int):Rat):=by
    rw[eJ,eJ,oD,h i,<-kT,<-kT];refine gL (fun k=> ?_) (fun _=>rfl) i;have c:=hn k;rw[<-lW N k,eJ] at c;grind
   exact Rat.intCast_inj.1 e
  have x:D∣bC N:=by
   have u:=Nat.gcd_dvd_left D (bC N);have v:=Nat.gcd_dvd_right D (bC N);have l:=Nat.gcd_pos_of_pos_left (bC N) w;obtain⟨a,j⟩:=u;obtain⟨b,r⟩:=v;have z:Nat.Coprime a b:=by
    have:=Nat.coprime_div_gcd_div_gcd (m:=D) (n:=bC N) l;rwa [Nat.div_eq_of_eq_mul_right l j,Nat.div_eq_of_eq_mul_right l r] at this
   have y:a=1:=YQ E B (fun i=>by
    have e:=F i;have c:((Nat.gcd D (bC N):Nat):Int)*((a:Int)*cf xs i)=((Nat.gcd D (bC N):Nat):Int)*((b:Int)*conv (cf (aS N)) (cf g) i):=by
     rw[<-Int.mul_assoc,<-Int.mul_assoc,<-Int.natCast_mul,<-Int.natCast_mul,<-j,<-r];exact e
    have f:=Int.eq_of_mul_eq_mul_left (by omega) c;have d:(a:Int)∣(b:Int)*conv (cf (aS N)) (cf g) i:=⟨_,f.symm⟩
    have o:=Int.ofNat_dvd_left.1 d;rw[fL,dD] at o;exact Int.ofNat_dvd_left.2 (z.dvd_of_dvd_mul_left o))
   rw[y,Nat.mul_one] at j;rw[j];exact Nat.gcd_dvd_right _ _
  obtain⟨k,C⟩:=x;refine⟨(aS N).map (·*(k:Int)),by rw[cH,dF];exact t,fun i=> ?_⟩;rw[CC,eJ];have c:=hn i;rw[<-lW N i,C,Int.natCast_mul,eJ,eJ] at c;have f:(((cf (aS N) i:Int):Rat)*((k:Int):Rat)-cf Q i)*((D:Int):Rat)=0:=by grind
  rcases Rat.mul_eq_zero.1 f with d|d
  ·grind
  ·exact absurd d p
end Go.Proofs.YtgjeoghojliocaaGreatDoor
namespace Go.Proofs.YtgjeoghojliocaaGreatDoor
open Go.RowKit Sos
def y5{B:Nat}{a b g:List Int}(h:Euc B a b g)(i:1<=B):aN a->aN b->(∀n∈a,nl n.natAbs<=B)->(∀n∈b,nl n.natAbs<=B)->aN g∧(∀n∈g,nl n.natAbs<=B)∧g.length<=max a.length b.length:=by
 induction h with
 |done a=>exact fun p _ k _=>⟨p,k,Nat.le_max_left _ _⟩
 |one c=>exact fun _ _ _ _=>⟨oB rfl,fun n hn=>by rw[List.mem_singleton.1 hn];exact aH (cJ (m:=1) (by unfold BN;decide)) i,by rw[c];exact Nat.le_max_right _ _⟩
 |step c h t j=>
  intro _ q _ o;obtain⟨d,e,f⟩:=j q (gV h.r_trim) o (gU h.br);rw[dF] at f;have:=h.r_lt;exact⟨d,e,by omega⟩
def GcT(A B:List Rat)(g:List Int):Prop:=∃D E,ComDen A D 8∧ComDen B E 8∧pO 43740 (cC A D) (cC B E) g
def GcT.ok{A B:List Rat}{g:List Int}(h:GcT A B g)(p:aN A)(r:aN B)(v:∀q∈A,RL 1 q)(x:∀q∈B,RL 1 q)(y:A.length<=7)(z:B.length<=7):(∃a b,Prp A a∧Prp B b∧Trc 43740 a b g)∧aN g∧(∀n∈g,nl n.natAbs<=43740)∧g.length<=7:=by
 obtain⟨D,E,c,d,h⟩:=h;have s:=oO c.pos c.dvd p;have t:=oO d.pos d.dvd r;have j:=gU (K:=43740) (fun n hn=>aH (sA _ D 1 _ v c.nl_ n hn) (by decide));have k:=gU (K:=43740) (fun n hn=>aH (sA _ E 1 _ x d.nl_ n hn) (by decide));have m:=nM (uE c p);have o:=nM (uE d r);have C:=oN A D;have F:=oN B E;unfold pO at h;split at h
 ·rename_i u;obtain⟨e,f,i⟩:=y5 h (by decide) (gV t) (gV s) k j;rw[dF,dF] at i;exact⟨⟨_,_,m,o,.inr (.inr ⟨by rw[dF,dF];exact u,h,j⟩)⟩,e,f,by omega⟩
 ·obtain⟨e,f,i⟩:=y5 h (by decide) (gV s) (gV t) j k;rw[dF,dF] at i;exact⟨⟨_,_,m,o,.inl h⟩,e,f,by omega⟩
section
variable (a b:List (List UInt8))(va vb:Value)(w:World)(hG:Glob w)(ha:StrsAt w va a)(hb':StrsAt w vb b)(hla:a.length<=7)(hlb:b.length<=7)(hsa:∀l∈a,l.length<=6)(hsb:∀l∈b,l.length<=6)
include hG ha hb' hla hlb hsa hsb
end
end Go.Proofs.YtgjeoghojliocaaGreatDoor
namespace Go.Proofs.YtgjeoghojliocaaGreatDoor
open Sos
def CO(f:Nat->Int)(i:Nat):conv f (cf [1]) i=f i:=by
 have h:∀k,cf [(1:Int)] k=if k=0 then 1 else 0:=fun k=>by
  cases k with
  |zero=>rfl
  |succ k=>rw[bV (by simp)];rfl
 rw[sO,gL h (fun _=>rfl),qE,if_pos (dC _),Int.one_mul];rfl
def JS{B:Nat}{a b g:List Int}(h:Euc B a b g):Dv (cf a) g∧Dv (cf b) g:=by
 induction h with
 |done a=>exact⟨(Dv.self a 1).congr (fun i=>(Int.one_mul _).symm),(Dv.zero a).congr (fun i=>eR i)⟩
 | @one a b d=>exact⟨⟨1,a,by decide,fun i=>by rw[CO,Int.one_mul]⟩,⟨1,b,by decide,fun i=>by rw[CO,Int.one_mul]⟩⟩
 | @step a b q r g m d h t c=>
  refine⟨Dv.cancel h.m0 ((c.2.lin c.1 q (bC r:Int) 1).congr (fun i=> ?_)),c.1⟩;rw[h.id_ i,fD (bC r:Int),lW r i];omega
def XA{B:Nat}{a b g:List Int}(h:Euc B a b g):bC a=1->(b=[]∨bC b=1)->bC g=1:=by
 induction h with
 |done a=>exact fun h _=>h
 |one c=>exact fun _ _=>rfl
 | @step a b q r g m c h t j=>
  intro _ f;have i:b≠[]:=fun e=>by rw[e] at c;simp at c
  refine j (f.resolve_left i) ?_;by_cases d:r=[]
  ·exact .inl (bX (by rw[dF,d];rfl))
  ·exact .inr (xZ (nI h.r_trim d))
def XC{w:List Int}(h:bC w=1):aS w=w:=by
 refine List.ext_getElem (dF w) (fun i a b=> ?_);have:=lW w i;rw[h,fZ a,fZ b] at this;simpa using this
def lE{w:List Int}(h:aN w):aN (bB w):=by
 by_cases b:bB w=[]
 ·rw[b];exact fun a c=>by simp at c
 ·have f:=lZ w;have g:(bB w).length≠0:=fun e=>b (bX e);have d:w≠[]:=fun e=>b (by rw[e];rfl);rw[fT b,sB,show(bB w).length-1+1=w.length-1 by omega];exact Int.mul_ne_zero ((fT d).1 h) (by omega)
structure Sqp(B:Nat)(w s:List Int):Prop where
 out:∃g,Euc B w (aS (bB w)) g∧g≠[]∧aN g∧bC g=1∧s.length+g.length=w.length+1∧∀i,cf w i=conv (cf s) (cf g) i
 ne:s≠[]
 ts:aN s
def XD{B:Nat}{w g:List Int}(v:w≠[])(o:aN w)(z:bC w=1)(h:Euc B w (aS (bB w)) g)(C:aN g):bC g=1∧g≠[]∧∃s,s≠[]∧aN s∧s.length+g.length=w.length+1∧∀i,cf w i=conv (cf s) (cf g) i:=by
 have A:=lE o
 have a:bC g=1:=XA h z (by
  by_cases b:bB w=[]
  ·exact .inl (bX (by rw[dF,b];rfl))
  ·exact .inr (xZ (nI A b)))
 have c:g≠[]:=fun e=>by rw[e] at a;cases a
 refine⟨a,c,?_⟩;obtain⟨k,u,f,n⟩:=(JS h).1;have D:=gJ f
 obtain⟨q, -,t⟩:=YS (xs:=w) (Q:=aT (1/(k:Rat)) u) a (fun i=>by
  rw[gL (dS _ u) (fun _=>rfl),kT,<-oD,<-n i,eJ];grind)
 have d:∀i,cf w i=conv (cf (aW aV q)) (cf g) i:=fun i=>by
  rw[gL (iS q) (fun _=>rfl)];have p:=n i;have r:((k*cf w i:Int):Rat)=((k*conv (cf q) (cf g) i:Int):Rat):=by
   rw[p,eJ,oD,oD,gL (fun j=>(t j).symm) (fun _=>rfl),gL (dS _ u) (fun _=>rfl),kT];grind
  exact Int.eq_of_mul_eq_mul_left f (Rat.intCast_inj.1 r)
 have m:=jS q;obtain⟨x,y⟩:=K7 m o C c d;have l:aW aV q≠[]:=fun e=>v (x e);exact⟨_,l,m,(y l).symm,d⟩
def XE{w s g:List Int}{K L:Nat}(z:aN g)(a:g≠[])(y:∀n∈w,nl n.natAbs<=K)(x:∀n∈g,nl n.natAbs<=L)(t:∀i,cf w i=conv (cf s) (cf g) i)(D:s.length+g.length<=1073741824):
  ∀j i,s.length<=i+j->nl (cf s i).natAbs<=K+j*(L+2):=by
 intro j;induction j with
 |zero=>intro i r;rw[bV (by omega)];show nl 0<=_;rw[dO];omega
 |succ j v=>
  intro i r;have C:=(fT a).1 z;have B:=List.length_pos_iff.2 a;rw[Nat.add_mul,Nat.one_mul,<-Nat.add_assoc];by_cases u:s.length<=i
  ·rw[bV u];show nl 0<=_;rw[dO];omega
  ·have q:conv (cf s) (cf g) (i+(g.length-1))=cf s i*cf g (g.length-1)+conv (fun k=>if i<k then cf s k else 0) (cf g) (i+(g.length-1)):=by
    have e:∀k,cf s k=((fun k=>if k=i then cf s i else 0) k+(fun k=>if i<k then cf s k else 0) k)+(fun k=>if k<i then cf s k else 0) k:=fun k=>by
     rcases Nat.lt_trichotomy k i with h|h|h
     ·simp only[if_neg (Nat.ne_of_lt h),if_neg (Nat.not_lt.2 (iE h)),if_pos h];omega
     ·subst h;simp
     ·simp only[if_neg (show¬k=i by omega),if_pos h,if_neg (show¬k<i by omega)];omega
    rw[gL e (fun _=>rfl),qD,qD,qE,if_pos (by omega),show i+(g.length-1)-i=g.length-1 by omega,
     rG (p:=fun k=>if k<i then cf s k else 0) (m:=i) (n:=g.length) (fun k b=>if_neg (by omega)) (fun k b=>bV b) (by omega)]
    omega
   have c:=t (i+(g.length-1));rw[q] at c
   have d:nl (conv (fun k=>if i<k then cf s k else 0) (cf g) (i+(g.length-1))).natAbs<=(K+j*(L+2))+L+1:=K6 (fun k=>by
    by_cases h:i<k
    ·simp only[if_pos h];exact v k (by omega)
    ·simp only[if_neg h];show nl 0<=_;rw[dO];omega) (iU x) (by omega)
   have f:=IV (cf w (i+(g.length-1))) (conv (fun k=>if i<k then cf s k else 0) (cf g) (i+(g.length-1))) (K+j*(L+2)+L+1) (aH (iU y _) (by omega)) d;have l:cf s i*cf g (g.length-1)=cf w (i+(g.length-1))-conv (fun k=>if i<k then cf s k else 0) (cf g) (i+(g.length-1)):=by omega
   rw[<-l,fL] at f;have o:1<=(cf g (g.length-1)).natAbs:=by omega
   have A:=cK (Nat.le_mul_of_pos_right (cf s i).natAbs o);omega
def XF{B:Nat}{a b g:List Int}(h:Euc B a b g):∀{v:Nat} {p f g':List Int},Euc v p f g'->∀{A k:List Rat},Prp A a->Prp A p->Prp k b->Prp k f->cE g=cE g':=by
 induction h with
 |done a=>
  intro v p f g' l A k s w j n;have o:f=[]:=bX (by rw[<-n.1,j.1];rfl);subst o;rw[YM l,<-qT s,<-qT w]
 | @one a b o=>
  intro v p f g' l A k s w j n;have u:f.length=1:=by rw[<-n.1,j.1,o]
  cases l with
  |done=>simp at u
  |one=>rfl
  |step h=>omega
 | @step a b q r g m o h t G=>
  intro v p f g' l A k s w j n;have u:1<f.length:=by rw[<-n.1,j.1];exact o
  have C:b≠[]:=fun e=>by rw[e] at o;simp at o
  cases l with
  |done=>simp at u
  |one h=>omega
  | @step _ _ L M _ K _ l J=>
   obtain⟨Q,R,x⟩:∃Q R,DivQ A k Q R:=by
    obtain⟨H, -,c,E,y⟩:=s;obtain⟨I, -,d,F,z⟩:=j;have:A=aT c a:=oR (by rw[fX];exact H) (fun i=>by rw[y,dS]);rw[this];have:k=aT d b:=oR (by rw[fX];exact I) (fun i=>by rw[z,dS]);rw[this];exact JT h ⟨E,F⟩
   have D:f≠[]:=fun e=>by rw[e] at u;simp at u
   exact G J j n (nM (CT s j C h x)) (nM (CT w n D l x))
def Prp.eq_smul{A:List Rat}{a:List Int}(h:Prp A a):∃c,c≠0∧A=aT c a:=by
 obtain⟨e, -,c,d,b⟩:=h;exact⟨c,d,oR (by rw[fX];exact e) (fun i=>by rw[b,dS])⟩
def XG{c c':Rat}{w w':List Int}(h:aT c w=aT c' w'):aT c (bB w)=aT c' (bB w'):=by
 have b:w.length=w'.length:=by rw[<-fX c w,h,fX]
 refine oR (by rw[fX,fX,lZ,lZ,b]) (fun i=> ?_);have a:cf (aT c w) (i+1)=cf (aT c' w') (i+1):=by rw[h]
 rw[dS,dS] at a;rw[dS,dS,sB,sB,eJ,eJ,<-Rat.mul_assoc,<-Rat.mul_assoc,a]
def CP{s g w:List Int}{c:Rat}(b:c≠0)(ts:aN s)(j:aN g)(d:g≠[])(m:∀i,cf w i=conv (cf s) (cf g) i):∃f,f≠0∧DivQ (aT c w) (cE g) (aT f s) []:=by
 have h:=gJ ((fT d).1 j);refine⟨c*((cf g (g.length-1):Int):Rat),m6 b h,fun i=> ?_,CQ (.inl (m6 b h)) ts,(fun a l=>by simp at l),by rw[(uD j).1];exact List.length_pos_iff.2 d⟩;have e:∀k,cf (cE g) k=(1/((cf g (g.length-1):Int):Rat))*cf g k:=fun k=>by unfold cE;rw[xN];grind
 rw[eR,Rat.add_zero,gL (dS _ s) e,kT,rF,dS,<-oD,<-m i];grind
def Sqp.unique{B q:Nat}{w w' s s':List Int}(h:Sqp B w s)(a:Sqp q w' s'){A:List Rat}(b:Prp A w)(d:Prp A w'):cE s=cE s':=by
 obtain⟨g,t,i,p, -, -,C⟩:=h.out;obtain⟨L,u,z,I, -, -,D⟩:=a.out;obtain⟨c,m,e⟩:=b.eq_smul;obtain⟨J,n,l⟩:=d.eq_smul;have v:=XG (e.symm.trans l);have H:Prp (aT c (bB w)) (bB w):=jY m (lE b.2.1);have p2:Prp (aT c (bB w)) (bB w'):=by rw[v];exact jY n (lE d.2.1)
 have E:=XF t u b d (nM H) (nM p2);obtain⟨f,x,j⟩:=CP m h.ts p i C;obtain⟨K,y,k⟩:=CP n a.ts I z D;rw[<-e] at j;rw[<-l,<-E] at k;have o:=uD p;obtain⟨r, -⟩:=j.unique k (o.ne i) (by rw[o.1];exact List.length_pos_iff.2 i);have F:=qT (jY x h.ts);have G:=qT (jY y a.ts);rw[<-F,<-G];exact congrArg oQ r
structure Cn(B:Nat)(w s:List Int)(c:List (List Int)):Prop where
 sq:Sqp B w s
 st:StT B s (aS (bB s)) c
def fF(s:List Int)(c:List (List Int))(i:Int)(x:Rat)(j:Int)(y:Rat):Int:=(aY 0 ((s :: c).map (fun a=>aP a i x)):Int)-(aY 0 ((s :: c).map (fun a=>aP a j y)):Int)
def xT(C:List (List Rat))(i:Int)(x:Rat)(j:Int)(y:Rat):Int:=(aY 0 (C.map (fun A=>eT A i x)):Int)-(aY 0 (C.map (fun A=>eT A j y)):Int)
def pN(s:List Int):cE s=aT (1/((cf s (s.length-1):Int):Rat)) s:=oR (by rw[fX];exact cH _) (fun i=>by rw[dS];unfold cE;rw[xN];grind)
def CN(f:Rat)(s:List Int):fW (aT f s)=aT (f*((bC (bB s):Int):Rat)) (aS (bB s)):=by
 refine oR (by rw[fX,dF,lZ,qO,fX]) (fun i=> ?_);have h:=lW (bB s) i;have a:(((cf (aS (bB s)) i:Int):Rat))*((bC (bB s):Int):Rat)=((cf s (i+1):Int):Rat)*((i+1:Nat):Rat):=by
  rw[<-eJ,h,sB,eJ];congr 1
 rw[tV,dS,dS,Rat.mul_assoc f _ ((i+1:Nat):Rat),<-a];grind
def Cn.rat{B:Nat}{w s:List Int}{c:List (List Int)}(h:Cn B w s c)(i:1<=B):∃C,ChT B s (1/((cf s (s.length-1):Int):Rat)) (aS (bB s)) (1/((cf s (s.length-1):Int):Rat)*((bC (bB s):Int):Rat)) C∧All2 (Sg ((cf s (s.length-1):Int):Rat)) (cE s :: C) (s :: c):=by
 have l:=gJ ((fT h.sq.ne).1 h.sq.ts);have a:0<((cf s (s.length-1):Int):Rat)*(1/((cf s (s.length-1):Int):Rat)):=by
  have:((cf s (s.length-1):Int):Rat)*(1/((cf s (s.length-1):Int):Rat))=1:=by grind
  rw[this];decide
 obtain⟨C,b,d⟩:=XJ h.st ((cf s (s.length-1):Int):Rat) i _ (1/((cf s (s.length-1):Int):Rat)*((bC (bB s):Int):Rat)) a (fun j=>by
  have f:bB s≠[]:=fun e=>j (bX (by rw[dF,e];rfl));have k:=nI (lE h.sq.ts) f;have g:0<((bC (bB s):Int):Rat):=by
   have:(0:Int)<(bC (bB s):Int):=by omega
   exact_mod_cast this
  rw[<-Rat.mul_assoc];exact Rat.mul_pos a g) (gV (lE h.sq.ts))
 exact⟨C,b,.cons ⟨h.sq.ne,h.sq.ts,_,a,pN s⟩ d⟩
def Cn.count{B:Nat}{w s:List Int}{c:List (List Int)}{e:Rat}{C:List (List Rat)}(h:All2 (Sg e) C (s :: c))(i:Int)(x:Rat)(j:Int)(y:Rat):xT C i x j y=fF s c i x j y:=by
 unfold xT fF;rw[xV h i x,xV h j y]
def Sg.zero{e:Rat}{A:List Rat}{a:List Int}(h:Sg e A a)(i:Int)(x:Rat):eT A i x=0↔aP a i x=0:=by
 obtain⟨-, -,f,b,rfl⟩:=h;rcases iY f with k|k|k
 ·rw[xU k];omega
 ·exact absurd k (nK b)
 ·rw[uB k]
def Cn.both{B b:Nat}{w w' s s':List Int}{c c':List (List Int)}(h:Cn B w s c)(d:Cn b w' s' c')(m:1<=B)(n:1<=b){A:List Rat}(k:Prp A w)(l:Prp A w'):∃C e j,All2 (Sg e) C (s :: c)∧All2 (Sg j) C (s' :: c'):=by
 have a:=h.sq.unique d.sq k l;obtain⟨C,o,g⟩:=h.rat m;obtain⟨f,p,i⟩:=d.rat n;have e:C=f:=o.unique p (by rw[<-pN,<-pN,a]) (by rw[<-CN,<-CN,<-pN,<-pN,a]);exact⟨_,_,_,g,by rw[a,e];exact i⟩
def Cn.same{B b:Nat}{w w' s s':List Int}{c c':List (List Int)}(h:Cn B w s c)(g:Cn b w' s' c')(n:1<=B)(o:1<=b){A:List Rat}(l:Prp A w)(m:Prp A w')(i:Int)(x:Rat):aY 0 ((s :: c).map (fun a=>aP a i x))=aY 0 ((s' :: c').map (fun a=>aP a i x))∧(aP s i x=0↔aP s' i x=0):=by
 obtain⟨C,e,p,d,f⟩:=h.both g n o l m;refine⟨by rw[<-xV d,xV f],?_⟩;cases d with
 |cons j _=>cases f with
  |cons k _=>exact(j.zero i x).symm.trans (k.zero i x)
def Cn.unique{B a:Nat}{w w' s s':List Int}{c c':List (List Int)}(h:Cn B w s c)(b:Cn a w' s' c')(f:1<=B)(g:1<=a){A:List Rat}(d:Prp A w)(e:Prp A w')(i:Int)(x:Rat)(j:Int)(y:Rat):fF s c i x j y=fF s' c' i x j y:=by
 unfold fF;rw[(h.same b f g d e i x).1,(h.same b f g d e j y).1]
def qU(n:Int): -1<=n.sign∧n.sign<=1:=by
 rcases Int.lt_trichotomy n 0 with h|h|h
 ·rw[Int.sign_eq_neg_one_of_neg h];decide
 ·rw[h];decide
 ·rw[Int.sign_eq_one_of_pos h];decide
def YT(a:List Int)(i:Int)(x:Rat): -1<=aP a i x∧aP a i x<=1:=by
 have b:=qU (fE a x.num x.den);have c:=qU (cf a (a.length-1));unfold aP;split
 ·exact b
 ·split<;>omega
def KD{α:Type}(f:α->Int){b:List α}{j:Nat}{a:α}(h:b[j]? =some a)(l:Int):aY l ((b.drop j).map f)=if f a=0 then aY l ((b.drop (j+1)).map f) else (if l≠0∧f a≠l then 1 else 0)+aY (f a) ((b.drop (j+1)).map f):=by
 obtain⟨c,rfl⟩:=List.getElem?_eq_some_iff.1 h;rw[j5 c];rfl
def YU{K b a c B:Nat}(h:(K+1)*(b-a+2)*3^(a-1)<=B)(k:c<a)(j:a<=b)(i:c≠0):(K+(b+1-a)*(K+1)+1)*(a-c+2)*3^(c-1)<=B:=by
 have e:K+(b+1-a)*(K+1)+1=(K+1)*(b-a+2):=by
  rw[show b+1-a=b-a+1 by omega,Nat.add_mul (b-a) 1 (K+1),iL (K+1) (b-a) 2,dN (b-a) (K+1)];omega
 have f:a-1=(a-c)+(c-1):=by omega
 have g:=JZ (d:=a-c) (by omega);rw[f,Nat.pow_add,<-iW] at h;rw[e];exact aH (dK _ (eV _ g)) h
def YV{K b a B:Nat}(h:(K+1)*(b-a+2)*3^(a-1)<=B)(d:a<=b):K+(b+1-a)*(K+1)+1<=B:=by
 have c:K+(b+1-a)*(K+1)+1=(K+1)*(b-a+2):=by
  rw[show b+1-a=b-a+1 by omega,Nat.add_mul (b-a) 1 (K+1),iL (K+1) (b-a) 2,dN (b-a) (K+1)];omega
 rw[c];exact aH (Nat.le_mul_of_pos_right _ (d7 (by decide))) h
def YW{m:Int}{r:List Int}{K:Nat}(e:aN r)(d:∀n∈r,nl n.natAbs<=K):aN (if 0<m then (aS r).map (·*(-1)) else aS r)∧(∀n∈(if 0<m then (aS r).map (·*(-1)) else aS r),nl n.natAbs<=K)∧(if 0<m then (aS r).map (·*(-1)) else aS r).length=r.length:=by
 have b:=gV e;have a:=gU d;split
 ·refine⟨xM (by decide) b,fun n hn=> ?_,by rw[cH,dF]⟩;obtain⟨k,c,rfl⟩:=List.mem_map.1 hn;rw[fL];simpa using a k c
 ·exact⟨b,a,dF r⟩
def StT.mem{K:Nat}{a b:List Int}{c:List (List Int)}(h:StT K a b c):aN b->(∀n∈b,nl n.natAbs<=K)->∀x∈c,x≠[]∧aN x∧x.length<=b.length∧∀n∈x,nl n.natAbs<=K:=by
 induction h with
 |done a=>intro _ _ x d;cases d
 |step e h t k=>
  intro q l x d;rcases List.mem_cons.1 d with rfl|d
  ·exact⟨e,q,aE,l⟩
  ·obtain⟨m,o,p⟩:=YW h.r_trim h.br;obtain⟨f,g,i,j⟩:=k m o x d;have:=h.r_lt;rw[p] at i;exact⟨f,g,by omega,j⟩
def StT.len{K:Nat}{a b:List Int}{c:List (List Int)}(h:StT K a b c):c.length<=b.length:=by
 induction h with
 |done a=>exact mC 0
 | @step a b q r m c f h t e=>
  have:=h.r_lt;have d:(if 0<m then (aS r).map (·*(-1)) else aS r).length=r.length:=by
   split
   ·rw[cH,dF]
   ·exact dF r
  rw[d] at e;rw[eG];omega
def Sz(s:List Int):Prop:=s.length<=7∧((∀n∈s,nl n.natAbs<=9)∨s.length<=6∧∀n∈s,nl n.natAbs<=144363)
def Sz.nums{s:List Int}(h:Sz s):∀n∈s,nl n.natAbs<=144363:=fun n hn=>by
 rcases h.2 with k|k
 ·exact aH (k n hn) (by decide)
 ·exact k.2 n hn
def Sz.ex{s:List Int}(h:Sz s):∃K,(∀n∈s,nl n.natAbs<=K)∧1<=K∧K<=144363∧(K+2)*3*3^(s.length-2)<=35080695:=by
 rcases h.2 with k|k
 ·refine⟨9,k,by decide,by decide,aH (eV _ (cO (by decide) (show s.length-2<=5 by have:=h.1;omega))) (by decide)⟩
 ·exact⟨144363,k.2,by decide,by decide,aH (eV _ (cO (by decide) (show s.length-2<=4 by omega))) (by decide)⟩
end Go.Proofs.YtgjeoghojliocaaGreatDoor
namespace Go.Proofs.YtgjeoghojliocaaGreatDoor
open Go.RowKit Sos
end Go.Proofs.YtgjeoghojliocaaGreatDoor
namespace Go.Proofs.YtgjeoghojliocaaGreatDoor
open Sos
def lC(l:List UInt8)(d:Int):Int:=if l=[] then d else 0
def m5(l:List UInt8):Rat:=if l=[] then 0 else (bD l).getD 0
def nJ(l:List UInt8):Bool:=l=[]||rd l
def jO(i:Int)(x:Rat)(j:Int)(y:Rat):Bool:=if i≠j∨i≠0 then decide (i<j) else decide (x<y)
def qR(t:List Int):∀l,aY l t<=t.length:=by
 induction t with
 |nil=>intro l;exact mC 0
 |cons s t a=>
  intro l;show(if s=0 then aY l t else (if l≠0∧s≠l then 1 else 0)+aY s t)<=t.length+1
  have b:=a l;have c:=a s;split
  ·omega
  ·split<;>omega
def kL(w s:List Int)(c:List (List Int)):Prop:=Cn 35080695 w s c∧Sqp 24057 w s∧Sz s∧w.length<=7∧∀n∈w,nl n.natAbs<=9
def CntR(A:List Rat)(i:Int)(x:Rat)(j:Int)(y:Rat)(n:Int):Prop:=(jO i x j y=false->n=0)∧(jO i x j y=true->∃w s c,Prp A w∧kL w s c∧n=fF s c i x j y)
def CntR.get{A:List Rat}{B:Nat}{w s:List Int}{c:List (List Int)}(d:1<=B)(a:Prp A w)(e:Cn B w s c){i:Int}{x:Rat}{j:Int}{y:Rat}{n:Int}(h:CntR A i x j y n)(g:jO i x j y=true):n=fF s c i x j y:=by
 obtain⟨m,l,k,b,f,rfl⟩:=h.2 g;exact f.1.unique e (by decide) d b a i x j y
end Go.Proofs.YtgjeoghojliocaaGreatDoor
namespace Go.Proofs.YtgjeoghojliocaaGreatDoor
open Go.RowKit Sos Tryz
def J1(w:World)(l:List UInt8)(d:Int)(e:Ending)(w':World):Prop:=∃v,e= .returned (.tuple #[v,.bool (nJ l)])∧EndAt w' v (lC l d) (m5 l)∧Below w.heap.size w w'
def BW(w:World):RatAt w (.agg #[.bool false,.slice none 0 0,.bool false,.slice none 0 0]) 0:=RatAt.of (IntAt.zero _) (IntAt.zero _) rfl rfl
def J2(l:List UInt8)(d:Int)(w:World)(r:Glob w)(C:l.length<=1073741824):Calls prog 65 #[.string ⟨l.toArray⟩,.int .i64 d] w (J1 w l d):=by
 have D:=fun W r=>wU l W r C;by_cases g:l=[]
 ·have c:Hid (lC l d=d∧m5 l=0∧nJ l=true):=by unfold Hid lC m5 nJ;simp[g]
  subst g;obtain⟨W,f,b,R⟩:=bI w [.bool false,.slice none 0 0,.bool false,.slice none 0 0,.int .i64 0] 111;have u:=R.g5;go_enter func65,ntmps65;go_wp2_with fail;(try rw[f]);clear f;obtain⟨A,e,R,b,z,B⟩:=R.put5 b (by omega) (.bool false) (.slice none 0 0) (.bool false) (.slice none 0 0) (.int .i64 d) rfl rfl;rw[e];clear e;refine aM (v:= .tuple #[.agg #[.bool false,.slice none 0 0,.bool false,.slice none 0 0,.int .i64 d],.bool true]) (by simp[results,results65,go_sem,R.k5]) rfl ⟨.agg #[.bool false,.slice none 0 0,.bool false,.slice none 0 0,.int .i64 d],by rw[c.out.2.2],by rw[c.out.1,c.out.2.1];exact EndAt.of (BW _),b⟩
 ·have c:Hid (lC l d=0∧m5 l=(bD l).getD 0∧nJ l=(bD l).isSome):=by unfold Hid lC m5 nJ;simp[g];rfl
  have G:l.isEmpty=false:=by cases l with
   |nil=>exact absurd rfl g
   |cons a t=>rfl
  clear g;obtain⟨W,f,b,R⟩:=bI w [.bool false,.slice none 0 0,.bool false,.slice none 0 0,.int .i64 0] 111;have u:=R.g5;go_enter func65,ntmps65;go_wp2_with fail;(try rw[f]);clear f;refine(D _ (r.be b)).mono ?_;rintro F E ⟨I,rfl,m,y⟩;obtain⟨p,h,n,j,q,i,o,k,rfl⟩:=m.form;replace R:=R.be y;have H:=R.lt;replace b:=aC b y;obtain⟨J,x,s,P⟩:=bI E [.bool p,.slice h n j,.bool q,.slice i o k] 47;replace R:=R.be s;replace m:=m.be s;replace b:=aC b s;have u:=aa R.g5 P.k4;go_wp2_with fail;(try rw[x]);clear x;obtain⟨A,e,R,b,z,B⟩:=R.put5 b (by omega) (.bool p) (.slice h n j) (.bool q) (.slice i o k) (.int .i64 0) rfl rfl;rw[e];clear e;refine aM (v:= .tuple #[.agg #[.bool p,.slice h n j,.bool q,.slice i o k,.int .i64 0],.bool (bD l).isSome]) (by simp[results,results65,go_sem,R.k5]) rfl ⟨.agg #[.bool p,.slice h n j,.bool q,.slice i o k,.int .i64 0],by rw[c.out.2.2],by rw[c.out.1,c.out.2.1];exact EndAt.of (m.ke z),b⟩
def UL(i j:Int)(x y:Rat)(v u:Value)(w:World)(s:EndAt w v i x)(t:EndAt w u j y)(hi: -1<=i∧i<=1)(R: -1<=j∧j<=1)(K:Nat)(N:RL K x)(O:RL K y)(L:4*K+8<=17592186044416):
  Calls prog 117 #[v,u] w fun e w'=>e= .returned (.bool (jO i x j y))∧Below w.heap.size w w':=by
 obtain⟨D,f,z,m,E,g,A,n,rfl⟩:=s.form;obtain⟨F,k,B,o,G,l,C,p,rfl⟩:=t.form;replace s:=s.rat;replace t:=t.rat;have d:=fun W h J=>BY x y (.agg #[.bool D,.slice f z m,.bool E,.slice g A n]) (.agg #[.bool F,.slice k B o,.bool G,.slice l C p]) W h J K N O L;by_cases r:i=j
 ·subst r;have T:(i != i)=false:=by simp
  by_cases q:i=0
  ·subst q;have c:Hid (jO 0 x 0 y=decide ((x-y).num.sign<0)):=by
    unfold Hid jO;rw[if_neg (by simp)];rcases iY (x-y) with h|h|h
    ·rw[(fS _).2 h,decide_eq_true (show x<y by grind)];rfl
    ·rw[h,decide_eq_false (show¬x<y by grind)];rfl
    ·rw[(fS _).1 h,decide_eq_false (show¬x<y by grind)];rfl
   obtain⟨S,I⟩:∃S,(x-y).num.sign=S:=⟨_,rfl⟩;rw[I] at d c;unfold eO at d;clear I;obtain⟨W,b,a,X,Y⟩:=eL w [.bool D,.slice f z m,.bool E,.slice g A n,.int .i64 0] 111 [.bool F,.slice k B o,.bool G,.slice l C p,.int .i64 0] 111;have H:=aa X.g5 Y.g5;go_enter func117,ntmps117;go_wp2_with fail;(try rw[b]);clear b;refine(d _ (s.be a) (t.be a)).mono ?_;rintro Q V ⟨rfl,M⟩;replace a:=aC a M;go_wp2;go_ret;exact⟨by rw[c.out];rfl,a⟩
  ·have c:Hid (jO i x i y=false):=by unfold Hid jO;rw[if_pos (.inr q)];simp
   have P:(i != 0)=true:=by simpa using q
   have U:¬i<i:=by omega
   clear q d;obtain⟨W,b,a,X,Y⟩:=eL w [.bool D,.slice f z m,.bool E,.slice g A n,.int .i64 i] 111 [.bool F,.slice k B o,.bool G,.slice l C p,.int .i64 i] 111;have H:=aa X.g5 Y.g5;go_enter func117,ntmps117;go_wp2_with fail;(try rw[b]);clear b;go_ret;exact⟨by rw[c.out];simp,a⟩
 ·have c:Hid (jO i x j y=decide (i<j)):=by unfold Hid jO;rw[if_pos (.inl r)]
  have P:(i != j)=true:=by simpa using r
  clear r d;obtain⟨W,b,a,X,Y⟩:=eL w [.bool D,.slice f z m,.bool E,.slice g A n,.int .i64 i] 111 [.bool F,.slice k B o,.bool G,.slice l C p,.int .i64 j] 111;have H:=aa X.g5 Y.g5;go_enter func117,ntmps117;go_wp2_with fail;(try rw[b]);clear b;go_ret;exact⟨by rw[c.out];rfl,a⟩
def UM(i:Int)(x:Rat)(a:List Int)(v u:Value)(w:World)(I:EndAt w v i x)(s:WholeAt w u a)(hi: -1<=i∧i<=1)(f:a≠[])(hl:a.length<=65)(K:Nat)(O:∀n∈a,nl n.natAbs<=K)(J:RL K x)(ad:140*K+10<=17592186044416):
  Calls prog 127 #[v,u] w (eO w (aP a i x)):=by
 obtain⟨E,o,C,q,F,p,D,r,rfl⟩:=I.form;obtain⟨A,c,rfl,hc⟩:=s.form;replace I:=I.rat;have t:=fun W h h'=>CB a x (.slice A a.length c) (.agg #[.bool E,.slice o C q,.bool F,.slice p D r]) W h h' K O J hl ad;have Y:=xK (ns:=a) (a:=x.num) (b:=x.den) (T:=BN^K) (fun n h=>mS (O n h)) (mS J.1) (mS J.2);have ac:nl (fE a x.num x.den).natAbs<=K*65+1:=by
  refine cJ (jI Y.1 (aZ (xL (by omega)).1 (cO (by decide) ?_)));have:=eV K (show a.length<=65 by omega);omega
 have z:=fun W u h=>qG (fE a x.num x.den) u W h (by omega);have y:=fun W h=>wS a (.slice A a.length c) W h f (by omega);have af:=List.length_pos_iff.2 f;have bl:=iU O (a.length-1);have B:=fun W u h=>qG (cf a (a.length-1)) u W h (by omega);have G:=fun W=>JO a.length c A W (by omega);unfold dW at t y;unfold eO;have S1:=qU (cf a (a.length-1));obtain⟨S,P⟩:∃S,(cf a (a.length-1)).sign=S:=⟨_,rfl⟩;obtain⟨T,Q⟩:∃T,(fE a x.num x.den).sign=T:=⟨_,rfl⟩;have k:Hid (aP a i x=if i=0 then T else if i<0∧a.length%2=0 then -S else S):=by unfold Hid aP;rw[P,Q]
 rw[P] at S1 B;rw[Q] at z;clear Y ac bl P Q f J;generalize fE a x.num x.den=hv at *;generalize cf a (a.length-1)=cl at *;by_cases f:i=0
 ·subst f;have l:Hid (aP a 0 x=T):=by unfold Hid;rw[k.out,if_pos rfl]
  clear y B G k;obtain⟨W,e,d,X⟩:=bI w [.bool E,.slice o C q,.bool F,.slice p D r,.int .i64 0] 111;have L:=X.g5;go_enter func127,ntmps127;go_wp2_with fail;(try rw[e]);clear e;refine(t _ (s.be d) (I.be d)).mono ?_;rintro M U ⟨R,rfl,m,g⟩;replace d:=aC d g;go_wp2_with fail;refine(z _ _ m).mono ?_;rintro N V ⟨rfl,j⟩;go_wp2;go_ret;exact⟨by rw[l.out];rfl,aC d j⟩
 ·have ae:i= -1∨i=1:=by omega
  rcases ae with rfl|rfl
  ·by_cases H:a.length%2=0
   ·have l:Hid (aP a (-1) x= -S):=by unfold Hid;rw[k.out,if_neg f,if_pos ⟨by decide,H⟩]
    have r0:((a.length:Int)-1).tmod 2=1:=by rw[Int.tmod_eq_emod_of_nonneg (by omega)];omega
    clear t z k H f;obtain⟨W,e,d,X⟩:=bI w [.bool E,.slice o C q,.bool F,.slice p D r,.int .i64 (-1)] 111;have L:=X.g5;go_enter func127,ntmps127;go_wp2_with fail;(try rw[e]);clear e;refine(y _ (s.be d)).mono ?_;rintro M U ⟨R,rfl,m,g⟩;replace X:=X.be g;replace d:=aC d g;go_wp2_with fail;refine(B _ _ m).mono ?_;rintro N V ⟨rfl,j⟩;replace X:=X.be j;replace d:=aC d j;have Z:=X.k5;go_wp2_with fail;refine(G _).mono ?_;rintro e3 w3 ⟨rfl,rfl⟩;go_wp2;go_ret;exact⟨by rw[l.out];rfl,d⟩
   ·have l:Hid (aP a (-1) x=S):=by unfold Hid;rw[k.out,if_neg f,if_neg (fun h=>H h.2)]
    have r0:((a.length:Int)-1).tmod 2=0:=by rw[Int.tmod_eq_emod_of_nonneg (by omega)];omega
    clear t z k H f;obtain⟨W,e,d,X⟩:=bI w [.bool E,.slice o C q,.bool F,.slice p D r,.int .i64 (-1)] 111;have L:=X.g5;go_enter func127,ntmps127;go_wp2_with fail;(try rw[e]);clear e;refine(y _ (s.be d)).mono ?_;rintro M U ⟨R,rfl,m,g⟩;replace X:=X.be g;replace d:=aC d g;go_wp2_with fail;refine(B _ _ m).mono ?_;rintro N V ⟨rfl,j⟩;replace X:=X.be j;replace d:=aC d j;have Z:=X.k5;go_wp2_with fail;refine(G _).mono ?_;rintro e3 w3 ⟨rfl,rfl⟩;go_wp2;go_ret;exact⟨by rw[l.out];rfl,d⟩
  ·have l:Hid (aP a 1 x=S):=by unfold Hid;rw[k.out,if_neg f,if_neg (fun h=>absurd h.1 (by decide))]
   clear t z G k f;obtain⟨W,e,d,X⟩:=bI w [.bool E,.slice o C q,.bool F,.slice p D r,.int .i64 1] 111;have L:=X.g5;go_enter func127,ntmps127;go_wp2_with fail;(try rw[e]);clear e;refine(y _ (s.be d)).mono ?_;rintro M U ⟨R,rfl,m,g⟩;replace X:=X.be g;replace d:=aC d g;go_wp2_with fail;refine(B _ _ m).mono ?_;rintro N V ⟨rfl,j⟩;replace X:=X.be j;replace d:=aC d j;have Z:=X.k5;go_wp2;go_ret;exact⟨by rw[l.out];rfl,d⟩
def YY{p s g:List Int}(f:aN g)(b:g≠[])(d:∀n∈p,nl n.natAbs<=9)(l:∀n∈g,nl n.natAbs<=24057)(c:∀i,cf p i=conv (cf s) (cf g) i)(o:s.length+g.length=p.length+1)(q:p.length<=7):Sz s:=by
 have m:=List.length_pos_iff.2 b;refine⟨by omega,?_⟩;by_cases j:g.length=1
 ·obtain⟨y,rfl⟩:=List.length_eq_one_iff.1 j;have r:=f y rfl;refine .inl (fun n hn=> ?_);obtain⟨i,a,rfl⟩:=List.mem_iff_getElem.1 hn;have h:∀k,cf [y] k=if k=0 then y else 0:=fun k=>by
   cases k with
   |zero=>rfl
   |succ k=>rw[bV (by simp)];rfl
  have e:=c i;rw[sO,gL h (fun _=>rfl),qE,if_pos (dC _),Nat.sub_zero,fZ a] at e;have k:=iU d i;rw[e,fL] at k;exact aH (cK (Nat.le_mul_of_pos_left s[i].natAbs (show 0<y.natAbs by omega))) k
 ·refine .inr ⟨by omega,fun n hn=> ?_⟩;obtain⟨i,a,rfl⟩:=List.mem_iff_getElem.1 hn;have k:=XE f b d l c (by omega) s.length i (by omega);rw[fZ a] at k;have:s.length*(24057+2)<=6*(24057+2):=dK _ (by omega);omega
def CZ(b:List Int)(v:Value)(w:World)(q:Glob w)(hv:WholeAt w v b)(r:aN b)(z:b≠[])(hl:b.length<=7)(B:∀n∈b,nl n.natAbs<=9):
  Calls prog 15 #[v] w fun e w'=>∃Z s,e= .returned Z∧WholeAt w' Z s∧Sqp 24057 (aS b) s∧Sz s∧Below w.heap.size w w':=by
 obtain⟨A,c,rfl,hc⟩:=hv.form;have V:=qQ b _ w q hv r 9 B (by unfold aJ;decide) (by omega);have U:=dF b;have l:=gU B;have m:=gV r;have F:=xZ (nI r z);have E:aS b≠[]:=fun e=>z (bX (by rw[<-U,e];rfl));generalize aS b=p at *;have ae:p.length<=7:=by omega
 have Q:=fun W v h=>JN p v W h 9 l (by unfold aJ;decide) (by omega);have D:=pL l (by omega);have ad:=lZ p;have G:=lE m;have X:11*(p.length-(bB p).length+2)*3^(bB p).length<=24057:=by
  have a:=List.length_pos_iff.2 E;have f:∀x,x<=6->11*3*3^x<=24057:=by decide
  rw[show p.length-(bB p).length+2=3 by omega];exact f _ (by omega)
 have S:=fun W v u q a f=>XV p (bB p) v u W q a f m G 10 24057 (fun n hn=>aH (l n hn) (by decide)) D (by decide) (fun h=>absurd h (by omega)) (fun _=>X) (by unfold aJ;decide) (by omega) (by omega);have R:∀g,pO 24057 p (bB p) g->∃s,Sqp 24057 p s∧Sz s∧g≠[]∧aN g∧(∀n∈g,nl n.natAbs<=24057)∧g.length<=8∧∀i,cf p i=conv (cf s) (cf g) i:=fun g k=>by
  unfold pO at k;rw[if_neg (by omega),XC F] at k;obtain⟨t,Y,o3⟩:=y5 k (by decide) m (gV G) (fun n hn=>aH (l n hn) (by decide)) (gU (fun n hn=>aH (D n hn) (by decide)));rw[dF] at o3;obtain⟨J,o,s,K,L,M,y⟩:=XD E m F k t;exact⟨s,⟨⟨g,k,o,t,J,M,y⟩,K,L⟩,YY t o l Y y M ae,o,t,Y,by omega,y⟩
 clear D ad G X F E B z r U;generalize bB p=d at *;go_enter func15,ntmps15;go_wp2_with fail;refine V.mono ?_;rintro J w1 ⟨v1,rfl,a,j⟩;obtain⟨A1,c1,rfl,ag⟩:=a.form;clear V;go_wp2_with fail;refine(Q _ _ a).mono ?_;rintro o w2 ⟨v2,rfl,f,O⟩;obtain⟨A2,c2,rfl,ah⟩:=f.form;replace a:=a.be O;replace j:=aC j O;clear Q;go_wp2_with fail;refine(S _ _ _ (q.be j) a f).mono ?_;rintro K w3 ⟨v3,g,rfl,N,k,P⟩;obtain⟨A3,c3,rfl,ai⟩:=N.form;replace a:=a.be P;replace j:=aC j P;obtain⟨s,C,H,g0,tg,kg,lg,T⟩:=R g k;have af:=fun W a f=>YI s p g (.slice A1 p.length c1) (.slice A3 g.length c3) W a f g0 C.ts m tg T 144363 H.nums (fun n hn=>aH (kg n hn) (by decide)) (by unfold aJ;decide) (by omega) (by omega);have I:=aB (And.intro C H);clear k R S f C H T m l;go_wp2_with fail;refine(af _ a N).mono ?_;rintro L w4 ⟨v4,rfl,h4,ac⟩;go_wp2;go_ret;exact⟨_,s,rfl,h4,I.out.1,I.out.2,aC j ac⟩
structure QuoOf(x c Q:List Int):Prop where
 trim:aN Q
 ne:c≠[]
 tc:aN c
 id_:∀i,cf x i=conv (cf Q) (cf c) i
inductive Sqf(B:Nat):List Int->List Int->List (List Int)->Prop
 |done {p r:List Int} (h:p.length<=1):Sqf B p r []
 |step {p r c Qp Qr:List Int} {l:List (List Int)} (h:1<p.length) (hg:pO B p r c) (hp:QuoOf p c Qp) (hr:QuoOf r c Qr) (t:Sqf B c Qr l):Sqf B p r (Qp :: l)
structure GcdFit(K B:Nat)(xs ys:List Int):Prop where
 tx:aN xs
 ty:aN ys
 kx:∀n∈xs,nl n.natAbs<=K
 ky:∀n∈ys,nl n.natAbs<=K
 b1:xs.length<ys.length->(K+1)*(ys.length-xs.length+2)*3^xs.length<=B
 b2:¬xs.length<ys.length->(K+1)*(xs.length-ys.length+2)*3^ys.length<=B
 lx:xs.length<=1073741824
 ly:ys.length<=1073741824
structure SqfInv(K B:Nat)(Inv:Nat->List Int->List Int->Prop):Prop where
 fit:∀n p r,Inv n p r->GcdFit K B p r
 go:∀n p r c,Inv n p r->1<p.length->pO B p r c->∃Qp Qr n',n'<n∧QuoOf p c Qp∧QuoOf r c Qr∧(∀x∈c,nl x.natAbs<=K)∧(∀x∈Qp,nl x.natAbs<=K)∧(∀x∈Qr,nl x.natAbs<=K)∧c.length<=1073741824∧Inv n' c Qr
def WsAt.mono{w:World}{B a:Nat}{v:Value}{b:List (List Int)}(h:WsAt w B 37 v b)(j:a<=B):WsAt w a 37 v b:=by
 obtain⟨l,e,f,i⟩:=h;refine⟨l,?_,f,i⟩;rcases e with h|⟨g,c,d,hv,k,h⟩
 ·exact .inl h
 ·exact .inr ⟨g,c,d,hv,aH j k,h⟩
def WsAt.grown{w w':World}{B k:Nat}{v u:Value}{K:List Value}{p:List (List Int)}(h:WsAt w k 37 u p)(G:PRow w B 22 v K)(E:Keep w w')(C:w.grownBy w' v.ownBlock):WsAt w' k 37 u p:=by
 have o:∀(b:Nat) (n:Array Value) (t:TypeId),w.heap[b]? =some (Obj.cells n t (0,0))->t≠22->w'.heap[b]? =w.heap[b]? :=fun b n t a H=>by
  refine C.block b (Array.getElem?_eq_some_iff.1 a).1 (fun e=> ?_);rcases G with ⟨rfl,_⟩|⟨g,m,f,rfl,_,d,_⟩
  ·simp[Value.ownBlock] at e
  ·simp[Value.ownBlock] at e;subst e;rw[d] at a;injection a with a;injection a with _ a;exact H a.symm
 obtain⟨us,r,s,y⟩:=h;refine⟨us,?_,s,fun i x l I F=> ?_⟩
 ·rcases r with h|⟨g,m,f,hv,a,d,h⟩
  ·exact .inl h
  ·exact .inr ⟨g,m,f,hv,a,(o g f 37 d (by decide)).trans d,h⟩
 ·obtain⟨A,c,e,z,h⟩:=y i x l I F;refine⟨A,c,e,z,?_⟩;rcases h with h|⟨b,J,q,j,D⟩
  ·exact .inl h
  ·exact .inr ⟨b,J,q,⟨(o b _ 40 j.1 (by decide)).trans j.1,j.2⟩,D.ke E⟩
def WsAt.one{w:World}{B:Nat}{A:Option Addr}{k c:Nat}{l:List Int}(h:WholeAt w (.slice A k c) l)(d:B<=w.heap.size):WsAt (w.alloc (.cells #[.slice A k c] 37)) B 37 (.slice (some ⟨w.heap.size,0,none⟩) 1 1) [l]:=by
 refine⟨[.slice A k c],.inr ⟨w.heap.size,1,#[.slice A k c],rfl,d,heap_alloc_new w _,aE,by decide,rfl,rfl,fun u a=> ?_⟩,rfl,fun i u e a b=> ?_⟩
 ·exact⟨A,k,c,by simpa using a⟩
 ·cases i with
  |zero=>
   injection a with a;injection b with b;subst a b;exact h.be ((aG _ _).alloc aE _)
  |succ i=>simp at a
def y6(w:World)(s:List Int)(e:Ending)(w':World):Prop:=∃a c,e= .returned a∧WsAt w' w.heap.size 37 a (s :: c)∧StT 35080695 s (aS (bB s)) c∧Below w.heap.size w w'
def YX{P:List Int}(h:aN P):aW aV (P.map (·*(-1)))=P.map (·*(-1)):=oZ (jS _) (xM (by decide) h) (fun i=>iS _ i)
def KE(s:List Int)(v:Value)(w:World)(N:Glob w)(hv:WholeAt w v s)(ts:aN s)(y:s≠[])(hs:Sz s):
  Calls prog 30 #[v] w (y6 w s):=by
 obtain⟨A,c,rfl,hc⟩:=hv.form;obtain⟨K,hK,b2,b3,a6⟩:=hs.ex;have hl:=hs.1;have R:=List.length_pos_iff.2 y;have bb:=fun W h=>JN s (.slice A s.length c) W h K hK (by unfold aJ;omega) (by omega);have td:=lE ts;have kd:=pL hK (by omega);have ld:=lZ s;have ae:=fun W u N h=>qQ (bB s) u W N h td (K+1) kd (by unfold aJ;omega) (by omega);have tp:=gV td;have kp:=gU kd;have lp:=dF (bB s);have ks:∀n∈s,nl n.natAbs<=K+1:=fun n hn=>aH (hK n hn) (Nat.le_succ _);unfold y6;generalize aS (bB s)=d at *;generalize bB s=ds at *;have bu:d.length=s.length-1:=by omega
 have a8:d.length≠0->(K+1+1)*(s.length-d.length+2)*3^(d.length-1)<=35080695:=fun h=>by
  rw[show s.length-d.length+2=3 by omega,show d.length-1=s.length-2 by omega];exact a6
 have a1:=aB a8;obtain⟨w0,e0,g,X⟩:=bI w [.slice A s.length c] 37;have i:=WsAt.one hv aE;have ar:w.alloc (.cells #[.slice A s.length c] 37)=w0:=e0;rw[ar] at i;replace hv:=hv.be g;have bc:d.length<=s.length:=by omega
 have bv:d.length+1<=8:=by omega
 clear a8 a6 hs y X hK kd ld lp bu;go_enter func30,ntmps30;go_wp2_with fail;(try rw[ar]);clear e0 ar;refine(bb _ hv).mono ?_;rintro e1 w1 ⟨v1,rfl,h1,av⟩;obtain⟨A1,c1,rfl,bs⟩:=h1.form;replace hv:=hv.be av;replace i:=i.be av;replace g:=aC g av;clear bb;go_wp2_with fail;refine(ae _ _ (N.be g) h1).mono ?_;rintro e2 w2 ⟨v2,rfl,h2,aw⟩;obtain⟨A2,c2,rfl,bt⟩:=h2.form;replace hv:=hv.be aw;replace i:=i.be aw;replace g:=aC g aw;clear ae h1;go_wp2_with fail
 go_loopg [3,4,5] d.length (fun k vc vb vl wr=>∃a b Aa ca p x o B,Hid (b.length=k)∧vb= .slice Aa a.length ca∧vl= .slice p b.length x∧WholeAt wr (.slice Aa a.length ca) a∧WholeAt wr (.slice p b.length x) b∧WsAt wr w.heap.size 37 vc B∧Hid (aN a)∧Hid (aN b)∧Hid (∃C,B=s :: C∧∀c,StT 35080695 a b c->StT 35080695 s d (C++c))∧
  (∀n∈a,nl n.natAbs<=o)∧(∀n∈b,nl n.natAbs<=o)∧1<=o∧b.length<=a.length∧a.length<=7∧B.length+b.length<=8∧Hid (b.length≠0->(o+1)*(a.length-b.length+2)*3^(b.length-1)<=35080695)∧Below w.heap.size w wr)
 case atStart=>exact⟨s,d,A,c,A2,c2,K+1,[s],rfl,rfl,rfl,hv,h2,i,ts,tp,⟨[],rfl,fun c h=>h⟩,ks,kp,by omega,bc,hl,by rw[iJ];omega,a1,g⟩
 case round=>
  clear h2 hv i g a1 tp kp ks ts R hl hc bs bt bc bv;obtain⟨a,b,Aa,ca,p,x,o,B,HL,rfl,rfl,O,H,i,bq,aq,HE,ka,kb,a5,a9,cc,cd,HP,g⟩:=hrel;generalize wr=T at *;obtain⟨Af,b1,rfl,b8⟩:=i.form;by_cases y:b.length=0
  ·have q0:¬(0:Int)<(b.length:Int):=by omega
   have Q:b=[]:=bX y;obtain⟨C,R,E⟩:=HE.out;have E:=E [] (by rw[Q];exact .done a);rw[fH] at E;have J:=aB (And.intro R E);clear Q y E R;go_wp2;go_ret
   first
    |exact⟨_,C,rfl,by rw[J.out.1] at i;rw[J.out.1];exact i,J.out.2,g⟩
    |exact⟨_,rfl,C,by rw[J.out.1] at i;rw[J.out.1];exact i,J.out.2,g⟩
  ·have q0:(0:Int)<(b.length:Int):=by omega
   have Q:b≠[]:=fun e=>y (by rw[e];rfl);have b4:=YV (HP.out y) a9;have pq:=fun W O H=>BU a b (.slice Aa a.length ca) (.slice p b.length x) W O H Q bq.out aq.out o _ ka kb a5 aE (by unfold aJ;omega) (by omega) (by omega);unfold wZ at pq;have Z:Below T.heap.size T (T.alloc (.cells #[.slice p b.length x] 37)):=(aG _ _).alloc aE _;have X:=Bx.new T [.slice p b.length x] 37;replace O:=O.be Z;replace H:=H.be Z;replace i:=i.be Z;have ce:w.heap.size<=T.heap.size:=g.size;replace g:=aC g Z;have a2:=X.cell 0 rfl;obtain⟨b0,S,ao,bo⟩:=id i;go_wp2_with (at_builtin;refine K4 rfl rfl 37 24 underlying78 Y3 w.heap.size _ b0 rfl S T.heap.size (.slice p b.length x) rfl a2 ⟨_,_,_,rfl⟩ (by rw[ao];omega) (by rw[ao];unfold maxLen;omega) g.size ?_;intro v8 w8 bj al ac);have l:=WsAt.push S ao bo H bj al ac;have za:=O.grown S al ac;have f:=K5 g ac S aE;have j:=H.grown S al ac;obtain⟨A8,c8,rfl,b6⟩:=l.form;have a3:∃U,B++[b]=s :: U∧∀q r m c,PQRes a b 35080695 m q r->StT 35080695 b (if 0<m then (aS r).map (·*(-1)) else aS r) c->StT 35080695 s d (U++c):=by
    obtain⟨C,R,E⟩:=HE.out;exact⟨C++[b],by rw[R];rfl,fun q r m c h t=>by rw[eK];exact E _ (.step Q h t)⟩
   have az:=aB a3;have a7:(B++[b]).length=B.length+1:=by rw[bE];rfl
   have a0:=aB a7;clear a7 a3 O H i X a2 Z bj al ac S ao bo g HE;generalize B++[b]=LS at *;go_wp2_with fail;refine(pq _ za j).mono ?_;rintro e3 w3 ⟨vq,vr,vm,q,r,m,rfl,hq,hr,I,z,ax⟩;obtain⟨Aq,cq,rfl, -⟩:=hq.form;obtain⟨Ar,cr,rfl,b9⟩:=hr.form;obtain⟨s3,A3,k3,c3,rfl⟩:=I.form;have bx:=z.r_lt;have ae:=fun W N h=>qQ r (.slice Ar r.length cr) W N h z.r_trim _ z.br (by unfold aJ;omega) (by omega);have bn:=fun W h=>qG m (.agg #[.bool s3,.slice A3 k3 c3]) W h (aH z.bm (by omega));have an:=gV z.r_trim;have am:=gU z.br;have bf:=dF r;have bg:=z.m0;have ai:=az.out;obtain⟨U,ba,ai⟩:=ai;have a4:=fun c=>ai q r m c (z.mono (by omega));have bi:r.length≠0->(o+(a.length+1-b.length)*(o+1)+1)*(b.length-r.length+2)*3^(r.length-1)<=35080695:=fun h=>YU (HP.out y) bx a9 h;have bp:∀n∈b,nl n.natAbs<=o+(a.length+1-b.length)*(o+1):=fun n hn=>aH (kb n hn) (Nat.le_add_right _ _);have au:1<=o+(a.length+1-b.length)*(o+1):=aH a5 (Nat.le_add_right _ _);have HH:=aB (And.intro ba bi);have ag:=aB a4;have L:=aB bf;clear ai a4 az ba bi HP Q y z pq hq za bf;generalize aS r=P at *;generalize o+(a.length+1-b.length)*(o+1)=KK at *;replace j:=j.be ax;replace l:=l.be ax;replace f:=aC f ax;obtain⟨w4,e4,V,F⟩:=bI w3 [.bool s3,.slice A3 k3 c3] 40;replace j:=j.be V;replace l:=l.be V;replace hr:=hr.be V;replace I:=I.be V;replace f:=aC f V;have cF:=F.k2;go_wp2_with fail;(try rw[e4]);clear e4;refine(ae _ (N.be f) hr).mono ?_;rintro e5 w5 ⟨v5,rfl,D,Y⟩;obtain⟨A5,c5,rfl,b5⟩:=D.form;replace j:=j.be Y;replace l:=l.be Y;replace I:=I.be Y;replace F:=F.be Y;replace f:=aC f Y;replace cF:=F.k2;clear ae hr;go_wp2_with fail;refine(bn _ I).mono ?_;rintro e6 w6 ⟨rfl,aj⟩;replace j:=j.be aj;replace l:=l.be aj;replace D:=D.be aj;replace f:=aC f aj;clear bn cF F I;by_cases ad:0<m
   ·have af:m.sign=1:=Int.sign_eq_one_of_pos ad;rw[af];have G:=ag.out;rw[if_pos ad] at G;have ap:=aB G;have bh:=YX an;have bk:=fun W u h h'=>OD P (-1) (.slice A5 P.length c5) u W h h' KK am (aH (cJ (m:=1) (by unfold BN;decide)) au) (by omega) (by have:=L.out;omega);rw[bh] at bk;have bz:=xM (show(-1:Int)≠0 by decide) an;have bw:∀n∈P.map (·*(-1)),nl n.natAbs<=KK:=fun n hn=>by
     obtain⟨k,hk,rfl⟩:=List.mem_map.1 hn;rw[fL];simpa using am k hk
    have ah:Hid ((P.map (·*(-1))).length=r.length):=by unfold Hid;rw[cH];exact L.out
    clear G ag bh an am af ad bg;generalize P.map (·*(-1))=M at *;go_wp2_with fail;refine(lL (-1) _ (by decide) (by decide)).mono ?_;rintro e7 w7 ⟨v7,rfl,h7,ak⟩;replace j:=j.be ak;replace l:=l.be ak;replace D:=D.be ak;replace f:=aC f ak;go_wp2_with fail;refine(bk _ _ D h7).mono ?_;rintro e9 w9 ⟨v9,rfl,h9,ay⟩;obtain⟨A9,c9,rfl,b7⟩:=h9.form;replace j:=j.be ay;replace l:=l.be ay;replace f:=aC f ay;go_wp2;go_roundg M.length
    case rel=>exact⟨b,M,p,x,A9,c9,KK,LS,rfl,rfl,rfl,j,h9,l,aq,bz,⟨U,HH.out.1,ap.out⟩,bp,bw,au,by have:=ah.out;omega,by omega,by have:=ah.out;have:=a0.out;omega,by rw[ah.out];exact HH.out.2,f⟩
    case measure=>have:=HL.out;have:=ah.out;omega
   ·have af:m.sign= -1:=Int.sign_eq_neg_one_of_neg (by omega);rw[af];have G:=ag.out;rw[if_neg ad] at G;have ap:=aB G;clear G ag af ad bg;go_wp2;go_roundg P.length
    case rel=>exact⟨b,P,p,x,A5,c5,KK,LS,rfl,rfl,rfl,j,D,l,aq,an,⟨U,HH.out.1,ap.out⟩,bp,am,au,by have:=L.out;omega,by omega,by have:=L.out;have:=a0.out;omega,by rw[L.out];exact HH.out.2,f⟩
    case measure=>have:=HL.out;have:=L.out;omega
def WsAt.up{a b:World}[u:Up a b]{B:Nat}{v:Value}{c:List (List Int)}(h:WsAt a B 37 v c):WsAt b B 37 v c:=h.be u.out
def BV(e:List (List Int))(B:Nat)(i:Int)(x:Rat)(v u:Value)(w:World)(hv:WsAt w B 37 v e)(U:EndAt w u i x)(hi: -1<=i∧i<=1)(ak:e.length<=1024)(K:Nat)(q:∀a∈e,a≠[]∧a.length<=65∧∀n∈a,nl n.natAbs<=K)(kx:RL K x)(ac:140*K+10<=17592186044416):
  Calls prog 80 #[v,u] w (eO w (aY 0 (e.map (fun a=>aP a i x)):Nat)):=by
 obtain⟨J,r,H,y,L,s,I,z,rfl⟩:=U.form;obtain⟨A,c,rfl,hc⟩:=hv.form;have P:=fun a W u h h' (E:a∈e)=>UM i x a (.agg #[.bool J,.slice r H y,.bool L,.slice s I z,.int .i64 i]) u W h h' hi (q a E).1 (q a E).2.1 K (q a E).2.2 kx ac;unfold eO at P;unfold eO;obtain⟨V,D⟩:∃V,aY 0 (e.map (fun a=>aP a i x))=V:=⟨_,rfl⟩;rw[D];have M:Hid (0+aY 0 ((e.drop 0).map (fun a=>aP a i x))=V):=by unfold Hid;rw[List.drop_zero,bA];exact D
 clear D q;obtain⟨W,O,d,X⟩:=bI w [.bool J,.slice r H y,.bool L,.slice s I z,.int .i64 i] 111;have cM:=X.g5;go_enter func80,ntmps80;go_wp2_with fail;(try rw[O]);clear O;go_loopg [5,6,12] e.length (fun k vc vb vi wr=>∃(j C:Nat) (b:Int),Hid (j+k=e.length)∧vc= .int .i64 C∧vb= .int .i64 b∧vi= .int .i64 j∧C<=j∧ -1<=b∧b<=1∧Hid (C+aY b ((e.drop j).map (fun a=>aP a i x))=V)∧Bx wr w.heap.size [.bool J,.slice r H y,.bool L,.slice s I z,.int .i64 i] 111∧Below w.heap.size w wr)
 case atStart=>exact⟨0,0,0,by unfold Hid;omega,rfl,rfl,rfl,aE,by decide,by decide,M,X,d⟩
 case round=>
  clear M X d;obtain⟨j,C,b,l,rfl,rfl,rfl,hC,ad,ae,t,X,d⟩:=hrel;generalize wr=wy at *;have ai:(0:Int)<=(j:Int):=by omega
  cases gk with
  |zero=>
   have R:j=e.length:=l.out;have HC:Hid (C=V):=by
    have:=t.out;rw[R,List.drop_length] at this;exact this
   subst R;go_wp2;go_ret;exact⟨by rw[HC.out];rfl,d⟩
  |succ k=>
   have af:j<e.length:=by have:=l.out;omega
   have aj:(j:Int)<(e.length:Int):=by omega
   obtain⟨a,p⟩:∃a,e[j]? =some a:=⟨_,aR af⟩;obtain⟨bb,u,rfl,ag,hu,Q⟩:=(hv.be d).at_ p;obtain⟨Z,cu,rfl,ah⟩:=Q.form;have T:aY b ((e.drop j).map (fun a=>aP a i x))=if aP a i x=0 then aY b ((e.drop (j+1)).map (fun a=>aP a i x)) else (if b≠0∧aP a i x≠b then 1 else 0)+aY (aP a i x) ((e.drop (j+1)).map (fun a=>aP a i x)):=KD (fun a=>aP a i x) p b;have o:=YT a i x;have G:=P a wy (.slice Z a.length cu) (U.be d) Q (dG p);have f:=t.out;rw[T] at f;clear T p t;generalize aP a i x=S at *;have cX:=X.k5;have hw:IntKind.i64.wrap (-S)= -S:=IntWalk.i64_in _ ⟨by omega,by omega⟩;by_cases m:S=0
   ·subst m;rw[if_pos rfl] at f;replace f:=aB f;go_wp2_with fail;refine G.mono ?_;rintro N Y ⟨rfl,g⟩;replace X:=X.be g;replace d:=aC d g;go_wp2;go_roundg k
    case rel=>exact⟨j+1,C,b,by have:=l.out;unfold Hid;omega,rfl,rfl,by go_num,by omega,ad,ae,f.out,X,d⟩
    case measure=>omega
   ·rw[if_neg m] at f;have q0:(S==0)=false:=by simpa using m
    by_cases F:b= -S
    ·subst F;rw[if_pos (by omega)] at f;replace f:=aB f;clear m;go_wp2_with fail;refine G.mono ?_;rintro N Y ⟨rfl,g⟩;replace X:=X.be g;replace d:=aC d g;go_wp2;go_roundg k
     case rel=>exact⟨j+1,C+1,S,by have:=l.out;unfold Hid;omega,by go_num,rfl,by go_num,by omega,o.1,o.2,by have:=f.out;unfold Hid;omega,X,d⟩
     case measure=>omega
    ·rw[if_neg (by omega),bA] at f;replace f:=aB f;have q1:(b== -S)=false:=by simpa using F
     clear m F;go_wp2_with fail;refine G.mono ?_;rintro N Y ⟨rfl,g⟩;replace X:=X.be g;replace d:=aC d g;go_wp2;go_roundg k
     case rel=>exact⟨j+1,C,S,by have:=l.out;unfold Hid;omega,rfl,rfl,by go_num,by omega,o.1,o.2,f.out,X,d⟩
     case measure=>omega
def xA(w:World)(s:List Int)(i:Int)(x:Rat)(j:Int)(y:Rat)(e:Ending)(w':World):Prop:=∃n:Int,e= .returned (.int .i64 n)∧ -1024<=n∧n<=1024∧(jO i x j y=false->n=0)∧(jO i x j y=true->∃c,StT 35080695 s (aS (bB s)) c∧n=fF s c i x j y)∧Below w.heap.size w w'
def J0(s:List Int)(i j:Int)(x y:Rat)(v u1 u2:Value)(w:World)(J:Glob w)(hv:WholeAt w v s)(ts:aN s)(h0:s≠[])(f:Sz s)(g:EndAt w u1 i x)(k:EndAt w u2 j y)(hi: -1<=i∧i<=1)(hj: -1<=j∧j<=1)(kx:RL 35080695 x)(ky:RL 35080695 y):
  Calls prog 59 #[v,u1,u2] w (xA w s i x j y):=by
 obtain⟨F,l,B,q,G,m,C,r,rfl⟩:=g.form;obtain⟨H,o,D,t,I,p,E,u,rfl⟩:=k.form;have z:=fun W h e=>UL i j x y (.agg #[.bool F,.slice l B q,.bool G,.slice m C r,.int .i64 i]) (.agg #[.bool H,.slice o D t,.bool I,.slice p E u,.int .i64 j]) W h e hi hj 35080695 kx ky (by omega);have A:=fun W J h=>KE s v W J h ts h0 f;have td:=gV (lE ts);have kd:∀n∈aS (bB s),nl n.natAbs<=35080695:=fun n hn=>by
  obtain⟨K,hK,ag,ah, -⟩:=f.ex;exact aH (gU (pL hK (by have:=f.1;omega)) n hn) (by omega)
 have ld:(aS (bB s)).length=s.length-1:=by rw[dF,lZ]
 have Q:∀c,StT 35080695 s (aS (bB s)) c->(s :: c).length<=8∧∀a∈s :: c,a≠[]∧a.length<=65∧∀n∈a,nl n.natAbs<=35080695:=fun c h=>by
  have h1:=h.len;have h7:=f.1;refine⟨by rw[eG];omega,fun a N=> ?_⟩;rcases List.mem_cons.1 N with rfl|N
  ·exact⟨h0,by omega,fun n hn=>aH (f.nums n hn) (by omega)⟩
  ·obtain⟨Z,e2,e3,e4⟩:=h.mem td kd a N;exact⟨Z,by omega,e4⟩
 unfold y6 at A;unfold xA;obtain⟨L,hL⟩:∃L,jO i x j y=L:=⟨_,rfl⟩;rw[hL] at z⊢;clear hL td kd ld;obtain⟨W,eW,d,X,Y⟩:=eL w [.bool F,.slice l B q,.bool G,.slice m C r,.int .i64 i] 111 [.bool H,.slice o D t,.bool I,.slice p E u,.int .i64 j] 111;have cM:=aa X.g5 Y.g5;go_enter func59,ntmps59;go_wp2_with fail;(try rw[eW]);clear eW;refine(z _ (g.be d) (k.be d)).mono ?_;rintro Z w1 ⟨rfl,O⟩;replace X:=X.be O;replace Y:=Y.be O;replace d:=aC d O;cases L with
 |false=>
  clear A Q z;go_wp2;go_ret
  first
   |exact⟨0,rfl,by decide,by decide,rfl,d⟩
   |exact⟨0,rfl,by decide,by decide,fun _=>rfl,(fun h=>absurd h (by decide)),d⟩
 |true=>
  clear z;go_wp2_with fail;refine(A _ (J.be d) (hv.be d)).mono ?_;rintro e2 w2 ⟨v2,c,rfl,h2,M,P⟩;replace X:=X.be P;replace Y:=Y.be P;replace d:=aC d P;obtain⟨ai,R⟩:=Q c M;have ac:=fun W h e=>BV (s :: c) w1.heap.size i x v2 (.agg #[.bool F,.slice l B q,.bool G,.slice m C r,.int .i64 i]) W h e hi (by omega) 35080695 R kx (by omega);have ad:=fun W h e=>BV (s :: c) w1.heap.size j y v2 (.agg #[.bool H,.slice o D t,.bool I,.slice p E u,.int .i64 j]) W h e hj (by omega) 35080695 R ky (by omega);have bx:=qR ((s :: c).map (fun a=>aP a i x)) 0;have bY:=qR ((s :: c).map (fun a=>aP a j y)) 0;rw[cH] at bx bY;unfold eO at ac ad;have S:Hid (fF s c i x j y=(aY 0 ((s :: c).map (fun a=>aP a i x)):Int)-(aY 0 ((s :: c).map (fun a=>aP a j y)):Int)):=rfl;have T:=aB M;clear A Q R M;generalize aY 0 ((s :: c).map (fun a=>aP a i x))=U at *;generalize aY 0 ((s :: c).map (fun a=>aP a j y))=V at *;replace g:=g.be d;replace k:=k.be d;have hw:IntKind.i64.wrap ((U:Int)-(V:Int))=(U:Int)-(V:Int):=IntWalk.i64_in _ ⟨by omega,by omega⟩;go_wp2_with fail
  go_region_held3 (fun w'=>C5 w' w.heap.size (.bool F) (.slice l B q) (.bool G) (.slice m C r) (.int .i64 i)∧C5 w' (w.heap.size+1) (.bool H) (.slice o D t) (.bool I) (.slice p E u) (.int .i64 j)) (with_reducible exact⟨X.up.k5,Y.up.k5⟩)
   (first
    |(go_at_call 80;first|(with_reducible refine(ac _ h2.up g.up).mono ?_;rintro e5 w5 ⟨rfl,ae⟩;have:=St.mk ae)|(with_reducible refine(ad _ h2.up k.up).mono ?_;rintro e6 w6 ⟨rfl,af⟩;have:=St.mk af)))
  all_goals (
   go_wp2;go_ret
   first
    |exact⟨_,rfl,by omega,by omega,⟨c,T.out,S.out.symm⟩,bJ (b:=w5) d⟩
    |exact⟨_,rfl,by omega,by omega,⟨c,T.out,S.out.symm⟩,bJ (b:=w6) d⟩)
def YZ(x:Int)(n:Nat)(v:Value)(w:World)(hv:IntAt w v x)(hn:n<18446744073709551616)(Q:nl x.natAbs+n/64+1<=17592186044416):Calls prog 29 #[v,.int .u64 n] w (dW w (x*2^n)):=by
 obtain⟨S,rfl,b⟩:=hv;obtain⟨k,m,rfl, -⟩:=id b;have t:(x*2^n).natAbs=x.natAbs*2^n:=by rw[fL,Int.natAbs_pow];rfl
 have A:x*2^n=if decide (x<0) then -((x.natAbs*2^n:Nat):Int) else ((x.natAbs*2^n:Nat):Int):=by
  have H:(0:Int)<2^n:=Int.pow_pos (by decide);by_cases h:x<0
  ·have:=Int.mul_neg_of_neg_of_pos h H;simp only[h,decide_true,if_true];omega
  ·have:=gB (show 0<=x by omega) (show 0<=(2:Int)^n by omega);simp only[h,decide_false];simp only[Bool.false_eq_true,if_false];omega
 have E:nl (2^n)<=n/64+1:=cJ (by
  have e:BN^(n/64+1)=2^(64*(n/64+1)):=by rw[Nat.pow_mul];rfl
  rw[e];exact Nat.pow_lt_pow_right (by decide) (by omega))
 have G:=fI x.natAbs (2^n);have z:=fun W h=>tC x.natAbs n (.slice k (nl x.natAbs) m) W h hn (by unfold aJ;omega);have y:=fun W u h=>p7 (decide (x<0)) u (x.natAbs*2^n) (x*2^n) W h (by omega) A;have C:=aB t;obtain⟨f,q⟩:∃f,Hid (decide (x*2^n<0)=f):=⟨_,rfl⟩;rw[q.out] at y;unfold jK at z;clear t A E G;generalize decide (x<0)=B at *;generalize x.natAbs*2^n=P at *;obtain⟨W,r,a,X,R⟩:=eL w [.bool B,.slice k (nl x.natAbs) m] 40 [.bool false,.slice none 0 0] 40;have g:=aa X.g2 R.g2;go_enter func29,ntmps29;go_wp2_with fail;(try rw[r]);clear r;replace b:=b.be a;replace b:=b.drew;replace X:=X.drew;replace R:=R.drew;replace a:=a.drew;replace g:=aa X.k2 R.g2;have I:w.heap.size+1≠w.heap.size:=by omega
 go_region_held3 (fun J=>C2 J w.heap.size (.bool B) (.slice k (nl x.natAbs) m))
  (first|(with_reducible exact X.k2)|((repeat (first|with_reducible exact X.k2|with_reducible refine fQ I ?_))))
  (first
   |(go_at_call 76;refine(z _ b).mono ?_;rintro M U ⟨T,rfl,d,O,i⟩;obtain⟨l,o,rfl, -⟩:=id d;replace X:=X.be i;replace R:=R.be i;replace g:=aa X.k2 R.g2;replace c:=Keep.be i;replace b:=b.ke c;(try replace F:=F.ke c);replace a:=aC a i)
   |(go_at_call 75;refine(y _ _ d).mono ?_;rintro N K ⟨rfl,j⟩;replace X:=X.be j;replace R:=R.be j;replace g:=aa X.k2 R.g2;replace c:=Keep.be j;replace b:=b.ke c;(try replace d:=d.ke c);replace a:=aC a j))
 all_goals (
  have p:IntAt K (.agg #[.bool f,.slice l (nl P) o]) (x*2^n):=⟨_,by rw[q.out],by rw[C.out];exact d⟩;go_wp2_with fail;obtain⟨L,s,R,a,c,D⟩:=R.put2 a (by omega) (.bool f) (.slice l (nl P) o) rfl rfl;replace X:=D X (by omega);replace p:=p.ke c;rw[s];clear s;replace g:=aa X.k2 R.k2;exact aM (v:= .agg #[.bool f,.slice l (nl P) o]) (by simp[results,results29,go_sem,R.k2]) rfl ⟨_,rfl,p,a⟩
 )
end Go.Proofs.YtgjeoghojliocaaGreatDoor
namespace Go.Proofs.YtgjeoghojliocaaGreatDoor
open Sos
def jE(l:List Int):Int:=l.foldl (fun g c=>if g<(c.natAbs:Int) then (c.natAbs:Int) else g) 0
def iH(q:Rat):Rat:=if q.num.sign<0 then -q else q
def lF(d:Rat)(l:List Rat):Rat:=l.foldl (fun b q=>if b<iH (q/d) then iH (q/d) else b) 0
def KG{α β:Type}(f:β->α->β)(b:β)(l:List α){i:Nat}{a:α}(h:l[i]? =some a):(l.take (i+1)).foldl f b=f ((l.take i).foldl f b) a:=by
 rw[kR,h,Option.toList_some,List.foldl_append];rfl
def KH{l:List Int}{i:Nat}{c:Int}(h:l[i]? =some c):jE (l.take (i+1))=if jE (l.take i)<(c.natAbs:Int) then (c.natAbs:Int) else jE (l.take i):=KG _ _ l h
def KI{d:Rat}{l:List Rat}{i:Nat}{q:Rat}(h:l[i]? =some q):lF d (l.take (i+1))=if lF d (l.take i)<iH (q/d) then iH (q/d) else lF d (l.take i):=KG _ _ l h
def KJ{l:List Int}{K:Nat}(h:∀n∈l,nl n.natAbs<=K)(i:Nat):nl (jE (l.take i)).natAbs<=K:=by
 induction i with
 |zero=>show nl (0:Int).natAbs<=K;rw[Int.natAbs_zero,dO];omega
 |succ i b=>
  by_cases a:i<l.length
  ·rw[KH (aR a)];split
   ·rw[dD];exact h _ (List.getElem_mem a)
   ·exact b
  ·rw[cZ (by omega)];rwa [cZ (by omega)] at b
def KL{q:Rat}{K:Nat}(h:RL K q):RL K (iH q):=by
 unfold iH;split
 ·exact C7 h
 ·exact h
def KN{d:Rat}{l:List Rat}{K L:Nat}(h:∀q∈l,RL K q)(c:RL L d)(e:1<=K)(i:Nat):RL (K+L) (lF d (l.take i)):=by
 induction i with
 |zero=>show RL (K+L) 0;exact iG (by omega)
 |succ i b=>
  by_cases a:i<l.length
  ·rw[KI (aR a)];split
   ·exact KL (xS (h _ (List.getElem_mem a)) c)
   ·exact b
  ·rw[cZ (by omega)];rwa [cZ (by omega)] at b
def Z1(n:Int):((n.natAbs:Int):Rat)=iH (n:Rat):=by
 unfold iH;rw[xJ];by_cases h:n<0
 ·rw[if_pos (by rw[Int.sign_eq_neg_one_of_neg h];decide),show((n.natAbs:Int))= -n by omega,Rat.intCast_neg]
 ·have:¬n.sign<0:=by rcases Int.lt_or_eq_of_le (Int.not_lt.1 h) with h|h
                     ·rw[Int.sign_eq_one_of_pos h];decide
                     ·rw[<-h];decide
  rw[if_neg this,show((n.natAbs:Int))=n by omega]
def KO(q:Rat):iH q=q∧0<=q∨iH q= -q∧q<0:=by
 unfold iH;rcases iY q with h|h|h
 ·rw[if_pos (by rw[(fS q).2 h];decide)];exact .inr ⟨rfl,h⟩
 ·rw[h];exact .inl ⟨by decide,by decide⟩
 ·rw[if_neg (by rw[(fS q).1 h];decide)];exact .inl ⟨rfl,by grind⟩
def KP{c:Rat}(a:0<c)(q:Rat):iH (c*q)=c*iH q:=by
 unfold iH;rw[tU a];split
 ·grind
 ·rfl
def Z2{L:Int}{D:Rat}(j:L≠0)(u:D≠0)(l:List Int):lF ((L:Rat)/D) (l.map (fun n:Int=>(n:Rat)/D))=((jE l:Int):Rat)/((L.natAbs:Int):Rat):=by
 have v:=gJ j;have t:0<((L.natAbs:Int):Rat):=by
  have:(0:Int)<(L.natAbs:Int):=by omega
  exact_mod_cast this
 have i:0<((L.natAbs:Int):Rat)⁻¹:=Rat.inv_pos.2 t;have e:∀n:Int,iH ((n:Rat)/D/((L:Rat)/D))=((n.natAbs:Int):Rat)/((L.natAbs:Int):Rat):=fun n=>by
  have d:(n:Rat)/D/((L:Rat)/D)=(n:Rat)/L:=by grind
  rw[d,Z1 n];rcases Int.lt_or_lt_of_ne j with h|h
  ·have a:((L.natAbs:Int):Rat)= -(L:Rat):=by rw[show(L.natAbs:Int)= -L by omega,Rat.intCast_neg]
   have f:(n:Rat)/L=(((L.natAbs:Int):Rat)⁻¹)*(-(n:Rat)):=by rw[a];grind
   rw[f,KP i,Rat.div_def,Rat.mul_comm];congr 1;rcases KO (n:Rat) with ⟨m,o⟩|⟨m,o⟩<;>rcases KO (-(n:Rat)) with ⟨p,r⟩|⟨p,r⟩<;>grind
  ·have a:((L.natAbs:Int):Rat)=(L:Rat):=by rw[show(L.natAbs:Int)=L by omega]
   have f:(n:Rat)/L=(((L.natAbs:Int):Rat)⁻¹)*(n:Rat):=by rw[a];grind
   rw[f,KP i,Rat.div_def,Rat.mul_comm]
 unfold lF jE;suffices h:∀(l:List Int) (g:Int),(l.map (fun n:Int=>(n:Rat)/D)).foldl (fun b q=>if b<iH (q/((L:Rat)/D)) then iH (q/((L:Rat)/D)) else b) ((g:Rat)/((L.natAbs:Int):Rat))=((l.foldl (fun g c=>if g<(c.natAbs:Int) then (c.natAbs:Int) else g) g:Int):Rat)/((L.natAbs:Int):Rat) by
  have:=h l 0;have z:((0:Int):Rat)/((L.natAbs:Int):Rat)=0:=by rw[Rat.intCast_zero,Rat.div_def,Rat.zero_mul]
  rwa [z] at this
 intro l;induction l with
 |nil=>intro g;rfl
 |cons n l k=>
  intro g;rw[fM,List.foldl_cons,List.foldl_cons,e];have d:((g:Rat)/((L.natAbs:Int):Rat)<((n.natAbs:Int):Rat)/((L.natAbs:Int):Rat))↔g<(n.natAbs:Int):=by
   rw[Rat.div_def,Rat.div_def];constructor
   ·intro h;have:(g:Rat)<((n.natAbs:Int):Rat):=by
     by_cases a:(g:Rat)<((n.natAbs:Int):Rat)
     ·exact a
     ·have f:((n.natAbs:Int):Rat)*(((L.natAbs:Int):Rat))⁻¹<=(g:Rat)*(((L.natAbs:Int):Rat))⁻¹:=Rat.mul_le_mul_of_nonneg_right (by grind) (Rat.le_of_lt i);grind
    exact_mod_cast this
   ·intro h;have a:(g:Rat)<((n.natAbs:Int):Rat):=by exact_mod_cast h
    exact Rat.mul_lt_mul_of_pos_right a i
  by_cases h:g<(n.natAbs:Int)
  ·rw[if_pos (d.2 h),if_pos h];exact k _
  ·rw[if_neg (fun s=>h (d.1 s)),if_neg h];exact k _
def D0{xs ys q r:List Int}{m:Int}(h:YL q ys r xs m 4=true)(g:xs.length<=4∧r.length<=4∧q.length+ys.length<=5)(b:m=1)(d:r.length<ys.length)(e:aN q)(f:aN r)(c:q.length<=xs.length)(k:∀n∈q++r,nl n.natAbs<=1):PQRes xs ys 1 m q r:=by
 subst b;refine⟨fun i=> ?_,by decide,d,e,f,c,⟨0,dC _,by rw[Int.pow_zero]⟩,fun n hn=>k n (List.mem_append_left _ hn),fun n hn=>k n (List.mem_append_right _ hn),cJ (m:=1) (by unfold BN;decide)⟩;by_cases a:i<4
 ·exact of_decide_eq_true ((List.all_eq_true.1 h) i (List.mem_range.2 a))
 ·rw[bV (by omega),bV (l:=r) (by omega),rG (m:=q.length) (n:=ys.length) (fun i a=>bV a) (fun i a=>bV a) (by omega)];rfl
def D4{n:Nat}(h:n<4):nl n<=1:=cJ (m:=1) (by unfold BN;omega)
def Z4:Sqp 1 [-2,0,1] [-2,0,1]:=by
 refine⟨⟨[1],?_,by simp,oB rfl,rfl,rfl,fun i=>by rw[CO]⟩,by simp,oB rfl⟩;have e:aS (bB [-2,0,1])=[0,1]:=by decide
 rw[e]
 refine .step (q:=[0,1]) (r:=[-2]) (m:=1) (by decide) (D0 (by decide) (by decide) rfl (by decide) (oB rfl) (oB rfl) (by decide) (fun n hn=>by
  simp at hn;rcases hn with rfl|rfl|rfl<;>exact D4 (by decide))) (.one (by decide))
def KQ:Cn 1 [-2,0,1] [-2,0,1] [[0,1],[1]]:=by
 refine⟨Z4,?_⟩;have e:aS (bB [-2,0,1])=[0,1]:=by decide
 rw[e]
 refine .step (q:=[0,1]) (r:=[-2]) (m:=1) (by decide) (D0 (by decide) (by decide) rfl (by decide) (oB rfl) (oB rfl) (by decide) (fun n hn=>by
  simp at hn;rcases hn with rfl|rfl|rfl<;>exact D4 (by decide))) ?_
 have a:(if (0:Int)<1 then (aS [-2]).map (·*(-1)) else aS [-2])=[1]:=by decide
 rw[a]
 refine .step (q:=[0,1]) (r:=[]) (m:=1) (by decide) (D0 (by decide) (by decide) rfl (by decide) (oB rfl) (fun x c=>by cases c) (by decide) (fun n hn=>by
  simp at hn;rcases hn with rfl|rfl<;>exact D4 (by decide))) ?_
 have b:(if (0:Int)<1 then (aS []).map (·*(-1)) else aS [])=[]:=by decide
 rw[b];exact .done _
def Z5:fF [-2,0,1] [[0,1],[1]] (-1) 0 1 0=2:=by decide
def Z6:aY 0 (([-2,0,1] :: [[0,1],[1]]).map (fun a=>aP a 0 (-4)))=2∧aY 0 (([-2,0,1] :: [[0,1],[1]]).map (fun a=>aP a 0 0))=1∧aY 0 (([-2,0,1] :: [[0,1],[1]]).map (fun a=>aP a 0 4))=0:=by decide
def Z7:aP [-2,0,1] 0 (-4)=1∧aP [-2,0,1] 0 0= -1∧aP [-2,0,1] 0 4=1:=by decide
inductive ExK(K:Nat)(D:Rat->Rat->Prop)(V:Rat->Nat)(s:Rat->Int):Rat->Rat->List (Rat×Rat)->Prop
 |none {a b:Rat} (h:V a<=V b):ExK K D V s a b []
 |hit {a b:Rat} (h:V a=V b+1) (hb:s b=0):ExK K D V s a b [(b,b)]
 |one {a b:Rat} (h:V a=V b+1) (hb:s b≠0) (ha:s a≠0):ExK K D V s a b [(a,b)]
 |split {a b:Rat} {l m:List (Rat×Rat)} (h:V b<V a) (h':V a=V b+1->s b≠0∧s a=0) (hd:D a b) (hk:RL K ((a+b)/2)) (hl:ExK K D V s a ((a+b)/2) l) (hm:ExK K D V s ((a+b)/2) b m):ExK K D V s a b (l++m)
def Pw(b:Rat)(n:Nat):Prop:=b<=(((2:Int)^n:Int):Rat)∧∀m,m<n->(((2:Int)^m:Int):Rat)<b
def ExK.mono{K d:Nat}{D:Rat->Rat->Prop}{V:Rat->Nat}{s:Rat->Int}{a b:Rat}{l:List (Rat×Rat)}(h:ExK K D V s a b l)(f:K<=d):ExK d D V s a b l:=by
 induction h with
 |none h=>exact .none h
 |hit h c=>exact .hit h c
 |one h c g=>exact .one h c g
 |split h e i j _ _ k m=>exact .split h e i (bU j f) k m
def y7(x y:Rat):Prop:=x.den=1∧y.den=1
def Z3{V:Rat->Nat}{s:Rat->Int}(h:V (-4)=2∧V 0=1∧V 4=0)(a:s (-4)≠0∧s 0≠0∧s 4≠0):ExK 1 y7 V s (-4) 4 [(-4,0),(0,4)]:=by
 have e:((-4:Rat)+4)/2=0:=by grind
 refine .split (l:=[(-4,0)]) (m:=[(0,4)]) (by omega) (fun b=>by omega) ⟨rfl,rfl⟩ (by rw[e];exact iG (by decide)) ?_ ?_
 ·rw[e];exact .one (by omega) a.2.1 a.1
 ·rw[e];exact .one (by omega) a.2.2 a.2.1
end Go.Proofs.YtgjeoghojliocaaGreatDoor
namespace Go.Proofs.YtgjeoghojliocaaGreatDoor
open Go.RowKit Sos Tryz
def rY:RL 1 (1:Rat):=⟨cJ (m:=1) (by unfold BN;decide),cJ (m:=1) (by unfold BN;decide)⟩
def rZ(ns:List Int):Rat:=((jE (ns.take (ns.length-1)):Int):Rat)/(((cf ns (ns.length-1)).natAbs:Int):Rat)+1
def IY{ns:List Int}{K:Nat}(b:∀n∈ns,nl n.natAbs<=K)(a:1<=K):RL (2*K+2) (rZ ns)∧RL K (((jE (ns.take (ns.length-1)):Int):Rat)/(((cf ns (ns.length-1)).natAbs:Int):Rat)):=by
 have h:=pM (KJ b (ns.length-1)) (show nl (((cf ns (ns.length-1)).natAbs:Int)).natAbs<=K by rw[dD];exact iU b _) a;exact⟨bU (wW h (bU rY a)) (by omega),h⟩
def IZ(x y:Rat)(a b:Value)(w:World)(_:Glob w)(f:RatAt w a x)(g:RatAt w b y)(i:y.den=1)(K:Nat)(d:RL K x)(c:RL K y)(e:10*K+40<=aJ):Calls prog 43 #[a,b] w (iF w (x+y)):=by
 by_cases h:x.den=1
 ·exact J7 x y a b w f g h i K d c e
 ·exact J8 x y a b w f g h i K d c e
def UK(ns:List Int)(v:Value)(w:World)(o:Glob w)(hv:WholeAt w v ns)(Q:ns≠[])(ht:aN ns)(K:Nat)(y:∀n∈ns,nl n.natAbs<=K)(hl:ns.length<=65)(h1:1<=K)(ao:K<=1073741824):
  Calls prog 16 #[v] w (iF w (rZ ns)):=by
 obtain⟨A,c,rfl,hc⟩:=hv.form;have ax:=List.length_pos_iff.2 Q;obtain⟨m,hm⟩:∃m,ns.length-1=m:=⟨_,rfl⟩;have am:(ns.length:Int)-1=(m:Int):=by omega
 have Z:=fun W=>JO ns.length c A W (by omega);simp only[am] at Z;have H:=fun W h=>wS ns (.slice A ns.length c) W h Q (by omega);have bl:=iU y m;obtain⟨-,J⟩:=IY y h1;have al:cf ns m≠0:=by rw[<-hm];exact(fT Q).1 ht
 have bG:=fun j=>KJ y j;unfold rZ;rw[hm] at H J⊢;have S:=fun W v h=>J3 (cf ns m) v W h;have ac:=fun W u v o h p=>I3 (jE (ns.take m)) ((cf ns m).natAbs:Int) u v W o h p K (bG m) (by rw[dD];exact bl) (by unfold aJ;omega);have ad:=fun W=>UQ 1 W (by decide) (by decide);have U:=fun W u v o h p=>IZ (((jE (ns.take m):Int):Rat)/(((cf ns m).natAbs:Int):Rat)) ((1:Int):Rat) u v W o h p rfl K J (bU rY h1) (by unfold aJ;omega);have M:(1:Rat)=((1:Int):Rat):=rfl;rw[M];have az:(0:Int)<=(m:Int):=by omega
 have a0:(m:Int)<=(c:Int):=by omega
 unfold dW at H S;unfold iF at ac ad U;unfold iF;generalize (((jE (ns.take m):Int):Rat)/(((cf ns m).natAbs:Int):Rat))=F at *;generalize ((1:Int):Rat)=a2 at *;generalize cf ns m=cl at *;clear J bl M al;obtain⟨W,eW,a,R,G⟩:=eL w [.bool false,.slice none 0 0,.bool false,.slice none 0 0] 47 [.bool false,.slice none 0 0] 40;have cM:=aa R.g4 G.g2;go_enter func16,ntmps16;go_wp2_with fail;(try rw[eW]);clear eW;refine(Z _).mono ?_;rintro M w1 ⟨rfl,rfl⟩;have af:IntBx w1 (w.heap.size+1) (jE (ns.take 0)):=⟨_,_,_,_,G,IntAt.zero _⟩;clear G;go_wp2_with fail;go_loopg [12] m (fun k i wr=>∃j,Hid (j+k=m)∧i= .int .i64 j∧IntBx wr (w.heap.size+1) (jE (ns.take j))∧Bx wr w.heap.size [.bool false,.slice none 0 0,.bool false,.slice none 0 0] 47∧Below w.heap.size w wr)
 case atStart=>exact⟨0,by unfold Hid;omega,rfl,af,R,a⟩
 case round=>
  clear af R a;obtain⟨j,t,rfl,⟨s,B,l,d,G,f⟩,R,a⟩:=hrel;generalize wr=wy at *;have au:(0:Int)<=(j:Int):=by omega
  cases gk with
  |zero=>
   obtain rfl:j=m:=t.out;have cG:=G.g2;go_wp2_with fail
   go_region_held3 (fun w'=>C2 w' (w.heap.size+1) (.bool s) (.slice B l d))
    (first|(with_reducible exact G.up.k2)|(with_reducible exact fQ (by omega) (fQ (by omega) (fQ (by omega) (fQ (by omega) G.up.k2)))))
    (first
     |(go_at_call 42;refine(H _ (hv.be a).up).mono ?_;rintro e3 w3 ⟨v3,rfl,e,z⟩;obtain⟨s3,I,k3,L,rfl⟩:=e.form;have:=St.mk z)
     |(go_at_call 39;refine(S _ _ e.up).mono ?_;rintro N w4 ⟨v4,rfl,h4,C⟩;obtain⟨s4,A4,k4,c4,rfl⟩:=h4.form;have:=St.mk C)
     |(go_at_call 41;refine(ac _ _ _ (o.be a).up f.up h4.up).mono ?_;rintro e5 w5 ⟨v5,rfl,h5,g⟩;obtain⟨s5,A5,k5,c5,s6,A6,k6,c6,rfl⟩:=h5.form;have:=St.mk g)
     |(go_at_call 44;refine(ad _).mono ?_;rintro e7 w7 ⟨v7,rfl,h7,aj⟩;obtain⟨s7,A7,k7,c7,s8,A8,k8,c8,rfl⟩:=h7.form;have:=St.mk aj)
     |(go_at_call 43;refine(U _ _ _ (o.be a).up h5.up h7.up).mono ?_;rintro e9 w9 ⟨v9,rfl,h9,ak⟩;obtain⟨s1,A1,k1,c1,s2,A2,k2,c2,rfl⟩:=h9.form;have:=St.mk ak;have R9:=R.up (b:=w9);have an:=R9.g4))
   all_goals (
    go_wp2_with fail;obtain⟨W6,x,R6,V,hk,ff⟩:=R9.put4 (bJ (b:=w9) a) aE (.bool s1) (.slice A1 k1 c1) (.bool s2) (.slice A2 k2 c2) rfl rfl;rw[x];exact aM (v:= .agg #[.bool s1,.slice A1 k1 c1,.bool s2,.slice A2 k2 c2]) (by simp[results,results16,go_sem,R6.k4]) rfl ⟨_,rfl,h9.ke hk,V⟩)
  |succ k=>
   have aw:j<m:=by have:=t.out;omega
   have av:(j:Int)<(m:Int):=by omega
   obtain⟨n,hn⟩:∃n,ns[j]? =some n:=⟨_,aR (by omega)⟩;have ag:=KH hn;have kn:=y n (dG hn);obtain⟨b,s',B',l',d',ah,ar,g0,g1,E⟩:=(hv.be a).at_ hn;subst ah;have T:=fun W v h=>J3 n v W h;have D:=fun W u v h p=>BX (n.natAbs:Int) (jE (ns.take j)) u v W h p (by rw[dD];omega) (aH (bG j) (by omega));have ae:=aB ag;unfold dW at T;unfold eO at D;obtain⟨P,hP⟩:∃P,bZ (n.natAbs:Int) (jE (ns.take j))=P:=⟨_,rfl⟩;have ai:=kJ (n.natAbs:Int) (jE (ns.take j));rw[hP] at D ai;clear ag hn H S ac ad U Z hP;generalize jE (ns.take j)=O at *;obtain⟨w2,e2,r,X⟩:=bI wy [.bool s',.slice B' l' d'] 40;replace G:=G.be r;replace R:=R.be r;replace f:=f.be r;replace E:=E.be r;replace a:=aC a r;have cX:=X.k2;go_wp2_with fail;(try rw[e2]);(try clear e2);refine(T _ _ E).mono ?_;rintro e3 w3 ⟨v3,rfl,e,z⟩;obtain⟨s3,I,k3,L,rfl⟩:=e.form;obtain⟨w4,N,C,Y⟩:=bI w3 [.bool s3,.slice I k3 L] 40;have q:=aC z C;replace G:=G.be q;replace R:=R.be q;replace f:=f.be q;replace e:=e.be C;replace a:=aC a q;have cY:=aa Y.k2 G.k2;clear cX X E g0 g1;go_wp2_with fail;(try rw[N]);(try clear N);refine(D _ _ _ e f).mono ?_;rintro e5 w5 ⟨rfl,g⟩;replace Y:=Y.be g;replace G:=G.be g;replace R:=R.be g;replace f:=f.be g;replace e:=e.be g;replace a:=aC a g;have aq:=Y.lt;have a1:=q.size;have cY:=aa Y.k2 G.g2;clear T D;by_cases ay:O<(n.natAbs:Int)
   ·obtain rfl:P=1:=by omega
    go_wp2_with fail;obtain⟨W6,x,G6,V,hk,ff⟩:=G.put2 a (by omega) (.bool s3) (.slice I k3 L) rfl rfl;rw[x];clear x;go_roundg k
    case rel=>exact⟨j+1,by have:=t.out;unfold Hid;omega,by go_num,⟨_,_,_,_,G6,by rw[ae.out,if_pos (show O<(n.natAbs:Int) by omega)];exact e.ke hk⟩,ff R (by omega),V⟩
    case measure=>omega
   ·have ap:¬(0:Int)<P:=by omega
    go_wp2;go_roundg k
    case rel=>exact⟨j+1,by have:=t.out;unfold Hid;omega,by go_num,⟨_,_,_,_,G,by rw[ae.out,if_neg (show¬O<(n.natAbs:Int) by omega)];exact f⟩,R,a⟩
    case measure=>omega
def dM(a:List (List UInt8)):Int:=if vl a=true then (if a=[] then 5 else 0) else 1
def ZA(v:Value):Prop:=∃s A k c,v= .agg #[.bool s,.slice A k c]
def ZC(w':World)(a:List (List UInt8))(E:Int)(v b:Value):Prop:=E=0->∃D,vl a=true∧a≠[]∧ComDen (aU a) D 8∧WholeAt w' v (cC (aU a) D)∧IntAt w' b D
def uK(w:World)(a:List (List UInt8))(e:Ending)(w':World):Prop:=∃A k c b,e= .returned (.tuple #[.slice A k c,b,.int .i64 (dM a)])∧ZA b∧ZC w' a (dM a) (.slice A k c) b∧Below w.heap.size w w'
def uL(a:List (List UInt8)):dM a=0∧vl a=true∧a≠[]∨dM a=1∧vl a=false∨dM a=5∧vl a=true∧a=[]:=by
 unfold dM;cases vl a with
 |false=>exact .inr (.inl ⟨rfl,rfl⟩)
 |true=>
  by_cases h:a=[]
  ·exact .inr (.inr ⟨by rw[if_pos rfl,if_pos h],rfl,h⟩)
  ·exact .inl ⟨by rw[if_pos rfl,if_neg h],rfl,h⟩
def NatAt.uniqI{w:World}{u:Value}{a b:Nat}(m:NatAt w u a)(n:NatAt w u b):a=b:=by
 obtain⟨A,c,rfl,_,r,_⟩:=m;obtain⟨t,v,e,_,s,_⟩:=n;simp only[Value.slice.injEq] at e;obtain⟨rfl,x,_⟩:=e;have q:dg a=dg b:=by
  refine List.ext_getElem? (fun i=> ?_);by_cases f:i<nl a
  ·have j:i<nl b:=by omega
   rcases r with h|⟨g,z,rfl,_,o⟩
   ·rw[<-aK,h] at f;simp at f
   ·rcases s with h|⟨y,B,l,_,p⟩
    ·rw[<-aK,h] at j;simp at j
    ·simp only[Option.some.injEq,Addr.mk.injEq] at l;obtain⟨rfl,rfl,_⟩:=l;have k:=o i (by rw[aK];exact f);have d:=p i (by rw[aK];exact j);rw[k] at d;simp only[Option.some.injEq,Value.int.injEq,true_and] at d;rw[aR (by rw[aK];exact f),aR (by rw[aK];exact j)];rw[eE,eE,aR (by rw[aK];exact f),aR (by rw[aK];exact j)] at d;exact congrArg some d
  ·rw[fU (by rw[aK];omega),fU (by rw[aK];omega)]
 have k:=cU a;have d:=cU b;rw[q,d] at k;omega
def IntAt.uniqI{w:World}{v:Value}{x y:Int}(c:IntAt w v x)(d:IntAt w v y):x=y:=by
 obtain⟨u,rfl,a⟩:=c;obtain⟨g,e,b⟩:=d;simp at e;obtain⟨f,rfl⟩:=e;have:=a.uniqI b;omega
def WholeAt.offI{w:World}{A:Option Addr}{l c g:Nat}{x m:Int}{ns:List Int}(h:WholeAt w (.slice A l c) (x :: ns))(q:IntBx w g m)(t:x≠m):∀b,A=some ⟨b,0,none⟩->b≠g:=fun b e p=>by
 subst p;obtain⟨v,s,B,z,d,j,_,k,o,hi⟩:=h.at_ (i:=0) (n:=x) rfl;rw[e] at j;simp only[Option.some.injEq,Addr.mk.injEq] at j;obtain⟨rfl,_⟩:=j;obtain⟨s',u,y,c',C,r⟩:=q;have a:=C.cell 0 rfl;have f:=C.cell 1 rfl;rw[Nat.zero_mul] at k o;rw[k] at a;rw[o] at f;injection a with a;injection f with f;rw[a,f] at hi;exact t (hi.uniqI r)
def WholeAt.apart{w:World}{A B:Option Addr}{l c g k d:Nat}{s:Bool}{ns:List Int}(h:WholeAt w (.slice A l c) ns)(o:ns≠[])(p:aN ns)(j:Bx w g [.bool s,.slice B k d] 40)(q:IntAt w (.agg #[.bool s,.slice B k d]) 0):∀b,A=some ⟨b,0,none⟩->b≠g:=fun b e m=>by
 subst m;cases ns with
 |nil=>exact o rfl
 |cons x ns=>
  cases ns with
  |nil=>exact h.offI ⟨_,_,_,_,j,q⟩ (p x rfl) b e rfl
  |cons y ns=>
   obtain⟨t,s',r,z,u,a,_,f,v,hi⟩:=h.at_ (i:=1) (n:=y) rfl;rw[e] at a;simp only[Option.some.injEq,Addr.mk.injEq] at a;obtain⟨rfl,_⟩:=a;rw[cell_of_row w b _ _ _ _ j] at f;simp at f
def D5(d:List (List UInt8))(v:Value)(w:World)(C:Glob w)(hv:StrsAt w v d)(u:d.length<=7)(T:∀l∈d,l.length<=6):Calls prog 13 #[v] w (uK w d):=by
 obtain⟨A,c,rfl,hc⟩:=hv.form;have N:∀q∈aU d,RL 1 q:=pI (fun l u=>aH (T l u) (by decide));have X:=fun W C hv=>VD d (.slice A d.length c) W C hv (by omega) (fun _ l u=>aH (T l u) (by decide)) 1 8 7 (fun _=>N) (fun _=>u) (by decide) (by decide) (by unfold aJ;decide);have S:(aU d).length=d.length:=cH _;unfold uK;have P:=uL d;obtain⟨E,M⟩:∃E,dM d=E:=⟨_,rfl⟩;rw[M] at P⊢;clear M N;obtain⟨W,K,a,R⟩:=bI w [.bool false,.slice none 0 0] 40;have cM:=R.g2;go_enter func13,ntmps13;go_wp2_with fail;(try rw[K]);clear K;refine(X _ (C.be a) (hv.be a)).mono ?_;rintro e1 w1 ⟨v1,ag,xs,D,rfl,s,t,x,O⟩;obtain⟨Z,c1,rfl,af⟩:=s.form;obtain⟨k,g,j,i,rfl⟩:=t.form;replace R:=R.be O;replace a:=aC a O;have ae:=R.lt;obtain⟨w2,n,y,F⟩:=bI w1 [.bool k,.slice g j i] 40;replace R:=R.be y;replace s:=s.be y;replace t:=t.be y;replace a:=aC a y;have cF:=F.k2;have cM:=aa R.g2 F.k2;clear X;rcases P with ⟨rfl,f,p⟩|⟨rfl,f⟩|⟨rfl,f,p⟩
 ·obtain⟨rfl,r⟩:=x f;have z:(cC (aU d) D).length=d.length:=by rw[oN,S]
  have Q:(cC (aU d) D).length≠0:=fun e=>p (bX (by omega));have V:=oO r.pos r.dvd (pJ f).2.2;have ad:=s.apart (fun e=>Q (by rw[e];rfl)) V R (IntAt.zero _);have q0:(((cC (aU d) D).length:Int)==0)=false:=by rw[beq_eq_false_iff_ne];omega
  have B:=aB (And.intro f (And.intro p r));rw[f];clear x f p r z Q V;obtain⟨I,H⟩:∃I,cC (aU d) D=I:=⟨_,rfl⟩;have ac:=aB H;rw[H] at s q0⊢;clear H;go_wp2_with fail;(try rw[n]);(try clear n);go_region
  all_goals (
   go_wp2_with fail;obtain⟨-,U⟩:=IntBx.stored (w:=w2) (b:=w.heap.size) (m:=0) ⟨_,_,_,_,R,IntAt.zero _⟩ t;have Y:=s.step U ad;clear U;obtain⟨J,o,R,a,G,L⟩:=R.put2 a (by omega) (.bool k) (.slice g j i) rfl rfl;rw[o] at Y;have zD:=t.ke G;rw[o];exact aM (v:= .tuple #[.slice Z I.length c1,.agg #[.bool k,.slice g j i],.int .i64 0]) (by simp[results,results13,go_sem,R.k2]) rfl ⟨_,_,_,_,rfl,⟨_,_,_,_,rfl⟩,(fun _=>⟨D,B.out.1,B.out.2.1,B.out.2.2,by rw[ac.out];exact Y.drew,zD.drew⟩),a.drew⟩)
 ·rw[f];clear x f;go_wp2_with fail;(try rw[n]);(try clear n);go_region
  all_goals (
   go_wp2_with fail;obtain⟨J,o,R,a,G,L⟩:=R.put2 a (by omega) (.bool k) (.slice g j i) rfl rfl;rw[o];exact aM (v:= .tuple #[.slice none 0 0,.agg #[.bool k,.slice g j i],.int .i64 1]) (by simp[results,results13,go_sem,R.k2]) rfl ⟨_,_,_,_,rfl,⟨_,_,_,_,rfl⟩,(fun h=>absurd h (by decide)),a.drew⟩)
 ·obtain⟨rfl,r⟩:=x f;have z:(cC (aU d) D).length=0:=by rw[oN,S,p];rfl
  rw[f,z];clear x f p r z;go_wp2_with fail;(try rw[n]);(try clear n);go_region
  all_goals (
   go_wp2_with fail;obtain⟨J,o,R,a,G,L⟩:=R.put2 a (by omega) (.bool k) (.slice g j i) rfl rfl;rw[o];exact aM (v:= .tuple #[.slice none 0 0,.agg #[.bool k,.slice g j i],.int .i64 5]) (by simp[results,results13,go_sem,R.k2]) rfl ⟨_,_,_,_,rfl,⟨_,_,_,_,rfl⟩,(fun h=>absurd h (by decide)),a.drew⟩)
def Euc.mono{B d:Nat}{a b g:List Int}(h:Euc B a b g)(e:B<=d):Euc d a b g:=by
 induction h with
 |done a=>exact .done a
 |one c=>exact .one c
 |step c h t f=>exact .step c (h.mono e) f
def Sqp.mono{B a:Nat}{w s:List Int}(h:Sqp B w s)(d:B<=a):Sqp a w s:=by
 obtain⟨g,b,c⟩:=h.out;exact⟨⟨g,b.mono d,c⟩,h.ne,h.ts⟩
def KR{l:List UInt8}(h:l.length<=18):RL 1 (m5 l):=by
 unfold m5;split
 ·exact iG (mC 1)
 ·cases hr:bD l with
  |none=>exact iG (mC 1)
  |some q=>exact tS hr h
def KT(l:List UInt8){d:Int}(h: -1<=d∧d<=1): -1<=lC l d∧lC l d<=1:=by
 unfold lC;split
 ·exact h
 ·decide
def oS(c:List (List UInt8))(a b:List UInt8):Int:=if dM c=1∨nJ a=false∨nJ b=false then 1 else dM c
def KU(A:List Rat)(i:Int)(x:Rat)(j:Int)(y:Rat)(E n:Int):Prop:=(E≠0->n=0)∧(E=0->CntR A i x j y n)
def uM(w:World)(c:List (List UInt8))(a b:List UInt8)(e:Ending)(w':World):Prop:=∃n:Int,e= .returned (.tuple #[.int .i64 n,.int .i64 (oS c a b)])∧ -1024<=n∧n<=1024∧KU (aU c) (lC a (-1)) (m5 a) (lC b 1) (m5 b) (oS c a b) n∧Below w.heap.size w w'
def ZD(f:List (List UInt8))(a b:List UInt8)(v:Value)(w:World)(j:Glob w)(hv:StrsAt w v f)(y:f.length<=7)(hs:∀l∈f,l.length<=6)(ha:a.length<=12)(a1:b.length<=12):
  Calls prog 24 #[v,.string ⟨a.toArray⟩,.string ⟨b.toArray⟩] w (uM w f a b):=by
 obtain⟨A,c,rfl,hc⟩:=hv.form;have ak:=fun W j h=>D5 f (.slice A f.length c) W j h y hs;have ah:=fun W j=>J2 a (-1) W j (by omega);have ai:=fun W j=>J2 b 1 W j (by omega);have ra:=bU (KR (l:=a) (by omega)) (show 1<=35080695 by decide);have rb:=bU (KR (l:=b) (by omega)) (show 1<=35080695 by decide);have ia:=KT a (d:= -1) (by decide);have ib:=KT b (d:=1) (by decide);have ap:∀q∈aU f,RL 1 q:=pI (fun l y=>aH (hs l y) (by decide));have aw:(aU f).length=f.length:=cH _;unfold uK at ak;unfold J1 at ah ai;unfold uM;have i:oS f a b=if dM f=1∨nJ a=false∨nJ b=false then 1 else dM f:=rfl;have hR:=uL f;obtain⟨E,ao⟩:∃E,oS f a b=E:=⟨_,rfl⟩;rw[ao] at i⊢;clear ao;generalize dM f=R at *;generalize nJ a=oa at *;generalize nJ b=z at *;generalize lC a (-1)=I at *;generalize lC b 1=J at *;generalize m5 a=B at *;generalize m5 b=C at *;go_enter func24,ntmps24;go_wp2_with fail;refine(ak _ j hv).mono ?_;rintro e1 w1 ⟨A1,k1,c1,a2,rfl,⟨s2,A2,k2,c2,rfl⟩,H,g⟩;obtain⟨w2,e2,ac,F⟩:=bI w1 [.bool s2,.slice A2 k2 c2] 40;replace g:=aC g ac;replace H:R=0->∃D,vl f=true∧f≠[]∧ComDen (aU f) D 8∧WholeAt w2 (.slice A1 k1 c1) (cC (aU f) D):=fun h=>by
  obtain⟨D,U,V,m,Z,p⟩:=H h;exact⟨D,U,V,m,Z.be ac⟩
 have am:=aB H;clear H ak;have cF:=F.k2;go_wp2_with fail;(try rw[e2]);(try clear e2);refine(ah _ (j.be g)).mono ?_;rintro e3 w3 ⟨v3,rfl,m,ad⟩;obtain⟨s4,L,k4,P,s5,M,k5,Q,rfl⟩:=m.form;obtain⟨w4,e4,ae,X⟩:=bI w3 [.bool s4,.slice L k4 P,.bool s5,.slice M k5 Q,.int .i64 I] 111;replace m:=m.be ae;have G:=aC ad ae;replace g:=aC g G;have cX:=X.k5;clear ah;go_wp2_with fail;(try rw[e4]);(try clear e4);refine(ai _ (j.be g)).mono ?_;rintro e5 w5 ⟨v5,rfl,p,af⟩;obtain⟨s6,N,k6,S,s7,O,k7,T,rfl⟩:=p.form;obtain⟨w6,k,ag,Y⟩:=bI w5 [.bool s6,.slice N k6 S,.bool s7,.slice O k7 T,.int .i64 J] 111;replace p:=p.be ag;have t:=aC af ag;replace m:=m.be t;replace X:=X.be t;replace g:=aC g t;have an:=aC G t;have cX:=X.k5;have cY:=Y.k5;clear ai;rcases hR with ⟨rfl, -, -⟩|⟨rfl, -⟩|⟨rfl, -, -⟩
 ·cases oa with
  |false=>
   obtain rfl:E=1:=by rw[i];rfl
   clear i;cases z
   all_goals (
    go_wp2_with fail;all_goals (try rw[k])
    all_goals (try clear k)
    all_goals go_ret2
    all_goals exact⟨0,rfl,by decide,by decide,⟨fun _=>rfl,(fun h=>absurd h (by decide))⟩,g⟩
   )
  |true=>
   cases z with
   |false=>
    obtain rfl:E=1:=by rw[i];rfl
    clear i;go_wp2_with fail;all_goals (try rw[k])
    all_goals (try clear k)
    all_goals go_ret2
    all_goals exact⟨0,rfl,by decide,by decide,⟨fun _=>rfl,(fun h=>absurd h (by decide))⟩,g⟩
   |true=>
    obtain rfl:E=0:=by rw[i];rfl
    clear i;obtain⟨D,al,h0,x,K⟩:=am.out rfl;replace K:=K.be an;have ar:(cC (aU f) D).length=f.length:=by rw[oN,aw]
    have au:cC (aU f) D≠[]:=fun e=>h0 (bX (by rw[<-ar,e];rfl));have ax:=oO x.pos x.dvd (pJ al).2.2;have aj:=sA _ D 1 _ ap x.nl_;have av:=nM (uE x (pJ al).2.2);obtain⟨A8,c8,e8, -⟩:=K.form;simp only[Value.slice.injEq] at e8;obtain⟨rfl,rfl,rfl⟩:=e8;have a0:=fun W j h=>CZ (cC (aU f) D) (.slice A1 (cC (aU f) D).length c1) W j h ax au (by omega) aj;have aq:=fun s W u j h (o:Sqp 24057 (aS (cC (aU f) D)) s) (r:Sz s) m p=>J0 s I J B C u (.agg #[.bool s4,.slice L k4 P,.bool s5,.slice M k5 Q,.int .i64 I]) (.agg #[.bool s6,.slice N k6 S,.bool s7,.slice O k7 T,.int .i64 J]) W j h o.ts o.ne r m p ia ib ra rb;unfold xA at aq
    have HF:Hid (∀s n,Sqp 24057 (aS (cC (aU f) D)) s->Sz s->(jO I B J C=false->n=0)->(jO I B J C=true->∃c,StT 35080695 s (aS (bB s)) c∧n=fF s c I B J C)->CntR (aU f) I B J C n):=fun s n o r U V=>⟨U,fun y=>by
     obtain⟨c,m,Z⟩:=V y;exact⟨_,s,c,av,⟨⟨o.mono (by decide),m⟩,o,r,by rw[dF];omega,gU aj⟩,Z⟩⟩
    clear am al h0 x ar au ax aj av ap aw G t an ac ad ae af ag;generalize cC (aU f) D=ns at *;go_wp2_with fail;(try rw[k]);(try clear k)
    go_region_held3 (fun w'=>C5 w' w3.heap.size (.bool s4) (.slice L k4 P) (.bool s5) (.slice M k5 Q) (.int .i64 I)∧C5 w' w5.heap.size (.bool s6) (.slice N k6 S) (.bool s7) (.slice O k7 T) (.int .i64 J)) (with_reducible exact⟨X.up.k5,Y.up.k5⟩)
     (first
      |(go_at_call 15;refine(a0 _ (j.be g).up K.up).mono ?_;rintro e7 w7 ⟨v7,s,rfl,h7,o,r,ay⟩;have:=St.mk ay)
      |(go_at_call 59;refine(aq s _ _ (j.be g).up h7.up o r m.up p.up).mono ?_;rintro e9 w9 ⟨n,rfl,n1,n2,n3,n4,az⟩;have:=St.mk az))
    all_goals (
     go_wp2;go_ret2;exact⟨n,rfl,n1,n2,⟨(fun h=>absurd rfl h),(fun _=>HF.out s n o r n3 n4)⟩,bJ (b:=w9) g⟩)
 ·obtain rfl:E=1:=by rw[i,if_pos (.inl rfl)]
  clear i;cases oa<;>cases z
  all_goals (
   go_wp2_with fail;all_goals (try rw[k])
   all_goals (try clear k)
   all_goals go_ret2
   all_goals exact⟨0,rfl,by decide,by decide,⟨fun _=>rfl,(fun h=>absurd h (by decide))⟩,g⟩
  )
 ·cases oa with
  |false=>
   obtain rfl:E=1:=by rw[i];rfl
   clear i;cases z
   all_goals (
    go_wp2_with fail;all_goals (try rw[k])
    all_goals (try clear k)
    all_goals go_ret2
    all_goals exact⟨0,rfl,by decide,by decide,⟨fun _=>rfl,(fun h=>absurd h (by decide))⟩,g⟩
   )
  |true=>
   cases z with
   |false=>
    obtain rfl:E=1:=by rw[i];rfl
    clear i;go_wp2_with fail;all_goals (try rw[k])
    all_goals (try clear k)
    all_goals go_ret2
    all_goals exact⟨0,rfl,by decide,by decide,⟨fun _=>rfl,(fun h=>absurd h (by decide))⟩,g⟩
   |true=>
    obtain rfl:E=5:=by rw[i];rfl
    clear i;go_wp2_with fail;all_goals (try rw[k])
    all_goals (try clear k)
    all_goals go_ret2
    all_goals exact⟨0,rfl,by decide,by decide,⟨fun _=>rfl,(fun h=>absurd h (by decide))⟩,g⟩
def KV(a:List (List UInt8))(v:Value)(w:World)(d:Glob w)(hv:StrsAt w v a)(e:a.length<=7)(f:∀l∈a,l.length<=6):
  Calls prog 12 #[v] w (uM w a [] []):=by
 obtain⟨A,c,rfl,i⟩:=hv.form;have h:=ZD a [] [] (.slice A a.length c) w d hv e f (by decide) (by decide);unfold uM at *;generalize oS a [] []=E at *;go_enter func12,ntmps12;go_wp2_with fail;refine h.mono ?_;rintro g j ⟨n,rfl,b⟩;go_wp2;go_ret2;exact⟨n,rfl,b⟩
end Go.Proofs.YtgjeoghojliocaaGreatDoor
namespace Go.Proofs.YtgjeoghojliocaaGreatDoor
open Sos
def jF(A:List Rat):Rat:=lF (cf A (A.length-1)) (A.take (A.length-1))+1
def KW{A:List Rat}{a:List Int}(h:Prp A a)(l:aN a)(i:a≠[]):rZ a=jF A:=by
 obtain⟨c,j,rfl⟩:=h.eq_smul;have f:=(fT i).1 l;have k:(1:Rat)/c≠0:=by
  intro e;have:(1:Rat)/c*c=1:=by rw[gW j]
  rw[e,Rat.zero_mul] at this;exact absurd this (by decide)
 have g:=Z2 f k (a.take (a.length-1));have b:∀n:Int,(n:Rat)/(1/c)=c*(n:Rat):=fun n=>by grind
 have d:(a.take (a.length-1)).map (fun n:Int=>(n:Rat)/(1/c))=(aT c a).take (a.length-1):=by
  unfold aT;rw[<-List.map_take];exact List.map_congr_left (fun n _=>b n)
 rw[b,d] at g;unfold rZ jF;rw[fX,dS,g]
def ZE:aT 1 [-2,0,1]=[-2,0,1]:=by
 unfold aT;simp only[fM,List.map_nil,Rat.one_mul];rfl
def D6:Prp [-2,0,1] [-2,0,1]:=by
 have h:=jY (c:=1) (l:=[-2,0,1]) (by decide) (oB rfl);rw[show([-2,0,1]:List Int).map (fun n:Int=>(1:Rat)*(n:Rat))=[-2,0,1] from ZE] at h;exact h
def ZF:jF [-2,0,1]=3:=by
 rw[<-KW D6 (oB rfl) (by simp)];have a:jE (([-2,0,1]:List Int).take (([-2,0,1]:List Int).length-1))=2:=by decide
 have b:((cf ([-2,0,1]:List Int) (([-2,0,1]:List Int).length-1)).natAbs:Int)=1:=by decide
 unfold rZ;rw[a,b];have c:((2:Int):Rat)=2:=rfl;have d:((1:Int):Rat)=1:=rfl;rw[c,d];grind
def ZG:Pw 3 2:=by
 refine⟨by decide,fun m a=> ?_⟩;rcases(show m=0∨m=1 by omega) with rfl|rfl<;>decide
def ZH{w s:List Int}{c:List (List Int)}(f:Prp [-2,0,1] w)(h:Cn 35080695 w s c):ExK 35080695 y7 (fun x=>aY 0 ((s :: c).map (fun a=>aP a 0 x))) (fun x=>aP s 0 x) (((-((2:Int)^2):Int)):Rat) ((((2:Int)^2:Int)):Rat) [(-4,0),(0,4)]:=by
 have b:(((-((2:Int)^2):Int)):Rat)= -4:=by decide
 have d:((((2:Int)^2:Int)):Rat)=4:=by decide
 rw[b,d];have k:=fun x=>h.same KQ (by decide) (by decide) f D6 0 x;obtain⟨l,m,n⟩:=Z6;obtain⟨g,i,j⟩:=Z7;refine(Z3 ⟨?_,?_,?_⟩ ⟨fun e=> ?_,fun e=> ?_,fun e=> ?_⟩).mono (by decide)
 ·exact(k (-4)).1.trans l
 ·exact(k 0).1.trans m
 ·exact(k 4).1.trans n
 ·rw[(k (-4)).2,g] at e;exact absurd e (by decide)
 ·rw[(k 0).2,i] at e;exact absurd e (by decide)
 ·rw[(k 4).2,j] at e;exact absurd e (by decide)
end Go.Proofs.YtgjeoghojliocaaGreatDoor
namespace Go.Proofs.YtgjeoghojliocaaGreatDoor
open Go.RowKit Sos
