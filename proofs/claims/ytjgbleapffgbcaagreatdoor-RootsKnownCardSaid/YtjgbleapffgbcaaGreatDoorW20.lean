/- Laws. -/
import Derived.Test.YtjgbleapffgbcaaGreatDoorW18
set_option linter.all false
set_option maxHeartbeats 8000000
set_option maxRecDepth 99999
namespace Go.Proofs.YtjgbleapffgbcaaGreatDoor
open Go.RowKit Sos
def eyY(w:World)(L:List (List UInt8))(c:Int)(e:Ending)(w':World):Prop:=∃a,e= .returned (.tuple #[a,.int .i64 c])∧StrsAt w' a L∧Below w.1.size w w'
def X4(w:World)(a:List (List UInt8))(e:Ending)(w':World):Prop:=if a.all rd=true then nQ w (aW aV (aU a)) e w' else eyY w [] 1 e w'
def fW(p:List Rat):List Rat:=(List.range (p.length-1)).map (fun i=>cf p (i+1)*((i+1:Nat):Rat))
def qO(p:List Rat):(fW p).length=p.length-1:=by unfold fW;rw[cH,bxZ]
def pQ(w:World)(a:List (List UInt8))(x:List UInt8)(e:Ending)(w':World):Prop:=
 (if vl a=true∧rd x=true then e= .returned (.tuple #[.string ⟨(cW (aI (aU a) ((cL x).getD 0))).toArray⟩,.int .i64 0]) else e= .returned (.tuple #[.string ⟨#[]⟩,.int .i64 1]))∧Below w.1.size w w'
end Go.Proofs.YtjgbleapffgbcaaGreatDoor
namespace Go.Proofs.YtjgbleapffgbcaaGreatDoor
open Sos
variable{D M N R Z d e f h t x y:Rat}{a b g ns q r u xs:List Int}{A Q:List Rat}{m p:Int}{c:List (List Int)}{B K j n:Nat}{C:List (List Rat)}
def pK(h:0<x):0<x.num:=by
 have a:=Rat.num_nonneg.2 (az6 h);have b:x.num≠0:=fun e=>by rw[Rat.num_eq_zero.1 e] at h;exact absurd h (by decide)
 omega
def iY(x:Rat):x<0∨x=0∨0<x:=by
 by_cases a:x=0
 ·exact .inr (.inl a)
 ·by_cases b:0<x
  ·exact .inr (.inr b)
  ·exact .inl (by grind)
def fS(x:Rat):(0<x->x.num.sign=1)∧(x<0->x.num.sign= -1):=⟨fun h=>aqI (pK h),fun h=>aqT (by have:=pK (show 0< -x by grind);rw[Rat.neg_num] at this;omega)⟩
def tU(a:0<f)(x:Rat):(f*x).num.sign=x.num.sign:=by
 rcases iY x with h|h|h
 ·have:f*x<0:=by have:=azA a (show 0< -x by grind);grind
  rw[(fS _).2 this,(fS _).2 h]
 ·rw[h,dU]
 ·rw[(fS _).1 (azA a h),(fS _).1 h]
def xJ(n:Int):((n:Rat)).num.sign=n.sign:=by rw[Rat.num_intCast]
def aT(f:Rat)(b:List Int):List Rat:=b.map (fun n:Int=>f*(n:Rat))
def fX(f:Rat)(b:List Int):(aT f b).length=b.length:=cH _
def dS(f:Rat)(b:List Int)(i:Nat):cf (aT f b) i=f*cf b i:=qS f b i
def CQ(h:f≠0∨b=[])(c:aN b):aN (aT f b):=by
 rcases h with h|rfl
 ·exact(jY h c).trim
 ·intro x a;cases a
def XI{f R:List Rat}{t:Nat}{c:Rat}(w:∀i,cf A i=c*cf a i)(B:c≠0)(e:Prp f b)(l:b≠[])(h:PQRes a b t m q r)(y:DivQ A f Q R):R.length=r.length∧∀i,cf R i=c/m*cf r i:=by
 have x:=e.ne l;obtain⟨j, -,d,p,e⟩:=e;have s:=gJ h.m0;have o:c/m≠0:=uC B s;have C:DivQ A f (q.map (fun n:Int=>(c/m/d)*(n:Rat))) (r.map (fun n:Int=>(c/m)*(n:Rat))):=by
  refine⟨fun i=> ?_,(jY (uC o p) h.q_trim).trim,(jY o h.r_trim).trim,by rw[cH,j];exact h.r_lt⟩;rw[gL (qS _ q) e i,eI,rF,qS,w];have g:((m*cf a i:Int):Rat)=((conv (cf q) (cf b) i+cf r i:Int):Rat):=by rw[h.id_ i]
  rw[eJ,aqE,oD] at g;generalize conv (fun k=>((cf q k:Int):Rat)) (fun k=>((cf b k:Int):Rat)) i=z at *
  have u:c/m/d*(d*z)=c/m*z:=by rw[<-azC,gW p]
  rw[u];have v:c/m*z+c/m*((cf r i:Int):Rat)=c/m*(m*cf a i):=by rw[g];grind
  rw[v,<-azC,gW s]
 obtain⟨-,rfl⟩:=y.unique C x (by rw[j];exact List.length_pos_iff.2 l);exact⟨cH _,qS _ r⟩
inductive ChT(B:Nat):List Int->Rat->List Int->Rat->List (List Rat)->Prop
 |done (a:List Int) (fa fb:Rat):ChT B a fa [] fb []
 |step {a b q r r':List Int} {fa fb f':Rat} {m:Int} {C:List (List Rat)} (hb:b≠[]) (h:PQRes a b B m q r) (h0:fa≠0∧fb≠0∧aN b) (ht:aN r') (hl:r'.length=r.length) (hf:f'≠0∨r'=[]) (he:∀i,f'*cf r' i= -(fa/m)*cf r i)
   (hR:∀F,RL F fa->RL (F+B) f') (hn:∀n∈r',nl n.natAbs<=B) (t:ChT B b fb r' f' C):ChT B a fa b fb (aT fb b :: C)
def CS{r':List Int}{c:Rat}{R:List Rat}(k:b≠[])(h:PQRes a b B m q r)(e:c≠0∧f≠0∧aN b)(o:aN r')(n:d≠0∨r'=[])(l:∀i,d*cf r' i= -(c/m)*cf r i)(j:DivQ (aT c a) (aT f b) Q R):
  aW aV (oA [] (-1) R)=aT d r':=by
 obtain⟨-,g⟩:=XI (dS c a) e.1 (jY e.2.1 e.2.2) k h j;refine oZ (jS _) (CQ n o) (fun i=> ?_);rw[iS,xW,eR,g,dS,l];grind
def ChT.len{c:Rat}(h:ChT B a c b d C):C.length<=b.length:=by
 induction h with
 |done a c d=>exact mC 0
 |step g h e l k j i f hn t m=>
  have:=h.r_lt;rw[eG];omega
def JT{c:Rat}(h:PQRes a b B m q r)(e:c≠0∧d≠0):∃Q R,DivQ (aT c a) (aT d b) Q R:=by
 have f:=gJ h.m0;refine⟨aT (c/m/d) q,aT (c/m) r,fun i=> ?_,(jY (uC (uC e.1 f) e.2) h.q_trim).trim,(jY (uC e.1 f) h.r_trim).trim,by rw[fX,fX];exact h.r_lt⟩;rw[gL (dS _ q) (dS _ b) i,eI,rF,dS,dS];have g:((m*cf a i:Int):Rat)=((conv (cf q) (cf b) i+cf r i:Int):Rat):=by rw[h.id_ i]
 rw[eJ,aqE,oD] at g;generalize conv (fun k=>((cf q k:Int):Rat)) (fun k=>((cf b k:Int):Rat)) i=z at *
 have j:c/m/d*(d*z)=c/m*z:=by rw[<-azC,gW e.2]
 rw[j];have l:c/m*z+c/m*((cf r i:Int):Rat)=c/m*(m*cf a i):=by rw[g];grind
 rw[l,<-azC,gW f]
def ChT.unique{n o:Rat}(h:ChT B a n b o C):∀{m:Nat} {g i:List Int} {k c:Rat} {f:List (List Rat)},ChT m g k i c f->aT n a=aT k g->aT o b=aT c i->C=f:=by
 induction h with
 |done a n o=>
  intro m g i k c f d _ e;cases d with
  |done=>rfl
  |step l=>exact absurd (bX (by rw[<-fX c,<-e];rfl)) l
 |step l h p z J x v H hn t D=>
  intro m g i k c f d r j;cases d with
  |done=>exact absurd (bX (by rw[<-fX,j];rfl)) l
  |step u d s A K y w I L G=>
   obtain⟨Q,R,q⟩:=JT h ⟨p.1,p.2.1⟩;have E:=CS l h p z x v q;rw[r,j] at q;have F:=CS u d s A y w q;rw[j,D G j (E.symm.trans F)]
inductive StT(B:Nat):List Int->List Int->List (List Int)->Prop
 |done (a:List Int):StT B a [] []
 |step {a b q r:List Int} {m:Int} {c:List (List Int)} (hb:b≠[]) (h:PQRes a b B m q r) (t:StT B b (if 0<m then (aS r).map (·*(-1)) else aS r) c):StT B a b (b :: c)
inductive All2{α β:Type}(P:α->β->Prop):List α->List β->Prop
 |nil:All2 P [] []
 |cons {a:α} {b:β} {l:List α} {m:List β} (h:P a b) (t:All2 P l m):All2 P (a :: l) (b :: m)
def Sg(e:Rat)(A:List Rat)(a:List Int):Prop:=a≠[]∧aN a∧∃f,0<e*f∧A=aT f a
def nK(h:0<e*f):f≠0:=fun a=>by rw[a,dU] at h;exact absurd h (by decide)
def XJ(h:StT K a b c)(e:Rat)(G:1<=K):∀f d:Rat,0<e*f->(b≠[]->0<e*d)->aN b->∃C,ChT K a f b d C∧All2 (Sg e) C c:=by
 induction h with
 |done a=>exact fun f d _ _ _=>⟨[],.done a f d,.nil⟩
 | @step a b q r m c j h t o=>
  intro f d y H p;have g:=H j;have Q:=gJ h.m0;have B:=Q5 h.r_trim;by_cases v:r=[]
  ·have O:(if 0<m then (aS r).map (·*(-1)) else aS r)=[]:=by
    have:aS r=[]:=bX (by rw[dF,v];rfl);rw[this];split<;>rfl
   rw[O] at t o;obtain⟨C,s,u⟩:=o d f g (fun e=>absurd rfl e) (fun x A=>by cases A);exact⟨_,.step j h ⟨nK y,nK g,p⟩ (fun x A=>by cases A) (by rw[v]) (.inr rfl) (fun i=>by rw[v,eR,aq4,dU,dU]) (fun F hF=>bU hF (by omega)) (fun n hn=>by cases hn) s,.cons ⟨j,p,d,g,rfl⟩ u⟩
  ·have P:=nI h.r_trim v;have I:0<((bC r:Int):Rat):=by
    have:(0:Int)<(bC r:Int):=by omega
    exact_mod_cast this
   have J:nl (bC r:Int).natAbs<=K:=by rw[dD];exact az4 h.br
   have M:(0:Int)<(m.natAbs:Int):=by have:=h.m0;omega
   have N:0<((m.natAbs:Int):Rat):=by exact_mod_cast M
   have l:0<e*(f*(((bC r:Int):Rat)/((m.natAbs:Int):Rat))):=by
    rw[<-azC,azE];exact azA y (azA I (Rat.inv_pos.2 N))
   have w:∀F,RL F f->RL (F+K) (f*(((bC r:Int):Rat)/((m.natAbs:Int):Rat))):=fun F hF=>o6 hF (pM J (by rw[dD];exact h.bm) G);have R:((m.natAbs:Int):Rat)≠0:=gJ (by omega);by_cases D:0<m
   ·rw[if_pos D] at t o;have z:(m.natAbs:Int)=m:=by omega
    rw[z] at w l;have E:aN ((aS r).map (·*(-1))):=xM (by decide) B;obtain⟨C,s,u⟩:=o d _ g (fun _=>l) E;refine⟨_,.step j h ⟨nK y,nK g,p⟩ E (by rw[cH,dF]) (.inl (nK l)) (fun i=> ?_) w (fun n hn=> ?_) s,.cons ⟨j,p,d,g,rfl⟩ u⟩
    ·rw[CC,<-lW r i,eJ,eJ];have:((-1:Int):Rat)= -1:=rfl;rw[this];grind
    ·obtain⟨k,L,rfl⟩:=List.mem_map.1 hn;rw[fL];simpa using gU h.br k L
   ·rw[if_neg D] at t o;have z:(m.natAbs:Int)= -m:=by omega
    rw[z,bx4] at w l;obtain⟨C,s,u⟩:=o d _ g (fun _=>l) B;refine⟨_,.step j h ⟨nK y,nK g,p⟩ B (by rw[dF]) (.inl (nK l)) (fun i=> ?_) w (gU h.br) s,.cons ⟨j,p,d,g,rfl⟩ u⟩;rw[<-lW r i,eJ];grind
def aY:Int->List Int->Nat
 |_,[]=>0
 |l,s :: t=>if s=0 then aY l t else (if l≠0∧s≠l then 1 else 0)+aY s t
def XK(t:List Int):∀l,aY (-l) (t.map (fun s=> -s))=aY l t:=by
 induction t with
 |nil=>intro l;rfl
 |cons s t c=>
  intro l;show(if -s=0 then aY (-l) (t.map (fun s=> -s)) else (if -l≠0∧ -s≠ -l then 1 else 0)+aY (-s) (t.map (fun s=> -s)))=if s=0 then aY l t else (if l≠0∧s≠l then 1 else 0)+aY s t
  rw[c l,c s];by_cases a:s=0
  ·rw[if_pos a,if_pos (by omega)]
  ·rw[if_neg a,if_neg (by omega)];congr 1;by_cases b:l≠0∧s≠l
   ·rw[if_pos b,if_pos (by omega)]
   ·rw[if_neg b,if_neg (by omega)]
def cyE(A:List Rat)(i:Int)(x:Rat):Int:=if i=0 then (aI A x).num.sign else if i<0∧A.length%2=0 then -(cf A (A.length-1)).num.sign else (cf A (A.length-1)).num.sign
def aP(a:List Int)(i:Int)(x:Rat):Int:=if i=0 then (fE a x.num x.den).sign else if i<0∧a.length%2=0 then -(cf a (a.length-1)).sign else (cf a (a.length-1)).sign
def uA(f:Rat)(a:List Int)(x:Rat):aI (aT f a) x=f*aI (a.map (fun n:Int=>(n:Rat))) x:=by
 induction a with
 |nil=>show(0:Rat)=f*0;rw[dU]
 |cons n a b=>
  show aI (aT f a) x*x+f*n=f*(aI (a.map (fun n:Int=>(n:Rat))) x*x+n)
  rw[b];grind
def JU(a:List Int)(x:Rat):(fE a x.num x.den).sign=(aI (a.map (fun n:Int=>(n:Rat))) x).num.sign:=by
 have b:(x.den:Int)≠0:=by have:=x.den_nz;omega
 have c:0<((x.den:Int):Rat):=by
  have:(0:Int)<(x.den:Int):=by omega
  exact_mod_cast this
 have h:=WR a x.num x.den b;have e:((x.num:Int):Rat)/((x.den:Int):Rat)=x:=by rw[aq3,<-oU]
 rw[e] at h;have d:0<((iZ a x.num x.den:Int):Rat):=by
  rw[WQ];have:(0:Int)<(x.den:Int)^a.length:=aqH (by omega);exact_mod_cast this
 rw[<-xJ,<-tU c,byD,h,tU d]
def uB(b:0<f)(a:List Int)(i:Int)(x:Rat):cyE (aT f a) i x=aP a i x:=by
 unfold cyE aP;rw[fX,dS,tU b,xJ,uA,tU b,JU]
def xU(d:f<0)(a:List Int)(i:Int)(x:Rat):cyE (aT f a) i x= -aP a i x:=by
 have h:=uB (f:= -f) (by grind) a i x;have e:∀y:Rat,(-f*y).num.sign= -(f*y).num.sign:=fun y=>by
  have: -f*y= -(f*y):=by grind
  rw[this,Rat.neg_num,Int.sign_neg]
 unfold cyE aP at *;rw[fX,dS,e,uA,e] at h;rw[fX,dS,uA];by_cases b:i=0
 ·simp only[if_pos b] at h⊢;omega
 ·simp only[if_neg b] at h⊢;by_cases c:i<0∧a.length%2=0
  ·simp only[if_pos c] at h⊢;omega
  ·simp only[if_neg c] at h⊢;omega
def All2.map_eq{α β γ:Type}{P:α->β->Prop}{l:List α}{m:List β}(h:All2 P l m){f:α->γ}{g:β->γ}(c:∀a b,P a b->f a=g b):l.map f=m.map g:=by
 induction h with
 |nil=>rfl
 |cons h t d=>rw[fM,fM,c _ _ h,d]
def xV(h:All2 (Sg e) C c)(i:Int)(x:Rat):aY 0 (C.map (fun A=>cyE A i x))=aY 0 (c.map (fun a=>aP a i x)):=by
 by_cases l:0<e
 ·rw[h.map_eq (g:=fun a=>aP a i x) (fun A a j=>by
   obtain⟨-, -,f,b,rfl⟩:=j
   exact uB (by rcases iY f with k|k|k
                ·have:=azA l (show 0< -f by grind);grind
                ·exact absurd k (nK b)
                ·exact k) a i x)]
 ·rw[h.map_eq (g:=fun a=> -aP a i x) (fun A a j=>by
   obtain⟨-, -,f,b,rfl⟩:=j
   exact xU (by rcases iY f with k|k|k
                ·exact k
                ·exact absurd k (nK b)
                ·rcases iY e with d|d|d
                 ·have:=azA k (show 0< -e by grind);grind
                 ·rw[d,aqQ] at b;exact absurd b (by decide)
                 ·exact absurd d l) a i x)]
  have:=XK (c.map (fun a=>aP a i x)) 0;rw[List.map_map] at this;exact this
def ab(y M:Rat):Prop:= -M<=y∧y<=M
def ab.mono(h:ab y M)(c:M<=N):ab y N:=by have a:=h.1;have b:=h.2;constructor<;>grind
def ab.neg(h:ab y M):ab (-y) M:=by have a:=h.1;have b:=h.2;constructor<;>grind
def ab.add(h:ab x M)(k:ab y N):ab (x+y) (M+N):=by have a:=h.1;have b:=h.2;have c:=k.1;have d:=k.2;constructor<;>grind
def ab.mul(h:ab x M)(k:ab y N):ab (x*y) (M*N):=by
 have e:=h.1;have f:=h.2;have g:=k.1;have i:=k.2
 have a:=cA (show 0<=M-x by grind) (show 0<=N+y by grind);have b:=cA (show 0<=M+x by grind) (show 0<=N-y by grind);have c:=cA (show 0<=M-x by grind) (show 0<=N-y by grind);have d:=cA (show 0<=M+x by grind) (show 0<=N+y by grind);constructor<;>grind
def axN(q:Rat):∃M,0<=M∧ab q M:=by
 rcases iY q with h|h|h
 ·exact⟨-q,by grind,by constructor<;>grind⟩
 ·exact⟨0,by grind,by constructor<;>grind⟩
 ·exact⟨q,by grind,by constructor<;>grind⟩
def kT(a:Rat)(l:List Rat)(x:Rat):aI (a :: l) x=aI l x*x+a:=rfl
def LK{l:List Rat}(h:∀i,cf l i=0)(x:Rat):aI l x=0:=by
 induction l with
 |nil=>rfl
 |cons a l b=>
  rw[kT,b (fun i=>h (i+1)),show a=0 from h 0];grind
def oT{a:List Rat}:∀{b:List Rat},(∀i,cf a i=cf b i)->∀x,aI a x=aI b x:=by
 induction a with
 |nil=>intro b h x;rw[LK (fun i=>(h i).symm.trans (eR i))];rfl
 |cons p a c=>
  intro b h x;cases b with
  |nil=>rw[LK (fun i=>(h i).trans (eR i))];rfl
  |cons q b=>rw[kT,kT,c (fun i=>h (i+1)),show p=q from h 0]
def j0:List Rat->List Rat->List Rat
 |[],b=>b
 |a,[]=>a
 |p :: a,q :: b=>(p+q) :: j0 a b
def DP(a:List Rat):∀(b:List Rat) (i:Nat),cf (j0 a b) i=cf a i+cf b i:=by
 induction a with
 |nil=>intro b i;rw[eR,bxT];rfl
 |cons p a c=>
  intro b i;cases b with
  |nil=>rw[eR,bx3];rfl
  |cons q b=>
   cases i with
   |zero=>rfl
   |succ i=>exact c b i
def lG(a:List Rat):∀(b:List Rat) (x:Rat),aI (j0 a b) x=aI a x+aI b x:=by
 induction a with
 |nil=>intro b x;show aI b x=0+aI b x;rw[bxT]
 |cons p a c=>
  intro b x;cases b with
  |nil=>show aI (p :: a) x=aI (p :: a) x+0;rw[bx3]
  |cons q b=>
   show aI (j0 a b) x*x+(p+q)=(aI a x*x+p)+(aI b x*x+q)
   rw[c];grind
def iI(c:Rat)(l:List Rat)(x:Rat):aI (l.map (fun q=>c*q)) x=c*aI l x:=by
 induction l with
 |nil=>show(0:Rat)=c*0;rw[dU]
 |cons a l b=>
  show aI (l.map (fun q=>c*q)) x*x+c*a=c*(aI l x*x+a)
  rw[b];grind
def fG(q b:List Rat):List Rat:=q.foldr (fun a r=>j0 (b.map (fun y=>a*y)) (0 :: r)) []
def fY(q b:List Rat)(x:Rat):aI (fG q b) x=aI q x*aI b x:=by
 induction q with
 |nil=>show(0:Rat)=0*aI b x;rw[aqQ]
 |cons a q c=>
  show aI (j0 (b.map (fun y=>a*y)) (0 :: fG q b)) x=(aI q x*x+a)*aI b x
  rw[lG,iI,kT,c];grind
def axO(f:Nat->Rat)(n:Nat):bW f (n+1)=f 0+bW (fun k=>f (k+1)) n:=by
 induction n with
 |zero=>show 0+f 0=f 0+0;grind
 |succ n a=>show bW f (n+1)+f (n+1)=f 0+(bW (fun k=>f (k+1)) n+f (n+1));rw[a];grind
def uU(q b:List Rat):∀i,cf (fG q b) i=conv (cf q) (cf b) i:=by
 induction q with
 |nil=>intro i;rw[lK (fun k=>eR k)];exact eR i
 |cons a q c=>
  intro i;show cf (j0 (b.map (fun y=>a*y)) (0 :: fG q b)) i=_
  rw[DP,mG (fun y=>a*y) (dU a)];unfold conv
  rw[axO];show a*cf b i+cf (0 :: fG q b) i=a*cf b (i-0)+bW (fun k=>cf q k*cf b (i-(k+1))) i
  rw[byA];congr 1;cases i with
  |zero=>rfl
  |succ i=>
   show cf (fG q b) i=_
   rw[c];unfold conv
   exact mH (fun k _=>by rw[show i+1-(k+1)=i-k by omega])
def axP{B C:List Rat}(h:∀i,cf A i=conv (cf Q) (cf B) i+cf C i)(x:Rat):aI A x=aI Q x*aI B x+aI C x:=by
 rw[<-fY,<-lG];exact oT (fun i=>by rw[h,DP,uU]) x
def axQ(l:List Rat)(d:0<=R):∃M,0<=M∧∀x,ab x R->ab (aI l x) M:=by
 induction l with
 |nil=>exact⟨0,by grind,fun x _=>by show ab 0 0;constructor<;>grind⟩
 |cons a l e=>
  obtain⟨M,c,h⟩:=e;obtain⟨N,f,k⟩:=axN a;exact⟨M*R+N,by have:=cA c d;grind,fun x b=>by rw[kT];exact((h x b).mul b).add k⟩
def bM:List Rat->Rat->Rat
 |[],_=>0
 |_ :: l,x=>bM l x*x+aI l x
def axR(l:List Rat)(b:0<=R):∃M,0<=M∧∀x y,ab x R->ab y R->x<=y->ab (aI l y-aI l x) (M*(y-x)):=by
 induction l with
 |nil=>exact⟨0,by grind,fun x y _ _ _=>by show ab (0-0) (0*(y-x));constructor<;>grind⟩
 |cons a l j=>
  obtain⟨M,g,h⟩:=j;obtain⟨N,o,n⟩:=axQ l b;refine⟨M*R+N,by have:=cA g b;grind,fun x y c d i=> ?_⟩;have e:aI (a :: l) y-aI (a :: l) x=(aI l y-aI l x)*y+aI l x*(y-x):=by rw[kT,kT];grind
  rw[e];have k:=(h x y c d i).mul d;have m:ab (aI l x*(y-x)) (N*(y-x)):=(n x c).mul ⟨by grind,by grind⟩;have f:(M*R+N)*(y-x)=M*(y-x)*R+N*(y-x):=by grind
  rw[f];exact k.add m
def qW(l:List Rat)(x:Rat):bM l x=aI (fW l) x:=by
 have c:∀(l:List Rat) (n:Nat),aI ((List.range l.length).map (fun i=>cf l i*((i+n:Nat):Rat))) x=bM l x*x+(n:Rat)*aI l x:=by
  intro l;induction l with
  |nil=>intro n;show(0:Rat)=0*x+(n:Rat)*0;grind
  |cons a l b=>
   intro n;rw[eG,List.range_succ_eq_map,fM,List.map_map,kT];have e:(List.range l.length).map ((fun i=>cf (a :: l) i*((i+n:Nat):Rat)) ∘ Nat.succ)=(List.range l.length).map (fun i=>cf l i*((i+(n+1):Nat):Rat)):=by
    refine by3 (fun i _=> ?_);show cf l i*((i+1+n:Nat):Rat)=_
    rw[show i+1+n=i+(n+1) by omega]
   rw[e,b];show(bM l x*x+((n+1:Nat):Rat)*aI l x)*x+a*((0+n:Nat):Rat)=(bM l x*x+aI l x)*x+(n:Rat)*(aI l x*x+a)
   rw[bA,Rat.natCast_add];have:((1:Nat):Rat)=1:=rfl;rw[this];grind
 cases l with
 |nil=>rfl
 |cons a l=>
  have h:=c l 1;have:((1:Nat):Rat)=1:=rfl;rw[this,azF] at h;show bM l x*x+aI l x=_
  rw[<-h];rfl
def big(t y:Rat):Prop:=t<=y∨y<= -t
def big.mono{u:Rat}(h:big t y)(a:u<=t):big u y:=by rcases h with h|h;exact .inl (by grind);exact .inr (by grind)
def DM(h:¬big t y): -t<y∧y<t:=by unfold big at h;constructor<;>grind
def axH(t y:Rat):big t y∨ -t<y∧y<t:=by
 by_cases h:big t y
 ·exact .inl h
 ·exact .inr (DM h)
def uR(R M:Rat)(F:Rat->Rat):Prop:=∀x y,ab x R->ab y R->x<=y->ab (F y-F x) (M*(y-x))
def sF(x:Rat)(F:Rat->Rat):Int:=(F x).num.sign
def yK{F:Rat->Rat}(h:0<F x):sF x F=1:=(fS _).1 h
def yL{F:Rat->Rat}(h:F x<0):sF x F= -1:=(fS _).2 h
def axI{F:Rat->Rat}(h:F x=0):sF x F=0:=by unfold sF;rw[h];rfl
def uS(x:Rat)(F:Rat->Rat):F x<0∧sF x F= -1∨F x=0∧sF x F=0∨0<F x∧sF x F=1:=by
 rcases iY (F x) with h|h|h
 ·exact .inl ⟨h,yL h⟩
 ·exact .inr (.inl ⟨h,axI h⟩)
 ·exact .inr (.inr ⟨h,yK h⟩)
inductive Chn(R Qb D e:Rat):(Rat->Rat)->List (Rat->Rat)->Prop
 |last {F:Rat->Rat} (h:∀x,ab x R->big e (F x)):Chn R Qb D e F []
 |two {F G:Rat->Rat} (t:Chn R Qb D e G []):Chn R Qb D e F [G]
 |step {F G H:Rat->Rat} {l:List (Rat->Rat)} (h:∀x,ab x R->∃q c d,ab q Qb∧1<=c∧c<=D∧1<=d∧d<=D∧c*F x=q*G x-d*H x) (t:Chn R Qb D e G (H :: l)):Chn R Qb D e F (G :: H :: l)
def axJ{u b q c g:Rat}(l:0<u)(v:u*(b+D)=t)(o:0<=t)(j:ab q b)(p:1<=c)(r:1<=d)(s:d<=D)(i:ab g u)(e:c*f=q*g-d*h):(t<=f->h<= -u)∧(f<= -t->u<=h):=by
 have x:=(j.mul i).1;have y:=(j.mul i).2;have w:=cA (show 0<=D-d by grind) (az6 l);refine⟨fun k=> ?_,fun k=> ?_⟩
 ·by_cases a:h<= -u
  ·exact a
  ·have m:=azA (show 0<d by grind) (show 0<h+u by grind);have n:=cA (show 0<=c-1 by grind) (show 0<=f by grind);grind
 ·by_cases a:u<=h
  ·exact a
  ·have m:=azA (show 0<d by grind) (show 0<u-h by grind);have n:=cA (show 0<=c-1 by grind) (show 0<= -f by grind);grind
def axK{a q c g:Rat}(j:0<t)(n:0<=a)(i:ab q a)(o:1<=c)(p:c<=D)(r:1<=d)(b:ab g t)(l: -t<f)(m:f<t)(e:c*f=q*g-d*h):¬big (t*(a+D)) h:=by
 have x:=(i.mul b).1;have y:=(i.mul b).2;have s:=cA (show 0<=D-c by grind) (az6 j);have u:=azA (show 0<c by grind) (show 0<t-f by grind);have v:=azA (show 0<c by grind) (show 0<t+f by grind);have w:=cA (az6 j) (show 0<=a+D by grind);intro k;rcases k with k|k
 ·have:=cA (show 0<=d-1 by grind) (show 0<=h by grind);grind
 ·have:=cA (show 0<=d-1 by grind) (show 0<= -h by grind);grind
def hJ(h:1<=Z)(n:Nat):1<=Z^n:=by
 induction n with
 |zero=>rw[azM];exact byB
 |succ n a=>
  rw[azH];have:=cA (show 0<=Z^n-1 by grind) (show 0<=Z-1 by grind);grind
def kP(l s:Int)(t:List Int)(h:s≠0):aY l (s :: t)=(if l≠0∧s≠l then 1 else 0)+aY s t:=by
 show(if s=0 then _ else _)=_
 rw[if_neg h]
def DO(l:Int)(t:List Int):aY l (0 :: t)=aY l t:=by show(if (0:Int)=0 then _ else _)=_;rw[if_pos rfl]
def LG{s g:Int}(b:s=1∨s= -1)(a:g=1∨g=0∨g= -1)(t:List Int):aY s (g :: -s :: t)=aY s (-s :: t):=by
 rcases a with rfl|rfl|rfl<;>rcases b with rfl|rfl<;>simp[aY]
def uT{a b W:Rat}{F:Rat->Rat}(h:big t (F a))(d:ab (F b-F a) W)(g:W<t)(f:0<t):sF a F=sF b F∧(t<=F a∧sF a F=1∨F a<= -t∧sF a F= -1):=by
 have i:=d.1;have j:=d.2;rcases h with h|h
 ·have c:=yK (x:=a) (F:=F) (by grind);have e:=yK (x:=b) (F:=F) (by grind);exact⟨by omega,.inl ⟨h,c⟩⟩
 ·have c:=yL (x:=a) (F:=F) (by grind);have e:=yL (x:=b) (F:=F) (by grind);exact⟨by omega,.inr ⟨h,c⟩⟩
def LH{x y b:Int}{t:List Int}(c:x=1∨x= -1)(e:x=y)(h:aY x t=aY x u):aY b (x :: t)=aY b (y :: u):=by
 subst e;have a:x≠0:=by omega
 rw[kP _ _ _ a,kP _ _ _ a,h]
def LI(x:Rat)(F:Rat->Rat):sF x F=1∨sF x F=0∨sF x F= -1:=by
 rcases uS x F with h|h|h
 ·exact .inr (.inr h.2)
 ·exact .inr (.inl h.2)
 ·exact .inl h.2
def LJ(hQ:0<=f)(hD:1<=D){a b:Rat}(o:ab a R)(z:ab b R)(y:a<=b)(V:0<=M):∀(n:Nat) (F:Rat->Rat) (l:List (Rat->Rat)),l.length<=n->Chn R f D e F l->(∀G∈F :: l,uR R M G)->∀t,0<t->t<=e->M*(b-a)*(f+D)^l.length<t->big t (F a)->
  ∀s,aY s ((F :: l).map (sF a))=aY s ((F :: l).map (sF b)):=by
 have x:0<=M*(b-a):=cA V (by grind);intro n;induction n with
 |zero=>
  intro F l C Q k t i E B A s;obtain rfl:l=[]:=bX (by omega);obtain⟨w,L⟩:=uT A (k F (by simp) a b o z y) (by rwa [azS,azM,aqP] at B) i;exact LH (by omega) w rfl
 |succ n I=>
  intro F l C Q k t i E B A s;have hp:=hJ (Z:=f+D) (by grind) l.length;have P:M*(b-a)<t:=by
   have:=cA x (show 0<=(f+D)^l.length-1 by grind);grind
  obtain⟨w,L⟩:=uT A (k F (by simp) a b o z y) P i;rw[fM,fM];refine LH (by omega) w ?_;cases Q with
  |last h=>rfl
  | @two _ G v=>
   cases v with
   |last h=>exact I G [] (by simp) (.last h) (fun g j=>k g (by simp at j;simp[j])) t i E (by rw[azS,azM,aqP];exact P) ((h a o).mono E) _
  | @step _ G H l h v=>
   have T:0<f+D:=by grind
   have ae:t/(f+D)*(f+D)=t:=gW (by grind);have m:0<t/(f+D):=by rw[azE];exact azA i (Rat.inv_pos.2 T)
   generalize t/(f+D)=u at *;have ah:u<=t:=by have:=cA (az6 m) (show 0<=f+D-1 by grind);grind
   rw[eG,azH] at B;have S:M*(b-a)*(f+D)^(H :: l).length<u:=by
    by_cases ad:M*(b-a)*(f+D)^(H :: l).length<u
    ·exact ad
    ·have:=cA (show 0<=M*(b-a)*(f+D)^(H :: l).length-u by grind) (az6 T);grind
   rcases axH u (G a) with hg|⟨af,ag⟩
   ·exact I G (H :: l) (by rw[eG] at C;omega) v (fun g j=>k g (j8 _ j)) u m (by grind) S hg _
   ·obtain⟨q,c,d,hq,W, -,Y,ac,U⟩:=h a o;have tH:Chn R f D e H l:=by
     cases v with
     |two t=>exact t
     |step _ t=>exact t
    obtain⟨z1,z2⟩:=axJ m ae (az6 i) hq W Y ac (show ab (G a) u from⟨by grind,by grind⟩) U;have p:big u (H a)∧sF a H= -sF a F:=by
     rcases L with ⟨J,K⟩|⟨J,K⟩
     ·have:=z1 J;exact⟨.inr this,by rw[K,yL (by grind)]⟩
     ·have:=z2 J;exact⟨.inl this,by rw[K,yK (by grind)];rfl⟩
    have X:M*(b-a)*(f+D)^l.length<u:=by
     rw[eG,azH] at S;have:=cA (cA x (show 0<=(f+D)^l.length by have:=hJ (Z:=f+D) (by grind) l.length;grind)) (show 0<=f+D-1 by grind);grind
    have O:∀g∈H :: l,uR R M g:=fun g j=>k g (j8 _ (j8 _ j));have r:=I H l (by rw[eG,eG] at C;omega) tH O u m (by grind) X p.1 (sF a F)
    have N:=(uT p.1 (O H (by simp) a b o z y) (by
     have:=hJ (Z:=f+D) (by grind) l.length;have:=cA x (show 0<=(f+D)^l.length-1 by grind);grind) m).1
    rw[fM,fM,<-N,p.2] at r;rw[fM,fM,fM,fM,<-N,p.2,LG (by omega) (LI a G),LG (by omega) (LI b G)];exact r
def axL{a:Rat}(r:0<=a)(C:1<=D)(m:ab x R){F:Rat->Rat}{l:List (Rat->Rat)}(h:Chn R a D e F l):∀t,0<t->t*(a+D)^l.length<=e->big t (F x)∨∃G n,l=G :: n∧big t (G x):=by
 induction h with
 |last h=>intro t b f;rw[azS,azM,aqP] at f;exact .inl ((h x m).mono f)
 | @two F G t j=>
  intro t b f;have g:=cA (az6 b) (show 0<=a+D-1 by grind);have:(a+D)^[G].length=a+D:=by rw[iJ,azH,azM,azF]
  rw[this] at f;rcases j t b (by rw[azS,azM,aqP];grind) with h|⟨_,_,h,_⟩
  ·exact .inr ⟨G,[],rfl,h⟩
  ·cases h
 | @step F G H l h t j=>
  intro t b f;have E:=cA (az6 b) (show 0<=a+D-1 by grind);rw[eG,azH] at f;have A:0<t*(a+D):=azA b (by grind);by_cases g:big t (F x)
  ·exact .inl g
  ·by_cases i:big t (G x)
   ·exact .inr ⟨G,_,rfl,i⟩
   ·exfalso;have o:=DM g;have I:=DM i;obtain⟨q,c,d,y,s,u,v, -,p⟩:=h x m;have z:=axK b r y s u v (show ab (G x) t from⟨by grind,by grind⟩) o.1 o.2 p;rcases j (t*(a+D)) A (by grind) with k|⟨B,n,w,k⟩
    ·exact i (k.mono (by grind))
    ·injection w with hl1 hl2;subst hl1;exact z k
def Lc(V:Rat->Nat)(s:Rat->Int)(a b:Rat):Prop:=(V a=V b∧s b≠0∧(s a≠0->s b=s a))∨(V a=V b+1∧s a≠0∧s b≠s a)
def axM{g:Rat}(K:0<=f)(I:1<=D)(he:0<e)(A:0<=M)(W:0<=g){F:Rat->Rat}{l:List (Rat->Rat)}(L:Chn R f D e F l)(J:∀G∈F :: l,uR R M G)(hT:∀G c,l=G :: c->∀x y,ab x R->ab y R->∃m r,1<=m∧ab r g∧F y=F x+(y-x)*(m*G x+(y-x)*r))(hd:0<d)(ac:d*((M+g+1)*(f+D)^l.length)*(2*(f+D)^l.length)<=e):
  ∀a b,ab a R->ab b R->a<b->b-a<=d->Lc (fun x=>aY 0 ((F :: l).map (sF x))) (fun x=>sF x F) a b:=by
 have hp:=hJ (Z:=f+D) (by grind) l.length;obtain⟨Z,v⟩:∃Z,(f+D)^l.length=Z:=⟨_,rfl⟩;rw[v] at hp ac;have n:0<Z:=by grind
 obtain⟨t,p,ht⟩:∃t,0<t∧t*Z=e:=⟨e/Z,by rw[azE];exact azA he (Rat.inv_pos.2 n),gW (by grind)⟩;have ae:t<=e:=by have:=cA (az6 p) (show 0<=Z-1 by grind);grind
 have aj:0<(M+g+1)*Z:=azA (by grind) n;have ak:d*((M+g+1)*Z)<=t/2:=by
  by_cases h:d*((M+g+1)*Z)<=t/2
  ·exact h
  ·have:=azA (show 0<d*((M+g+1)*Z)-t/2 by grind) n;grind
 intro a b o w ai an;have al:(b-a)*((M+g+1)*Z)<=t/2:=by
  have:=cA (show 0<=d-(b-a) by grind) (az6 aj);grind
 have n1:=cA (cA W (az6 n)) (show 0<=b-a by grind);have n2:=cA (cA A (az6 n)) (show 0<=b-a by grind);have n3:=cA (az6 n) (show 0<=b-a by grind);have ah:M*(b-a)*Z<t:=by grind
 have ag:g*(b-a)<t:=by
  have:=cA (cA W (show 0<=b-a by grind)) (show 0<=Z-1 by grind);grind
 have Y:0<=M*(b-a):=cA A (by grind);have X:M*(b-a)<t:=by
  have:=cA Y (show 0<=Z-1 by grind);grind
 have B:a<=b:=az6 ai;rcases axL K I o L t p (by rw[v,ht];exact byB) with h|⟨G,c,rfl,h⟩
 ·have T:=LJ K I o w B A l.length F l aE L J t p ae (by rw[v];exact ah) h 0;obtain⟨U,h3⟩:=uT h (J F (by simp) a b o w B) X p;exact .inl ⟨T,by show sF b F≠0;omega,fun _=>U.symm⟩
 ·have tG:Chn R f D e G c:=by
   cases L with
   |two t=>exact t
   |step _ t=>exact t
  have V:∀C∈G :: c,uR R M C:=fun C af=>J C (j8 _ af);rw[eG,azH] at v
  have N:=LJ K I o w B A c.length G c aE tG V t p ae (by
   have T:=hJ (Z:=f+D) (by grind) c.length;have U:=cA (cA Y (show 0<=(f+D)^c.length by grind)) (show 0<=f+D-1 by grind);have h3:M*(b-a)*Z=M*(b-a)*(f+D)^c.length+M*(b-a)*(f+D)^c.length*(f+D-1):=by rw[<-v];grind
   clear ag al n1 n2 n3 hd ak ac;grind) h
  obtain⟨z,g2⟩:=uT h (V G (by simp) a b o w B) X p;obtain⟨m,r,ao,hr,eF⟩:=hT G c rfl a b o w;have ad:ab ((b-a)*r) (g*(b-a)):=by
   have:=hr.mul (show ab (b-a) (b-a) from⟨by grind,by grind⟩);rw[byD];exact this
  have r1:=ad.1;have r2:=ad.2;have k:=N 0;have Q:=N (sF a F);have S:=N (sF b F);unfold Lc;show(aY 0 ((F :: G :: c).map (sF a))=aY 0 ((F :: G :: c).map (sF b))∧sF b F≠0∧(sF a F≠0->sF b F=sF a F))∨(aY 0 ((F :: G :: c).map (sF a))=aY 0 ((F :: G :: c).map (sF b))+1∧sF a F≠0∧sF b F≠sF a F)
  rw[fM,fM];rw[fM,fM] at k Q S;rw[fM,fM];have E:sF a G≠0:=by omega
  have H:sF b G≠0:=by omega
  rw[kP _ _ _ E,kP _ _ _ H] at k Q S;rw[if_neg (by simp),if_neg (by simp)] at k;have am:(0<F b-F a∧sF a G=1)∨(F b-F a<0∧sF a G= -1):=by
   rcases g2 with ⟨k1,O⟩|⟨k1,O⟩
   ·have:=cA (show 0<=m-1 by grind) (show 0<=G a by grind);have:=azA (show 0<b-a by grind) (show 0<m*G a+(b-a)*r by grind);exact .inl ⟨by grind,O⟩
   ·have:=cA (show 0<=m-1 by grind) (show 0<= -(G a) by grind);have:=azA (show 0<b-a by grind) (show 0< -(m*G a+(b-a)*r) by grind);exact .inr ⟨by grind,O⟩
  have va:aY 0 (sF a F :: sF a G :: c.map (sF a))=(if sF a F≠0∧sF a G≠sF a F then 1 else 0)+aY (sF a G) (c.map (sF a)):=by
   by_cases u:sF a F=0
   ·rw[u,DO,kP _ _ _ E]
   ·rw[kP _ _ _ u,kP _ _ _ E,if_neg (by simp),bA]
  have vb:aY 0 (sF b F :: sF b G :: c.map (sF b))=(if sF b F≠0∧sF b G≠sF b F then 1 else 0)+aY (sF b G) (c.map (sF b)):=by
   by_cases u:sF b F=0
   ·rw[u,DO,kP _ _ _ H]
   ·rw[kP _ _ _ u,kP _ _ _ H,if_neg (by simp),bA]
  rw[va,vb];rcases am with ⟨m1,P⟩|⟨m1,P⟩
  ·rw[P] at z k⊢;rw[<-z] at k⊢;rcases uS a F with ⟨q,i⟩|⟨q,i⟩|⟨q,i⟩<;>rcases uS b F with ⟨s,j⟩|⟨s,j⟩|⟨s,j⟩<;>rw[i,j]<;>first|(exfalso;grind)|(simp;omega)
  ·rw[P] at z k⊢;rw[<-z] at k⊢;rcases uS a F with ⟨q,i⟩|⟨q,i⟩|⟨q,i⟩<;>rcases uS b F with ⟨s,j⟩|⟨s,j⟩|⟨s,j⟩<;>rw[i,j]<;>first|(exfalso;grind)|(simp;omega)
def axE(n:Nat):(n:Rat)<=2^n:=by
 induction n with
 |zero=>rw[azM];decide
 |succ n a=>
  rw[azH,Rat.natCast_add,show((1:Nat):Rat)=1 from rfl];have:=hJ (Z:=2) (by decide) n;grind
def axF(q:Rat):∃n:Nat,q<=(n:Rat):=by
 refine⟨q.num.natAbs,?_⟩;rcases iY q with h|h|h
 ·have:(0:Rat)<=(q.num.natAbs:Rat):=by exact_mod_cast dC _
  grind
 ·have:(0:Rat)<=(q.num.natAbs:Rat):=by exact_mod_cast dC _
  grind
 ·have f:(1:Rat)<=((q.den:Int):Rat):=by
   have:(1:Int)<=(q.den:Int):=by have:=q.den_pos;omega
   exact_mod_cast this
  have c:((q.den:Int):Rat)≠0:=by grind
  have e:q*((q.den:Int):Rat)=((q.num:Int):Rat):=by
   have a:=oU q;rw[<-aq3] at a;have b:((q.num:Int):Rat)/((q.den:Int):Rat)*((q.den:Int):Rat)=((q.num:Int):Rat):=gW c;rw[<-a] at b;exact b
  have hn:((q.num.natAbs:Nat):Rat)=((q.num:Int):Rat):=by
   have:=pK h;rw[<-aq3,show((q.num.natAbs:Nat):Int)=q.num by omega]
  rw[hn,<-e];have:=cA (az6 h) (show 0<=((q.den:Int):Rat)-1 by grind);grind
def axG(a:0<d)(L:Rat):∃n:Nat,L<=d*2^n:=by
 obtain⟨n,hn⟩:=axF (L/d);have b:=axE n;refine⟨n,?_⟩;have c:L/d*d=L:=gW (by grind);have:=cA (show 0<=2^n-L/d by grind) (az6 a);grind
structure Vs(R d:Rat)(V:Rat->Nat)(s:Rat->Int):Prop where
 d0:0<d
 loc:∀a b,ab a R->ab b R->a<b->b-a<=d->Lc V s a b
section
variable {R d:Rat}{V:Rat->Nat}{s:Rat->Int}(h:Vs R d V s)
include h
def Vs.halves{P:Rat->Rat->Prop}(l:∀a b,ab a R->ab b R->a<b->b-a<=d->P a b)(m:∀a b c,ab a R->ab b R->ab c R->a<c->c<b->P a c->P c b->P a b):∀a b,ab a R->ab b R->a<b->P a b:=by
 have o:∀(n:Nat) a b,ab a R->ab b R->a<b->b-a<=d*2^n->P a b:=by
  intro n;induction n with
  |zero=>intro a b e f g i;exact l a b e f g (by rw[azM,aqP] at i;exact i)
  |succ n k=>
   intro a b e f g i;rw[azH] at i;have p:=e.1;have q:=e.2;have r:=f.1;have t:=f.2
   have j:ab ((a+b)/2) R:=⟨by grind,by grind⟩;exact m a b ((a+b)/2) e f j (by grind) (by grind) (k _ _ e j (by grind) (by grind)) (k _ _ j f (by grind) (by grind))
 intro a b e f g;obtain⟨n,hn⟩:=axG h.d0 (b-a);exact o n a b e f g hn
def Vs.mono:∀a b,ab a R->ab b R->a<b->V b<=V a:=by
 refine h.halves (fun a b g j i k=> ?_) (fun a b c _ _ _ _ _ e f=>aH f e);rcases h.loc a b g j i k with ⟨e, -⟩|⟨e, -⟩<;>omega
def Vs.root{a b:Rat}(f:ab a R)(c:ab x R)(l:ab b R)(j:a<x)(v:x<=b)(i:s x=0):V b<V a:=by
 have u:=h.d0;have p:=f.1;have A:=c.2;have q:=f.2;have z:=c.1
 obtain⟨y,w,n,o⟩:∃y,a<=y∧y<x∧x-y<=d:=by
  by_cases m:x-a<=d
  ·exact⟨a,byB,j,m⟩
  ·exact⟨x-d,by grind,by grind,by grind⟩
 have g:ab y R:=⟨by grind,by grind⟩;have r:V y<=V a:=by
  by_cases e:a=y
  ·rw[e];exact aE
  ·exact h.mono a y f g (by grind)
 have t:V b<=V x:=by
  by_cases e:x=b
  ·rw[e];exact aE
  ·exact h.mono x b c l (by grind)
 rcases h.loc y x g c n o with ⟨-,k, -⟩|⟨k, -⟩
 ·exact absurd i k
 ·omega
def Vs.same:∀a b,ab a R->ab b R->a<b->V a=V b->s b≠0∧(s a≠0->s b=s a):=by
 refine h.halves (fun a b e f q u p=> ?_) (fun a b c e f g r t n o p=> ?_)
 ·rcases h.loc a b e f q u with ⟨-,v,w⟩|⟨k, -⟩
  ·exact⟨v,w⟩
  ·omega
 ·have x:=h.mono a c e g r;have y:=h.mono c b g f t;obtain⟨i,j⟩:=n (by omega);obtain⟨l,m⟩:=o (by omega);exact⟨l,fun k=>(m i).trans (j k)⟩
def Vs.none:∀a b,ab a R->ab b R->a<b->(∀x y,a<=x->x<y->y<=b->s x≠0->s y=s x)->V a=V b:=by
 refine h.halves (fun a b g j i p e=> ?_) (fun a b c g j u t v n o e=> ?_)
 ·rcases h.loc a b g j i p with ⟨k, -⟩|⟨-,q,r⟩
  ·exact k
  ·exact absurd (e a b byB i byB q) r
 ·rw[n (fun x y l f m=>e x y l f (by grind)),o (fun x y l f m=>e x y (by grind) f m)]
end
inductive Ex(V:Rat->Nat)(s:Rat->Int):Rat->Rat->List (Rat×Rat)->Prop
 |none {a b:Rat} (h:V a=V b):Ex V s a b []
 |hit {a b:Rat} (h:V a=V b+1) (hb:s b=0):Ex V s a b [(b,b)]
 |one {a b:Rat} (h:V a=V b+1) (hb:s b≠0) (ha:s a≠0):Ex V s a b [(a,b)]
 |split {a b:Rat} {l m:List (Rat×Rat)} (h:V b<V a) (h':V a=V b+1->s b≠0∧s a=0) (hl:Ex V s a ((a+b)/2) l) (hm:Ex V s ((a+b)/2) b m):Ex V s a b (l++m)
def Vs.ex{V:Rat->Nat}{s:Rat->Int}(h:Vs R d V s):∀(n:Nat) a b,ab a R->ab b R->a<b->b-a<=d*2^n->∃l,Ex V s a b l:=by
 intro n;induction n with
 |zero=>
  intro a b c e o j;rw[azM,aqP] at j;rcases h.loc a b c e o j with ⟨i, -⟩|⟨i,v, -⟩
  ·exact⟨_,.none i⟩
  ·by_cases p:s b=0
   ·exact⟨_,.hit i p⟩
   ·exact⟨_,.one i p v⟩
 |succ n r=>
  intro a b c e o j;have D:=h.mono a b c e o;by_cases u:V a=V b
  ·exact⟨_,.none u⟩
  ·by_cases f:V a=V b+1∧s b=0
   ·exact⟨_,.hit f.1 f.2⟩
   ·by_cases g:V a=V b+1∧s a≠0
    ·exact⟨_,.one g.1 (fun k=>f ⟨g.1,k⟩) g.2⟩
    ·have z:=c.1;have A:=c.2;have B:=e.1;have C:=e.2
     have q:ab ((a+b)/2) R:=⟨by grind,by grind⟩;rw[azH] at j;obtain⟨l,w⟩:=r _ _ c q (by grind) (by grind);obtain⟨m,x⟩:=r _ _ q e (by grind) (by grind);exact⟨_,.split (by omega) (fun k=>⟨fun y=>f ⟨k,y⟩,by by_cases t:s a=0;exact t;exact absurd ⟨k,t⟩ g⟩) w x⟩
def Ex.unique{V:Rat->Nat}{s:Rat->Int}{a b:Rat}{l:List (Rat×Rat)}(h:Ex V s a b l):∀{e},Ex V s a b e->l=e:=by
 induction h with
 |none h=>intro e c;cases c with
  |none=>rfl
  |hit k=>omega
  |one k=>omega
  |split k=>omega
 |hit h f=>intro e c;cases c with
  |none=>omega
  |hit=>rfl
  |one _ k=>exact absurd f k
  |split _ k=>exact absurd f (k h).1
 |one h f j=>intro e c;cases c with
  |none=>omega
  |hit _ k=>exact absurd k f
  |one=>rfl
  |split _ k=>exact absurd (k h).2 j
 |split h g r t m n=>intro e c;cases c with
  |none=>omega
  |hit k i=>exact absurd i (g k).1
  |one k i o=>exact absurd (g k).2 o
  |split _ _ p q=>rw[m p,n q]
def K8{P:Nat->Prop}(h:∃n,P n):∃n,P n∧∀m,P m->n<=m:=by
 obtain⟨n,hn⟩:=h;induction n using Nat.strongRecOn with
 |ind n e=>
  by_cases h:∃m,m<n∧P m
  ·obtain⟨m,a,b⟩:=h;exact e m a b
  ·exact⟨n,hn,fun m d=>Nat.le_of_not_lt (fun c=>h ⟨m,c,d⟩)⟩
def Pm(p:Nat):Prop:=1<p∧∀a b:Int,(p:Int)∣a*b->(p:Int)∣a∨(p:Int)∣b
def K9(h:1<n):∃p,Pm p∧p∣n:=by
 obtain⟨d,⟨j,f⟩,k⟩:=K8 (P:=fun d=>1<d∧d∣n) ⟨n,h,Nat.dvd_refl n⟩;refine⟨d,⟨j,fun a b m=> ?_⟩,f⟩;have g:=aqX d a.natAbs;have o:=bzV a.natAbs (show 0<d by omega);rcases dE 1 (Nat.gcd d a.natAbs) with i|i
 ·left;have l:=k _ ⟨i,bzF g f⟩;have e:Nat.gcd d a.natAbs=d:=byS (aqY (by omega) g) l;have c:=azU d a.natAbs;rw[e] at c;exact Int.ofNat_dvd_left.2 c
 ·right;have e:Nat.Coprime d a.natAbs:=by unfold Nat.Coprime;omega
  have c:=Int.ofNat_dvd_left.1 m;rw[fL] at c;exact Int.ofNat_dvd_left.2 (e.dvd_of_dvd_mul_left c)
def YN{t:Nat->Int}(h:∀k,k<n->p∣t k):p∣bW t n:=by
 induction n with
 |zero=>exact Int.dvd_zero p
 |succ n a=>exact Int.dvd_add (a (fun k b=>h k (by omega))) (h n (by omega))
def YO{t:Nat->Int}(g:j<n)(h:∀k,k<n->k≠j->p∣t k):p∣bW t n-t j:=by
 induction n with
 |zero=>omega
 |succ n f=>
  rw[bW];by_cases e:j=n
  ·subst e;have:=YN (p:=p) (t:=t) (n:=j) (fun k d=>h k (by omega) (by omega));rw[show bW t j+t j-t j=bW t j by omega];exact this
  ·have b:=f (by omega) (fun k d=>h k (by omega));have c:=h n (by omega) (fun a=>e a.symm);rw[show bW t n+t n-t j=bW t n-t j+t n by omega];exact Int.dvd_add b c
def YP{p:Nat}(q:Pm p){f g:Nat->Int}{i:Nat}(hi:¬(p:Int)∣f i)(l:∀k,k<i->(p:Int)∣f k)(m:¬(p:Int)∣g j)(o:∀k,k<j->(p:Int)∣g k):¬(p:Int)∣conv f g (i+j):=fun h=>by
 have d:=YO (p:=(p:Int)) (t:=fun k=>f k*g (i+j-k)) (n:=i+j+1) (j:=i) (by omega) (fun k r s=>by
  rcases dE k i with c|c
  ·exact byF (l k c) (Int.dvd_mul_right _ _)
  ·exact byF (o (i+j-k) (by omega)) (Int.dvd_mul_left _ _))
 have b:(p:Int)∣f i*g (i+j-i):=by
  have a:=Int.dvd_sub h d;have e:conv f g (i+j)-(bW (fun k=>f k*g (i+j-k)) (i+j+1)-f i*g (i+j-i))=f i*g (i+j-i):=by
   show bW (fun k=>f k*g (i+j-k)) (i+j+1)-_=_
   omega
  rw[e] at a;exact a
 rw[bzC] at b;rcases q.2 _ _ b with a|a
 ·exact hi a
 ·exact m a
def KC{p:Nat}(j:1<p){f:List Int}(d:bC f=1):∃i,¬(p:Int)∣cf f i∧∀k,k<i->(p:Int)∣cf f k:=by
 obtain⟨i,a,c⟩:=K8 (P:=fun i=>¬(p:Int)∣cf f i) (by
  by_cases h:∃i,¬(p:Int)∣cf f i
  ·exact h
  ·exfalso
   have a:p∣bC f:=CM (fun n hn=>by
    obtain⟨i,e,rfl⟩:=List.mem_iff_getElem.1 hn;rw[<-fZ e];by_cases b:(p:Int)∣cf f i
    ·exact b
    ·exact absurd ⟨i,b⟩ h)
   rw[d] at a;have:=aqY (by decide) a;omega)
 refine⟨i,a,fun k g=> ?_⟩;by_cases h:(p:Int)∣cf f k
 ·exact h
 ·have:=c k h;omega
def YQ{f:List Int}(e:bC f=1)(k:bC g=1){d:Nat}(h:∀i,(d:Int)∣conv (cf f) (cf g) i):d=1:=by
 by_cases c:d=1
 ·exact c
 ·exfalso;obtain⟨p,a,l⟩:∃p,Pm p∧p∣d:=by
   rcases iB d with b|b
   ·obtain⟨p,a, -⟩:=K9 (n:=2) (by decide);exact⟨p,a,by rw[b];exact Nat.dvd_zero p⟩
   ·exact K9 (by omega)
  obtain⟨i,m,o⟩:=KC a.1 e;obtain⟨j,q,r⟩:=KC a.1 k;exact YP a m o q r (byF (Int.ofNat_dvd.2 l) (h (i+j)))
def xZ(h:(bC ns:Int)≠0):bC (aS ns)=1:=by
 have f:bC (aS ns)*bC ns∣bC ns:=CM (fun n hn=>by
  obtain⟨i,a,rfl⟩:=List.mem_iff_getElem.1 hn;rw[<-fZ a,<-lW ns i,az8];refine Int.mul_dvd_mul ?_ (Int.dvd_refl _);have e:i<(aS ns).length:=by rw[dF];exact a
  rw[fZ e];exact CL (aq0 e))
 have b:0<bC ns:=by omega
 have k:=aqY b f;rcases dE 1 (bC (aS ns)) with c|c
 ·have:=dK (bC ns) c;omega
 ·rcases iB (bC (aS ns)) with d|d
  ·exfalso;have g:∀i,cf ns i=0:=fun i=>by
    rw[<-lW ns i];by_cases a:i<(aS ns).length
    ·rw[fZ a,JQ d _ (aq0 a),bxB]
    ·rw[bV (by omega),bxB]
   have j:∀n∈ns,((bC ns+bC ns:Nat):Int)∣n:=fun n hn=>by
    obtain⟨i,a,rfl⟩:=List.mem_iff_getElem.1 hn;rw[<-fZ a,g];exact Int.dvd_zero _
   have l:=aqY b (CM j);omega
  ·omega
def YR(Q:List Rat):∃D:Nat,0<D∧∀q∈Q,(q.den:Int)∣(D:Int):=by
 induction Q with
 |nil=>exact⟨1,by decide,fun q b=>by cases b⟩
 |cons a Q e=>
  obtain⟨D,c,d⟩:=e;refine⟨a.den*D,aqZ a.den_pos c,fun q b=> ?_⟩;rw[az8];rcases List.mem_cons.1 b with rfl|b
  ·exact Int.dvd_mul_right _ _
  ·exact byF (d q b) (Int.dvd_mul_left _ _)
def D7(B:bC g=1)(h:∀i,((cf xs i:Int):Rat)=conv (cf Q) (fun k=>((cf g k:Int):Rat)) i):∃q:List Int,q.length=Q.length∧∀i,cf Q i=((cf q i:Int):Rat):=by
 obtain⟨D,w,A⟩:=YR Q;have hn:=JC Q (D:Int) A;have p:((D:Int):Rat)≠0:=gJ (by omega);have t:=oN Q (D:Int);generalize G:cC Q (D:Int)=N at *;by_cases s:(bC N:Int)=0
 ·refine⟨N,t,fun i=> ?_⟩;have e:cf N i=0:=by
   rw[<-lW N i,s,Int.mul_zero]
  have c:=hn i;rw[e] at c⊢;have f:cf Q i*((D:Int):Rat)=0:=by rw[<-c,aq4]
  rcases Rat.mul_eq_zero.1 f with d|d
  ·rw[d,aq4]
  ·exact absurd d p
 ·have E:=xZ s;have F:∀i,(D:Int)*cf xs i=(bC N:Int)*conv (cf (aS N)) (cf g) i:=fun i=>by
   have e:(((D:Int)*cf xs i:Int):Rat)=(((bC N:Int)*conv (cf (aS N)) (cf g) i:Int):Rat):=by
    rw[eJ,eJ,oD,h i,<-eI,<-eI];refine gL (fun k=> ?_) (fun _=>rfl) i;have c:=hn k;rw[<-lW N k,eJ] at c;grind
   exact Rat.intCast_inj.1 e
  have x:D∣bC N:=by
   have u:=aqX D (bC N);have v:=azU D (bC N);have l:=bzV (bC N) w;obtain⟨a,j⟩:=u;obtain⟨b,r⟩:=v;have z:Nat.Coprime a b:=by
    have:=Nat.coprime_div_gcd_div_gcd (m:=D) (n:=bC N) l;rwa [Nat.div_eq_of_eq_mul_right l j,Nat.div_eq_of_eq_mul_right l r] at this
   have y:a=1:=YQ E B (fun i=>by
    have e:=F i;have c:((Nat.gcd D (bC N):Nat):Int)*((a:Int)*cf xs i)=((Nat.gcd D (bC N):Nat):Int)*((b:Int)*conv (cf (aS N)) (cf g) i):=by
     rw[<-Int.mul_assoc,<-Int.mul_assoc,<-az8,<-az8,<-j,<-r];exact e
    have f:=bzK (by omega) c;have d:(a:Int)∣(b:Int)*conv (cf (aS N)) (cf g) i:=⟨_,f.symm⟩
    have o:=Int.ofNat_dvd_left.1 d;rw[fL,dD] at o;exact Int.ofNat_dvd_left.2 (z.dvd_of_dvd_mul_left o))
   rw[y,az9] at j;rw[j];exact azU _ _
  obtain⟨k,C⟩:=x;refine⟨(aS N).map (·*(k:Int)),by rw[cH,dF];exact t,fun i=> ?_⟩;rw[CC,eJ];have c:=hn i;rw[<-lW N i,C,az8,eJ,eJ] at c;have f:(((cf (aS N) i:Int):Rat)*((k:Int):Rat)-cf Q i)*((D:Int):Rat)=0:=by grind
  rcases Rat.mul_eq_zero.1 f with d|d
  ·grind
  ·exact absurd d p
end Go.Proofs.YtjgbleapffgbcaaGreatDoor
namespace Go.Proofs.YtjgbleapffgbcaaGreatDoor
open Go.RowKit Sos
variable{a b g:List Int}
def y5{B:Nat}(h:Euc B a b g)(i:1<=B):aN a->aN b->(∀n∈a,nl n.natAbs<=B)->(∀n∈b,nl n.natAbs<=B)->aN g∧(∀n∈g,nl n.natAbs<=B)∧g.length<=max a.length b.length:=by
 induction h with
 |done a=>exact fun p _ k _=>⟨p,k,Nat.le_max_left _ _⟩
 |one c=>exact fun _ _ _ _=>⟨oB rfl,fun n hn=>by rw[List.mem_singleton.1 hn];exact aH (cJ (m:=1) (by unfold BN;decide)) i,by rw[c];exact Nat.le_max_right _ _⟩
 |step c h t j=>
  intro _ q _ o;obtain⟨d,e,f⟩:=j q (Q5 h.r_trim) o (gU h.br);rw[dF] at f;have:=h.r_lt;exact⟨d,e,by omega⟩
def GcT(A B:List Rat)(g:List Int):Prop:=∃D E,ComDen A D 8∧ComDen B E 8∧pO 43740 (cC A D) (cC B E) g
def GcT.ok{A B:List Rat}(h:GcT A B g)(p:aN A)(r:aN B)(v:∀q∈A,RL 1 q)(x:∀q∈B,RL 1 q)(y:A.length<=7)(z:B.length<=7):(∃a b,Prp A a∧Prp B b∧Trc 43740 a b g)∧aN g∧(∀n∈g,nl n.natAbs<=43740)∧g.length<=7:=by
 obtain⟨D,E,c,d,h⟩:=h;have s:=oO c.pos c.dvd p;have t:=oO d.pos d.dvd r;have j:=gU (K:=43740) (fun n hn=>aH (sA _ D 1 _ v c.nl_ n hn) (by decide));have k:=gU (K:=43740) (fun n hn=>aH (sA _ E 1 _ x d.nl_ n hn) (by decide));have m:=nM (uE c p);have o:=nM (uE d r);have C:=oN A D;have F:=oN B E;unfold pO at h;split at h
 ·rename_i u;obtain⟨e,f,i⟩:=y5 h (by decide) (Q5 t) (Q5 s) k j;rw[dF,dF] at i;exact⟨⟨_,_,m,o,.inr (.inr ⟨by rw[dF,dF];exact u,h,j⟩)⟩,e,f,by omega⟩
 ·obtain⟨e,f,i⟩:=y5 h (by decide) (Q5 s) (Q5 t) j k;rw[dF,dF] at i;exact⟨⟨_,_,m,o,.inl h⟩,e,f,by omega⟩
section
variable (a b:List (List UInt8))(va vb:Value)(w:World)(hG:Glob w)(ha:StrsAt w va a)(hb':StrsAt w vb b)(hla:a.length<=7)(hlb:b.length<=7)(hsa:∀l∈a,l.length<=6)(hsb:∀l∈b,l.length<=6)
include hG ha hb' hla hlb hsa hsb
end
end Go.Proofs.YtjgbleapffgbcaaGreatDoor
namespace Go.Proofs.YtjgbleapffgbcaaGreatDoor
open Sos
variable{B:Nat}{a b g s w w':List Int}{A:List Rat}
def CO(f:Nat->Int)(i:Nat):conv f (cf [1]) i=f i:=by
 have h:∀k,cf [(1:Int)] k=if k=0 then 1 else 0:=fun k=>by
  cases k with
  |zero=>rfl
  |succ k=>rw[bV (by simp)];rfl
 rw[sO,gL h (fun _=>rfl),qE,if_pos (dC _),az5];rfl
def JS(h:Euc B a b g):Dv (cf a) g∧Dv (cf b) g:=by
 induction h with
 |done a=>exact⟨(Dv.self a 1).congr (fun i=>(az5 _).symm),(Dv.zero a).congr (fun i=>eR i)⟩
 | @one a b d=>exact⟨⟨1,a,by decide,fun i=>by rw[CO,az5]⟩,⟨1,b,by decide,fun i=>by rw[CO,az5]⟩⟩
 | @step a b q r g m d h t c=>
  refine⟨Dv.cancel h.m0 ((c.2.lin c.1 q (bC r:Int) 1).congr (fun i=> ?_)),c.1⟩;rw[h.id_ i,fD (bC r:Int),lW r i];omega
def XA(h:Euc B a b g):bC a=1->(b=[]∨bC b=1)->bC g=1:=by
 induction h with
 |done a=>exact fun h _=>h
 |one c=>exact fun _ _=>rfl
 | @step a b q r g m c h t j=>
  intro _ f;have i:b≠[]:=fun e=>by rw[e] at c;simp at c
  refine j (f.resolve_left i) ?_;by_cases d:r=[]
  ·exact .inl (bX (by rw[dF,d];rfl))
  ·exact .inr (xZ (nI h.r_trim d))
def XC(h:bC w=1):aS w=w:=by
 refine bzO (dF w) (fun i a b=> ?_);have:=lW w i;rw[h,fZ a,fZ b] at this;simpa using this
def lE(h:aN w):aN (bB w):=by
 by_cases b:bB w=[]
 ·rw[b];exact fun a c=>by simp at c
 ·have f:=lZ w;have g:(bB w).length≠0:=fun e=>b (bX e);have d:w≠[]:=fun e=>b (by rw[e];rfl);rw[dR b,sB,show(bB w).length-1+1=w.length-1 by omega];exact bxK ((dR d).1 h) (by omega)
structure Sqp(B:Nat)(w s:List Int):Prop where
 out:∃g,Euc B w (aS (bB w)) g∧g≠[]∧aN g∧bC g=1∧s.length+g.length=w.length+1∧∀i,cf w i=conv (cf s) (cf g) i
 ne:s≠[]
 ts:aN s
def XD(v:w≠[])(o:aN w)(z:bC w=1)(h:Euc B w (aS (bB w)) g)(C:aN g):bC g=1∧g≠[]∧∃s,s≠[]∧aN s∧s.length+g.length=w.length+1∧∀i,cf w i=conv (cf s) (cf g) i:=by
 have A:=lE o
 have a:bC g=1:=XA h z (by
  by_cases b:bB w=[]
  ·exact .inl (bX (by rw[dF,b];rfl))
  ·exact .inr (xZ (nI A b)))
 have c:g≠[]:=fun e=>by rw[e] at a;cases a
 refine⟨a,c,?_⟩;obtain⟨k,u,f,n⟩:=(JS h).1;have D:=gJ f
 obtain⟨q, -,t⟩:=D7 (xs:=w) (Q:=aT (1/(k:Rat)) u) a (fun i=>by
  rw[gL (dS _ u) (fun _=>rfl),eI,<-oD,<-n i,eJ];grind)
 have d:∀i,cf w i=conv (cf (aW aV q)) (cf g) i:=fun i=>by
  rw[gL (iS q) (fun _=>rfl)];have p:=n i;have r:((k*cf w i:Int):Rat)=((k*conv (cf q) (cf g) i:Int):Rat):=by
   rw[p,eJ,oD,oD,gL (fun j=>(t j).symm) (fun _=>rfl),gL (dS _ u) (fun _=>rfl),eI];grind
  exact bzK f (Rat.intCast_inj.1 r)
 have m:=jS q;obtain⟨x,y⟩:=K7 m o C c d;have l:aW aV q≠[]:=fun e=>v (x e);exact⟨_,l,m,(y l).symm,d⟩
def XF(h:Euc B a b g):∀{v:Nat} {p f g':List Int},Euc v p f g'->∀{A k:List Rat},Prp A a->Prp A p->Prp k b->Prp k f->cE g=cE g':=by
 induction h with
 |done a=>
  intro v p f g' l A k s w j n;have o:f=[]:=bX (by rw[<-n.1,j.1];rfl);subst o;rw[YM l,<-qT s,<-qT w]
 | @one a b o=>
  intro v p f g' l A k s w j n;have u:f.length=1:=by rw[<-n.1,j.1,o]
  cases l with
  |done=>simp at u
  |one=>rfl
  |step h=>omega
 | @step a b q r g m o h t G=>
  intro v p f g' l A k s w j n;have u:1<f.length:=by rw[<-n.1,j.1];exact o
  have C:b≠[]:=fun e=>by rw[e] at o;simp at o
  cases l with
  |done=>simp at u
  |one h=>omega
  | @step _ _ L M _ K _ l J=>
   obtain⟨Q,R,x⟩:∃Q R,DivQ A k Q R:=by
    obtain⟨H, -,c,E,y⟩:=s;obtain⟨I, -,d,F,z⟩:=j;have:A=aT c a:=oR (by rw[fX];exact H) (fun i=>by rw[y,dS]);rw[this];have:k=aT d b:=oR (by rw[fX];exact I) (fun i=>by rw[z,dS]);rw[this];exact JT h ⟨E,F⟩
   have D:f≠[]:=fun e=>by rw[e] at u;simp at u
   exact G J j n (nM (CT s j C h x)) (nM (CT w n D l x))
def Prp.eq_smul(h:Prp A a):∃c,c≠0∧A=aT c a:=by
 obtain⟨e, -,c,d,b⟩:=h;exact⟨c,d,oR (by rw[fX];exact e) (fun i=>by rw[b,dS])⟩
def XG{c c':Rat}(h:aT c w=aT c' w'):aT c (bB w)=aT c' (bB w'):=by
 have b:w.length=w'.length:=by rw[<-fX c w,h,fX]
 refine oR (by rw[fX,fX,lZ,lZ,b]) (fun i=> ?_);have a:cf (aT c w) (i+1)=cf (aT c' w') (i+1):=by rw[h]
 rw[dS,dS] at a;rw[dS,dS,sB,sB,eJ,eJ,<-azC,<-azC,a]
def CP{c:Rat}(b:c≠0)(ts:aN s)(j:aN g)(d:g≠[])(m:∀i,cf w i=conv (cf s) (cf g) i):∃f,f≠0∧DivQ (aT c w) (cE g) (aT f s) []:=by
 have h:=gJ ((dR d).1 j);refine⟨c*((cf g (g.length-1):Int):Rat),m6 b h,fun i=> ?_,CQ (.inl (m6 b h)) ts,(fun a l=>by simp at l),by rw[(uD j).1];exact List.length_pos_iff.2 d⟩;have e:∀k,cf (cE g) k=(1/((cf g (g.length-1):Int):Rat))*cf g k:=fun k=>by unfold cE;rw[xN];grind
 rw[eR,bx3,gL (dS _ s) e,eI,rF,dS,<-oD,<-m i];grind
def Sqp.unique{r:Nat}{p:List Int}(h:Sqp B w s)(a:Sqp r w' p)(b:Prp A w)(d:Prp A w'):cE s=cE p:=by
 obtain⟨g,u,i,q, -, -,D⟩:=h.out;obtain⟨M,v,C,J, -, -,E⟩:=a.out;obtain⟨c,m,e⟩:=b.eq_smul;obtain⟨K,n,l⟩:=d.eq_smul;have x:=XG (e.symm.trans l);have I:Prp (aT c (bB w)) (bB w):=jY m (lE b.2.1);have p2:Prp (aT c (bB w)) (bB w'):=by rw[x];exact jY n (lE d.2.1)
 have F:=XF u v b d (nM I) (nM p2);obtain⟨f,y,j⟩:=CP m h.ts q i D;obtain⟨L,z,k⟩:=CP n a.ts J C E;rw[<-e] at j;rw[<-l,<-F] at k;have o:=uD q;obtain⟨t, -⟩:=j.unique k (o.ne i) (by rw[o.1];exact List.length_pos_iff.2 i);have G:=qT (jY y h.ts);have H:=qT (jY z a.ts);rw[<-G,<-H];exact congrArg oQ t
end Go.Proofs.YtjgbleapffgbcaaGreatDoor
namespace Go.Proofs.YtjgbleapffgbcaaGreatDoor
open Go.RowKit Sos Tryz
def eyZ(a:List (List UInt8))(v:Value)(w:World)(f:Glob w)(hv:StrsAt w v a)(o:a.length<=1073741824)(p:∀l∈a,l.length<=1073741824)(K:Nat)(k:∀q∈aU a,RL K q)(m:K<=1073741824):
  Calls prog 14 #[v] w (X4 w a):=by
 obtain⟨A,c,rfl,B⟩:=hv.form;have r:=VS a;go_enter func14,ntmps14;go_wp2_with fail;refine(T0 a _ _ f hv o p).mono ?_;rintro x u ⟨t,rfl,b,d⟩;cases ha:a.all rd with
 |false=>
  have e:Hid (¬a.all rd=true):=by unfold Hid;rw[ha];simp
  clear ha b;go_wp2;go_ret2;unfold X4;rw[if_neg e.out];exact⟨_,rfl,StrsAt.nil _ _ _,d⟩
 |true=>
  have e:=aB ha;replace b:=b ha;have s:=dxT (aU a) t u (f.be d) b K k m (by omega);clear ha r;go_wp2_with fail;refine s.mono ?_;rintro y D ⟨C,g,j,n⟩;generalize h:(if (aW aV (aU a)).length<=65 then (0:Int) else 2)=z at g;subst g;have i:=aB h;clear h;go_wp2;go_ret2;unfold X4;rw[if_pos e.out];unfold nQ;rw[i.out];exact⟨_,rfl,j,aC d n⟩
def tV(p:List Rat)(i:Nat):cf (fW p) i=cf p (i+1)*((i+1:Nat):Rat):=by
 unfold fW;rw[qA];split
 ·rfl
 ·rw[bV (l:=p) (by omega),aqQ]
def pL{ns:List Int}{K:Nat}(a:∀n∈ns,nl n.natAbs<=K)(b:ns.length<=1073741824):∀n∈bB ns,nl n.natAbs<=K+1:=fun n hn=>by
 unfold bB at hn;obtain⟨i,hi,rfl⟩:=List.mem_map.1 hn;have:=List.mem_range.1 hi;exact gT _ _ _ _ (iU a _) (cJ (by rw[show((i:Int)+1).natAbs=i+1 by omega];unfold BN;omega))
end Go.Proofs.YtjgbleapffgbcaaGreatDoor
namespace Go.Proofs.YtjgbleapffgbcaaGreatDoor
open Sos
variable{a b g r s w w' z:List Int}{A d f h u:List Rat}{B K L T j k m0:Nat}{m n:Int}{c c':List (List Int)}{R e:Rat}
def DQ{l:List Rat}:(∀x,aI l x=0)->∀i,cf l i=0:=by
 induction l with
 |nil=>exact fun _ i=>eR i
 |cons a l z=>
  intro h;have g:a=0:=by have:=h 0;rw[kT,dU,bxT] at this;exact this
  have d:∀x,x≠0->aI l x=0:=fun x b=>by
   have:=h x;rw[kT,g,bx3] at this;exact(Rat.mul_eq_zero.1 this).resolve_right b
  have o:aI l 0=0:=by
   obtain⟨M,C,q⟩:=axR l (R:=1) (by decide);have A:∀v:Rat,aI l 0=v->∀x,0<x->x<=1->ab v (M*x):=fun v hv x b c=>by
    have:=q 0 x (by constructor<;>decide) ⟨by grind,c⟩ (az6 b);rw[d x (by grind),hv] at this;have e:x-0=x:=by grind
    rw[e] at this;have:=this.neg;have n: -(0-v)=v:=by grind
    rwa [n] at this
   obtain⟨v,hv⟩:∃v,aI l 0=v:=⟨_,rfl⟩;rw[hv];have k:=A v hv;have f:0<M+1:=by grind
   have m:∀u:Rat,0<u->(∀x,0<x->x<=1->u<=M*x)->False:=fun u E j=>by
    obtain⟨y,t,s⟩:∃y,0<y∧y*(M+1)=u/2:=⟨u/2/(M+1),by rw[azE];exact azA (by grind) (Rat.inv_pos.2 f),gW (by grind)⟩;by_cases w:y<=1
    ·have:=j y t w;have e:y*(M+1)=M*y+y:=by grind
     rw[e] at s;grind
    ·have B:=j 1 (by decide) (by decide);have:=cA (show 0<=y-1 by grind) (az6 f);grind
   rcases iY v with D|h|r
   ·exact(m (-v) (by grind) (fun x b c=>by have:=(k x b c).1;grind)).elim
   ·exact h
   ·exact(m v r (fun x b c=>(k x b c).2)).elim
  have p:∀x,aI l x=0:=fun x=>by
   by_cases b:x=0
   ·rw[b];exact o
   ·exact d x b
  intro i;cases i with
  |zero=>exact g
  |succ i=>exact z p i
def LL{a b:List Rat}(h:∀x,aI a x=aI b x)(i:Nat):cf a i=cf b i:=by
 have:=DQ (l:=j0 a (b.map (fun q=>(-1)*q))) (fun x=>by rw[lG,iI,h];grind) i;rw[DP,mG (fun q=>(-1)*q) (dU _)] at this;generalize cf a i=p at *;generalize cf b i=q at *;clear h;grind
def axS{a b:List Rat}(h:∀i,cf a i=cf b i)(x:Rat):bM a x=bM b x:=by
 rw[qW,qW];exact oT (fun i=>by rw[tV,tV,h]) x
def axT(a:List Rat):∀(b:List Rat) (x:Rat),bM (j0 a b) x=bM a x+bM b x:=by
 induction a with
 |nil=>intro b x;show bM b x=0+bM b x;rw[bxT]
 |cons p a c=>
  intro b x;cases b with
  |nil=>show bM (p :: a) x=bM (p :: a) x+0;rw[bx3]
  |cons q b=>
   show bM (j0 a b) x*x+aI (j0 a b) x=(bM a x*x+aI a x)+(bM b x*x+aI b x)
   rw[c,lG];grind
def axU(c:Rat)(l:List Rat)(x:Rat):bM (l.map (fun q=>c*q)) x=c*bM l x:=by
 induction l with
 |nil=>show(0:Rat)=c*0;rw[dU]
 |cons a l b=>
  show bM (l.map (fun q=>c*q)) x*x+aI (l.map (fun q=>c*q)) x=c*(bM l x*x+aI l x)
  rw[b,iI];grind
def LM(q b:List Rat)(x:Rat):bM (fG q b) x=bM q x*aI b x+aI q x*bM b x:=by
 induction q with
 |nil=>show(0:Rat)=0*aI b x+0*bM b x;grind
 |cons a q c=>
  show bM (j0 (b.map (fun y=>a*y)) (0 :: fG q b)) x=(bM q x*x+aI q x)*aI b x+(aI q x*x+a)*bM b x
  rw[axT,axU];show a*bM b x+(bM (fG q b) x*x+aI (fG q b) x)=_
  rw[c,fY];grind
def uV(h:∀x,aI f x=aI u x*aI d x)(x:Rat):bM f x=bM u x*aI d x+aI u x*bM d x:=by
 rw[<-LM];exact axS (fun i=>LL (fun y=>by rw[h,fY]) i) x
def DvE(f:Rat->Rat)(d:List Rat):Prop:=∃u:List Rat,∀x,f x=aI u x*aI d x
def DvE.lin{f g:Rat->Rat}(h:DvE f d)(k:DvE g d)(c:Rat)(q:List Rat):DvE (fun x=>c*f x+aI q x*g x) d:=by
 obtain⟨u,a⟩:=h;obtain⟨v,hv⟩:=k;exact⟨j0 (u.map (fun y=>c*y)) (fG q v),fun x=>by rw[lG,iI,fY];show c*f x+aI q x*g x=_;rw[a,hv];grind⟩
def DvE.congr{f g:Rat->Rat}(h:DvE f d)(e:∀x,g x=f x):DvE g d:=by
 obtain⟨u,a⟩:=h;exact⟨u,fun x=>by rw[e,a]⟩
def aX(a:List Int)(x:Rat):Rat:=aI (aT 1 a) x
def sH{A Q B C:List Int}(h:∀i,m*cf A i=conv (cf Q) (cf B) i+cf C i)(x:Rat):(m:Rat)*aX A x=aX Q x*aX B x+aX C x:=by
 unfold aX;rw[<-iI];refine axP (fun i=> ?_) x;rw[mG (fun q=>(m:Rat)*q) (dU _),dS,dS,gL (dS 1 Q) (dS 1 B),eI,rF,<-oD];have:=h i;have a:((m*cf A i:Int):Rat)=((conv (cf Q) (cf B) i+cf C i:Int):Rat):=by rw[this]
 rw[eJ,aqE] at a;grind
def DR{c:Rat}(h:∀i,((cf a i:Int):Rat)=c*cf b i)(x:Rat):aX a x=c*aX b x:=by
 unfold aX;rw[<-iI];refine oT (fun i=> ?_) x;rw[mG (fun q=>c*q) (dU _),dS,dS,h];grind
def pR(r:List Int)(x:Rat):aX r x=((bC r:Int):Rat)*aX (aS r) x:=DR (fun i=>by rw[<-lW r i,eJ,byD]) x
def DS(x:Rat):aX [] x=0:=rfl
def axV(h:Euc B a b g):aN b->∀d,DvE (aX a) d->DvE (aX b) d->DvE (aX g) d:=by
 induction h with
 |done a=>exact fun _ d h _=>h
 | @one a b i=>
  intro k d _ h;obtain⟨y,rfl⟩:=List.length_eq_one_iff.1 i;have z:=gJ (k y rfl);obtain⟨u,p⟩:=h;refine⟨u.map (fun q=>(1/(y:Rat))*q),fun x=> ?_⟩;have c:=p x;have e:aX [y] x=y:=by show(0:Rat)*x+1*(y:Rat)=y;grind
  have l:aX [1] x=1:=by show(0:Rat)*x+1*((1:Int):Rat)=1;rw[bxS];grind
  rw[e] at c;rw[l,iI,azC,<-c];grind
 | @step a b q r g m i h t s=>
  intro k d n j;refine s (Q5 h.r_trim) d j ?_;by_cases f:r=[]
  ·have o:aS r=[]:=bX (by rw[dF,f];rfl);rw[o];exact⟨[],fun x=>by show(0:Rat)=0*_;grind⟩
  ·have w:=gJ (nI h.r_trim f)
   obtain⟨v,hv⟩:=(n.lin j (m:Rat) (aT (-1) q)).congr (g:=aX r) (fun x=>by
    have:=sH h.id_ x;have e:aI (aT (-1) q) x= -aX q x:=by rw[uA,aX,uA];grind
    rw[e];grind)
   refine⟨v.map (fun q=>(1/((bC r:Int):Rat))*q),fun x=> ?_⟩;have c:=hv x;rw[pR] at c;rw[iI,azC,<-c];grind
def fJ(h:List Rat):Nat->List Rat
 |0=>[1]
 |n+1=>fG (fJ h n) h
def LN(h:List Rat)(n:Nat)(x:Rat):aI h x*bM (fJ h n) x=(n:Rat)*aI (fJ h n) x*bM h x:=by
 induction n with
 |zero=>show aI h x*(0*x+0)=((0:Nat):Rat)*_*_;rw[show((0:Nat):Rat)=0 from rfl];grind
 |succ n a=>
  show aI h x*bM (fG (fJ h n) h) x=((n+1:Nat):Rat)*aI (fG (fJ h n) h) x*bM h x
  rw[LM,fY,Rat.natCast_add,show((1:Nat):Rat)=1 from rfl];generalize bM (fJ h n) x=p at *;generalize aI (fJ h n) x=q at *;generalize aI h x=y at *;have:y*(p*y+q*bM h x)=y*p*y+y*q*bM h x:=by grind
  rw[this,a];grind
def axW(d:cf h L≠0)(c:∀i,L<i->cf h i=0)(n:Nat):cf (fJ h n) (n*L)≠0∧∀i,n*L<i->cf (fJ h n) i=0:=by
 induction n with
 |zero=>exact⟨by rw[azW];show(1:Rat)≠0;decide,fun i a=>by show cf [1] i=0;exact bV (by show 1<=i;omega)⟩
 |succ n b=>
  rw[aqA,aqD];refine⟨?_,fun i a=> ?_⟩
  ·show cf (fG (fJ h n) h) (n*L+L)≠0
   rw[uU,p5 b.2 c];exact m6 b.1 d
  ·show cf (fG (fJ h n) h) i=0
   rw[uU];exact rG (m:=n*L+1) (n:=L+1) (fun i a=>b.2 i (by omega)) (fun i a=>c i (by omega)) (by omega)
def axX(f:g≠[])(t:aN g)(j:1<=L)(l:cf h L≠0)(q:∀i,L<i->cf h i=0):¬∀n,DvE (aX g) (fJ h n):=fun m=>by
 obtain⟨c,o⟩:=m g.length;have b:∀i,cf (aT 1 g) i=conv (cf (aW aV c)) (cf (fJ h g.length)) i:=fun i=>by
  rw[gL (iS c) (fun _=>rfl),<-uU];exact LL (fun x=>by rw[fY];exact o x) i
 have u:=List.length_pos_iff.2 f;have s:=jS c;generalize aW aV c=d at *;by_cases e:d=[]
 ·have:=b (g.length-1);rw[e,lK (fun k=>eR k),dS,azF] at this;exact gJ ((dR f).1 t) this
 ·have p:=(dR e).1 s;obtain⟨r,p2⟩:=axW l q g.length;have a:=b (d.length-1+g.length*L);rw[p5 (fun i hi=>bV (by omega)) p2,bV (by rw[fX];have:=by7 g.length j;omega)] at a;exact m6 p r a.symm
def yM(a:List Int)(x:Rat):aX (bB a) x=bM (aT 1 a) x:=by
 rw[qW];unfold aX;refine oT (fun i=> ?_) x;rw[dS,tV,dS,sB,eJ,azF,azF];congr 1
def axY(h:Sqp B w s)(Z:aN w)(H:DvE (aX s) d)(I:DvE (aX (bB s)) d):∀i,1<=i->cf d i=0:=by
 obtain⟨g,K,N,Y, -, -,P⟩:=h.out;obtain⟨a,f⟩:=H;obtain⟨b,M⟩:=I;have z:=lE Z;have u:∀x,aX w x=aX s x*aX g x:=fun x=>by
  have:=sH (A:=w) (Q:=s) (B:=g) (C:=[]) (m:=1) (fun i=>by rw[eR,az5,P];omega) x;rw[bxS,DS] at this;grind
 have S:∀x,bM (aT 1 s) x=bM a x*aI d x+aI a x*bM d x:=uV (fun x=>f x);have T:∀x,bM (aT 1 w) x=bM (aT 1 s) x*aX g x+aX s x*bM (aT 1 g) x:=uV (fun x=>u x);have L:∀n,DvE (aX g) (fJ d n):=fun n=>by
  induction n with
  |zero=>exact⟨aT 1 g,fun x=>by show aX g x=aX g x*(0*x+1);grind⟩
  |succ n U=>
   obtain⟨c,k⟩:=U;have O:∀x,bM (aT 1 g) x=bM c x*aI (fJ d n) x+aI c x*bM (fJ d n) x:=uV (fun x=>k x);refine axV K (Q5 z) _ ⟨fG a c,fun x=> ?_⟩ ?_
   ·show aX w x=aI (fG a c) x*aI (fG (fJ d n) d) x
    rw[u,f,k,fY,fY];grind
   ·have J:DvE (aX (bB w)) (fJ d (n+1)):=by
     refine⟨j0 (fG b c) (j0 (fG a (fW c)) ((fG c (j0 b ((fW a).map (fun y=>(-1)*y)))).map (fun y=>(n:Rat)*y))),fun x=> ?_⟩;show _=_*aI (fG (fJ d n) d) x
     have e1:=S x;have D:=T x;have E:=O x;have F:=LN d n x;have o:=M x;have p:=f x;have G:=k x;rw[yM] at o;rw[yM,lG,lG,iI,fY,fY,fY,fY,lG,iI,<-qW,<-qW];have V:aI a x*bM d x=aI b x*aI d x-bM a x*aI d x:=by grind
     have W:aX s x*(aI c x*bM (fJ d n) x)=aI a x*aI c x*((n:Rat)*aI (fJ d n) x*bM d x):=by rw[<-F,p];grind
     have X:aI a x*aI c x*((n:Rat)*aI (fJ d n) x*bM d x)=aI c x*(n:Rat)*aI (fJ d n) x*(aI b x*aI d x-bM a x*aI d x):=by rw[<-V];grind
     rw[D,E,Rat.mul_add,W,X,o,G,p];grind
    by_cases r:bB w=[]
    ·have R:aS (bB w)=[]:=bX (by rw[dF,r];rfl);rw[R];exact⟨[],fun x=>by show(0:Rat)=0*_;grind⟩
    ·have ac:=gJ (nI z r);obtain⟨v,hv⟩:=J;refine⟨v.map (fun q=>(1/((bC (bB w):Int):Rat))*q),fun x=> ?_⟩;have e:=hv x;rw[pR] at e;rw[iI,azC,<-e];grind
 intro i hi;by_cases l:aW aV d=[]
 ·rw[<-iS d i,l,eR]
 ·have hl:=List.length_pos_iff.2 l;have t:=(dR l).1 (jS d);rw[iS] at t;rcases dE 1 (aW aV d).length with e|e
  ·exact absurd L (axX N Y (show 1<=(aW aV d).length-1 by omega) t (fun j hj=>by rw[<-iS d j];exact bV (by omega)))
  ·rw[<-iS d i];exact bV (by omega)
def qU(n:Int): -1<=n.sign∧n.sign<=1:=by
 rcases aqL n 0 with h|h|h
 ·rw[aqT h];decide
 ·rw[h];decide
 ·rw[aqI h];decide
def YT(a:List Int)(i:Int)(x:Rat): -1<=aP a i x∧aP a i x<=1:=by
 have b:=qU (fE a x.num x.den);have c:=qU (cf a (a.length-1));unfold aP;split
 ·exact b
 ·split<;>omega
def KD{α:Type}(f:α->Int){b:List α}{a:α}(h:b[j]? =some a)(l:Int):aY l ((b.drop j).map f)=if f a=0 then aY l ((b.drop (j+1)).map f) else (if l≠0∧f a≠l then 1 else 0)+aY (f a) ((b.drop (j+1)).map f):=by
 obtain⟨c,rfl⟩:=List.getElem?_eq_some_iff.1 h;rw[j5 c];rfl
def YU{b a c:Nat}(h:(K+1)*(b-a+2)*3^(a-1)<=B)(k:c<a)(j:a<=b)(i:c≠0):(K+(b+1-a)*(K+1)+1)*(a-c+2)*3^(c-1)<=B:=by
 have e:K+(b+1-a)*(K+1)+1=(K+1)*(b-a+2):=by
  rw[show b+1-a=b-a+1 by omega,aqA (b-a) 1 (K+1),iL (K+1) (b-a) 2,dN (b-a) (K+1)];omega
 have f:a-1=(a-c)+(c-1):=by omega
 have g:=JZ (d:=a-c) (by omega);rw[f,KF,<-iW] at h;rw[e];exact aH (dK _ (eV _ g)) h
def YV{b a:Nat}(h:(K+1)*(b-a+2)*3^(a-1)<=B)(d:a<=b):K+(b+1-a)*(K+1)+1<=B:=by
 have c:K+(b+1-a)*(K+1)+1=(K+1)*(b-a+2):=by
  rw[show b+1-a=b-a+1 by omega,aqA (b-a) 1 (K+1),iL (K+1) (b-a) 2,dN (b-a) (K+1)];omega
 rw[c];exact aH (by7 _ (d7 (by decide))) h
def YW(e:aN r)(d:∀n∈r,nl n.natAbs<=K):aN (if 0<m then (aS r).map (·*(-1)) else aS r)∧(∀n∈(if 0<m then (aS r).map (·*(-1)) else aS r),nl n.natAbs<=K)∧(if 0<m then (aS r).map (·*(-1)) else aS r).length=r.length:=by
 have b:=Q5 e;have a:=gU d;split
 ·refine⟨xM (by decide) b,fun n hn=> ?_,by rw[cH,dF]⟩;obtain⟨k,c,rfl⟩:=List.mem_map.1 hn;rw[fL];simpa using a k c
 ·exact⟨b,a,dF r⟩
def StT.mem(h:StT K a b c):aN b->(∀n∈b,nl n.natAbs<=K)->∀x∈c,x≠[]∧aN x∧x.length<=b.length∧∀n∈x,nl n.natAbs<=K:=by
 induction h with
 |done a=>intro _ _ x d;cases d
 |step e h t k=>
  intro q l x d;rcases List.mem_cons.1 d with rfl|d
  ·exact⟨e,q,aE,l⟩
  ·obtain⟨m,o,p⟩:=YW h.r_trim h.br;obtain⟨f,g,i,j⟩:=k m o x d;have:=h.r_lt;rw[p] at i;exact⟨f,g,by omega,j⟩
def StT.len(h:StT K a b c):c.length<=b.length:=by
 induction h with
 |done a=>exact mC 0
 | @step a b q r m c f h t e=>
  have:=h.r_lt;have d:(if 0<m then (aS r).map (·*(-1)) else aS r).length=r.length:=by
   split
   ·rw[cH,dF]
   ·exact dF r
  rw[d] at e;rw[eG];omega
def Sz(s:List Int):Prop:=s.length<=7∧((∀n∈s,nl n.natAbs<=9)∨s.length<=6∧∀n∈s,nl n.natAbs<=150)
def Sz.nums(h:Sz s):∀n∈s,nl n.natAbs<=150:=fun n hn=>by
 rcases h.2 with k|k
 ·exact aH (k n hn) (by decide)
 ·exact k.2 n hn
def Sz.ex(h:Sz s):∃K,(∀n∈s,nl n.natAbs<=K)∧1<=K∧K<=150∧(K+2)*3*3^(s.length-2)<=110079:=by
 rcases h.2 with k|k
 ·refine⟨9,k,by decide,by decide,aH (eV _ (cO (by decide) (show s.length-2<=5 by have:=h.1;omega))) (by decide)⟩
 ·exact⟨150,k.2,by decide,by decide,aH (eV _ (cO (by decide) (show s.length-2<=4 by omega))) (by decide)⟩
def DK(l:List Rat){B:Rat}(m:0<=B)(s:0<=R)(h:∀q∈l,ab q B):(∀x,ab x R->ab (aI l x) (B*(R+2)^l.length))∧(∀x,ab x R->ab (bM l x) (B*(R+2)^l.length))∧(∀x y,ab x R->ab y R->x<=y->ab (aI l y-aI l x) (B*(R+2)^l.length*(y-x)))∧(∀x y,ab x R->ab y R->∃r,ab r (B*(R+2)^l.length)∧aI l y=aI l x+(y-x)*(bM l x+(y-x)*r)):=by
 induction l with
 |nil=>
  have i:ab 0 (B*(R+2)^([]:List Rat).length):=by
   rw[azS,azM,aqP];constructor<;>grind
  refine⟨fun x _=>i,fun x _=>i,fun x y _ _ n=> ?_,fun x y _ _=>⟨0,i,by show(0:Rat)=0+(y-x)*(0+(y-x)*0);grind⟩⟩;show ab (0-0) _
  rw[azS,azM,aqP];have:=cA m (show 0<=y-x by grind);constructor<;>grind
 |cons a l z=>
  obtain⟨d,f,j,k⟩:=z (fun q v=>h q (j8 _ v));have t:=h a iC;have u:=hJ (Z:=R+2) (by grind) l.length;rw[eG,azH];obtain⟨W,g⟩:∃W,B*(R+2)^l.length=W:=⟨_,rfl⟩;have D:B<=W:=by
   have:=cA m (show 0<=(R+2)^l.length-1 by grind);grind
  rw[<-azC,g];rw[g] at d f j k;clear g u;have E:0<=W*R:=cA (by grind) s;have e:W*(R+2)=W*R+W+W:=by grind
  rw[e];refine⟨fun x b=> ?_,fun x b=> ?_,fun x y b c n=> ?_,fun x y b c=> ?_⟩
  ·rw[kT];exact(((d x b).mul b).add t).mono (by grind)
  ·show ab (bM l x*x+aI l x) _
   exact(((f x b).mul b).add (d x b)).mono (by grind)
  ·have o:aI (a :: l) y-aI (a :: l) x=(aI l y-aI l x)*y+aI l x*(y-x):=by rw[kT,kT];grind
   rw[o];have A:=(j x y b c n).mul c;have C:ab (aI l x*(y-x)) (W*(y-x)):=(d x b).mul ⟨by grind,by grind⟩;have F:=cA (show 0<=W by grind) (show 0<=y-x by grind);exact(A.add C).mono (by grind)
  ·obtain⟨r,w,p⟩:=k x y b c;refine⟨r*y+bM l x,((w.mul c).add (f x b)).mono (by grind),?_⟩;show aI l y*y+a=aI l x*x+a+(y-x)*(bM l x*x+aI l x+(y-x)*(r*y+bM l x))
   rw[p];grind
def wq(k:Nat):Rat:=(((2:Int)^(64*k):Int):Rat)
def yJ(h:nl n.natAbs<=k):ab (n:Rat) (wq k):=by
 have a:=aZ (cyD n.natAbs) (cO (by unfold BN;decide) h);have b:(n.natAbs:Int)<(2:Int)^(64*k):=by
  have e:((2:Nat)^(64*k):Nat)=BN^k:=by rw[azL];rfl
  have:((n.natAbs:Nat):Int)<((BN^k:Nat):Int):=by exact_mod_cast a
  rw[<-e] at this;exact_mod_cast this
 unfold wq;constructor
 ·have: -((2:Int)^(64*k))<=n:=by omega
  rw[<-bx4];exact_mod_cast this
 ·have:n<=(2:Int)^(64*k):=by omega
  exact_mod_cast this
def uQ(a:List Int)(x:Rat):aX a x=aI (aT 1 a) x:=rfl
def DL(h:∀n∈a,nl n.natAbs<=k):∀q∈aT 1 a,ab q (wq k):=fun q b=>by
 obtain⟨n,hn,rfl⟩:=List.mem_map.1 b;rw[azF];exact yJ (h n hn)
def axC(h:StT K a b c):∃z,(a :: c).getLast?=some z∧DvE (aX a) (aT 1 z)∧DvE (aX b) (aT 1 z):=by
 induction h with
 |done a=>exact⟨a,rfl,⟨[1],fun x=>by rw[uQ];show _=(0*x+1)*_;grind⟩,⟨[],fun x=>by show(0:Rat)=0*_;grind⟩⟩
 | @step a b q r m c A h t w=>
  obtain⟨z,s,f,n⟩:=w;refine⟨z,by rw[bxY];exact s,?_,f⟩;have o:=gJ h.m0;have p:DvE (aX r) (aT 1 z):=by
   obtain⟨u,d⟩:=n;by_cases j:0<m
   ·rw[if_pos j] at d;refine⟨u.map (fun y=>(-((bC r:Int):Rat))*y),fun x=> ?_⟩;have e:=d x;have l:aX ((aS r).map (·*(-1))) x= -1*aX (aS r) x:=DR (c:= -1) (fun i=>by rw[mG (·*(-1)) (by decide),eJ];have:((-1:Int):Rat)= -1:=rfl;rw[this];grind) x;rw[pR,iI];rw[l] at e;grind
   ·rw[if_neg j] at d;refine⟨u.map (fun y=>((bC r:Int):Rat)*y),fun x=> ?_⟩;have e:=d x;rw[pR,iI];grind
  obtain⟨v,hv⟩:=(p.lin f 1 (aT 1 q)).congr (g:=fun x=>(m:Rat)*aX a x) (fun x=>by
   have:=sH h.id_ x;rw[this,uQ q];grind)
  refine⟨v.map (fun y=>(1/(m:Rat))*y),fun x=> ?_⟩;have e:=hv x;have k:(m:Rat)*aX a x=aI v x*aI (aT 1 z) x:=e;rw[iI];have:(1/(m:Rat))*((m:Rat)*aX a x)=aX a x:=by rw[<-azC,gW o,azF]
  rw[<-this,k];grind
def axD(g:z≠[])(j:aN z)(h:∀i,1<=i->cf z i=0)(x:Rat):big 1 (aX z x):=by
 have c:cf z (z.length-1)≠0:=(dR g).1 j;have d:cf z 0≠0:=by
  by_cases f:z.length-1=0
  ·rwa [f] at c
  ·exact absurd (h _ (by omega)) c
 have e:aX z x=((cf z 0:Int):Rat):=by
  rw[uQ,oT (b:=[((cf z 0:Int):Rat)]) (fun i=> ?_)]
  ·show(0:Rat)*x+_=_;grind
  ·rw[dS,azF];cases i with
   |zero=>rfl
   |succ i=>rw[h (i+1) (by omega),bV (l:=[((cf z 0:Int):Rat)]) (by simp)];rfl
 rw[e];rcases Int.lt_or_gt_of_ne d with h|h
 ·exact .inr (by
   have:cf z 0<= -1:=by omega
   have a:((cf z 0:Int):Rat)<=((-1:Int):Rat):=by exact_mod_cast this
   exact a)
 ·exact .inl (by
   have:1<=cf z 0:=by omega
   have a:((1:Int):Rat)<=((cf z 0:Int):Rat):=by exact_mod_cast this
   exact a)
structure Cn(B:Nat)(w s:List Int)(c:List (List Int)):Prop where
 sq:Sqp B w s
 st:StT B s (aS (bB s)) c
def fF(s:List Int)(c:List (List Int))(i:Int)(x:Rat)(j:Int)(y:Rat):Int:=(aY 0 ((s :: c).map (fun a=>aP a i x)):Int)-(aY 0 ((s :: c).map (fun a=>aP a j y)):Int)
def pN(s:List Int):cE s=aT (1/((cf s (s.length-1):Int):Rat)) s:=oR (by rw[fX];exact cH _) (fun i=>by rw[dS];unfold cE;rw[xN];grind)
def CN(f:Rat)(s:List Int):fW (aT f s)=aT (f*((bC (bB s):Int):Rat)) (aS (bB s)):=by
 refine oR (by rw[fX,dF,lZ,qO,fX]) (fun i=> ?_);have h:=lW (bB s) i;have a:(((cf (aS (bB s)) i:Int):Rat))*((bC (bB s):Int):Rat)=((cf s (i+1):Int):Rat)*((i+1:Nat):Rat):=by
  rw[<-eJ,h,sB,eJ];congr 1
 rw[tV,dS,dS,azC f _ ((i+1:Nat):Rat),<-a];grind
def Cn.rat(h:Cn B w s c)(i:1<=B):∃C,ChT B s (1/((cf s (s.length-1):Int):Rat)) (aS (bB s)) (1/((cf s (s.length-1):Int):Rat)*((bC (bB s):Int):Rat)) C∧All2 (Sg ((cf s (s.length-1):Int):Rat)) (cE s :: C) (s :: c):=by
 have l:=gJ ((dR h.sq.ne).1 h.sq.ts);have a:0<((cf s (s.length-1):Int):Rat)*(1/((cf s (s.length-1):Int):Rat)):=by
  have:((cf s (s.length-1):Int):Rat)*(1/((cf s (s.length-1):Int):Rat))=1:=by grind
  rw[this];decide
 obtain⟨C,b,d⟩:=XJ h.st ((cf s (s.length-1):Int):Rat) i _ (1/((cf s (s.length-1):Int):Rat)*((bC (bB s):Int):Rat)) a (fun j=>by
  have f:bB s≠[]:=fun e=>j (bX (by rw[dF,e];rfl));have k:=nI (lE h.sq.ts) f;have g:0<((bC (bB s):Int):Rat):=by
   have:(0:Int)<(bC (bB s):Int):=by omega
   exact_mod_cast this
  rw[<-azC];exact azA a g) (Q5 (lE h.sq.ts))
 exact⟨C,b,.cons ⟨h.sq.ne,h.sq.ts,_,a,pN s⟩ d⟩
def Sg.zero(h:Sg e A a)(i:Int)(x:Rat):cyE A i x=0↔aP a i x=0:=by
 obtain⟨-, -,f,b,rfl⟩:=h;rcases iY f with k|k|k
 ·rw[xU k];omega
 ·exact absurd k (nK b)
 ·rw[uB k]
def Cn.both{b:Nat}{f:List Int}(h:Cn B w s c)(d:Cn b w' f c')(n:1<=B)(o:1<=b)(l:Prp A w)(m:Prp A w'):∃C e k,All2 (Sg e) C (s :: c)∧All2 (Sg k) C (f :: c'):=by
 have a:=h.sq.unique d.sq l m;obtain⟨C,p,i⟩:=h.rat n;obtain⟨g,q,j⟩:=d.rat o;have e:C=g:=p.unique q (by rw[<-pN,<-pN,a]) (by rw[<-CN,<-CN,<-pN,<-pN,a]);exact⟨_,_,_,i,by rw[a,e];exact j⟩
def Cn.same{d:Nat}(h:Cn B w s c)(j:Cn d w' b c')(o:1<=B)(p:1<=d)(m:Prp A w)(n:Prp A w')(i:Int)(x:Rat):aY 0 ((s :: c).map (fun a=>aP a i x))=aY 0 ((b :: c').map (fun a=>aP a i x))∧(aP s i x=0↔aP b i x=0):=by
 obtain⟨C,e,q,f,g⟩:=h.both j o p m n;refine⟨by rw[<-xV f,xV g],?_⟩;cases f with
 |cons k _=>cases g with
  |cons l _=>exact(k.zero i x).symm.trans (l.zero i x)
def Cn.unique{a:Nat}{k:List Int}(h:Cn B w s c)(b:Cn a w' k c')(f:1<=B)(g:1<=a)(d:Prp A w)(e:Prp A w')(i:Int)(x:Rat)(j:Int)(y:Rat):fF s c i x j y=fF k c' i x j y:=by
 unfold fF;rw[(h.same b f g d e i x).1,(h.same b f g d e j y).1]
def MI(h:Prp A w):Prp (fW A) (aS (bB w))∧aW aV (fW A)=fW A:=by
 obtain⟨c,a,rfl⟩:=h.eq_smul
 have e:fW (aT c w)=aT c (bB w):=oR (by rw[qO,fX,fX,lZ]) (fun i=>by
  rw[tV,dS,dS,sB,eJ,azC];congr 2)
 have p:=jY a (lE h.2.1);rw[e];exact⟨nM p,qB p.trim⟩
def czI{xs ys q:List Int}(h:YL q ys r xs m 4=true)(g:xs.length<=4∧r.length<=4∧q.length+ys.length<=5)(b:m=1)(d:r.length<ys.length)(e:aN q)(f:aN r)(c:q.length<=xs.length)(k:∀n∈q++r,nl n.natAbs<=1):PQRes xs ys 1 m q r:=by
 subst b;refine⟨fun i=> ?_,by decide,d,e,f,c,⟨0,dC _,by rw[Int.pow_zero]⟩,fun n hn=>k n (bzP _ hn),fun n hn=>k n (bzQ _ hn),cJ (m:=1) (by unfold BN;decide)⟩;by_cases a:i<4
 ·exact of_decide_eq_true ((List.all_eq_true.1 h) i (List.mem_range.2 a))
 ·rw[bV (by omega),bV (l:=r) (by omega),rG (m:=q.length) (n:=ys.length) (fun i a=>bV a) (fun i a=>bV a) (by omega)];rfl
def D4{n:Nat}(h:n<4):nl n<=1:=cJ (m:=1) (by unfold BN;omega)
def Z4:Sqp 1 [-2,0,1] [-2,0,1]:=by
 refine⟨⟨[1],?_,by simp,oB rfl,rfl,rfl,fun i=>by rw[CO]⟩,by simp,oB rfl⟩;have e:aS (bB [-2,0,1])=[0,1]:=by decide
 rw[e]
 refine .step (q:=[0,1]) (r:=[-2]) (m:=1) (by decide) (czI (by decide) (by decide) rfl (by decide) (oB rfl) (oB rfl) (by decide) (fun n hn=>by
  simp at hn;rcases hn with rfl|rfl|rfl<;>exact D4 (by decide))) (.one (by decide))
def KQ:Cn 1 [-2,0,1] [-2,0,1] [[0,1],[1]]:=by
 refine⟨Z4,?_⟩;have e:aS (bB [-2,0,1])=[0,1]:=by decide
 rw[e]
 refine .step (q:=[0,1]) (r:=[-2]) (m:=1) (by decide) (czI (by decide) (by decide) rfl (by decide) (oB rfl) (oB rfl) (by decide) (fun n hn=>by
  simp at hn;rcases hn with rfl|rfl|rfl<;>exact D4 (by decide))) ?_
 have a:(if (0:Int)<1 then (aS [-2]).map (·*(-1)) else aS [-2])=[1]:=by decide
 rw[a]
 refine .step (q:=[0,1]) (r:=[]) (m:=1) (by decide) (czI (by decide) (by decide) rfl (by decide) (oB rfl) (fun x c=>by cases c) (by decide) (fun n hn=>by
  simp at hn;rcases hn with rfl|rfl<;>exact D4 (by decide))) ?_
 have b:(if (0:Int)<1 then (aS []).map (·*(-1)) else aS [])=[]:=by decide
 rw[b];exact .done _
def Z5:fF [-2,0,1] [[0,1],[1]] (-1) 0 1 0=2:=by decide
def Z6:aY 0 (([-2,0,1] :: [[0,1],[1]]).map (fun a=>aP a 0 (-4)))=2∧aY 0 (([-2,0,1] :: [[0,1],[1]]).map (fun a=>aP a 0 0))=1∧aY 0 (([-2,0,1] :: [[0,1],[1]]).map (fun a=>aP a 0 4))=0:=by decide
def Z7:aP [-2,0,1] 0 (-4)=1∧aP [-2,0,1] 0 0= -1∧aP [-2,0,1] 0 4=1:=by decide
inductive ExK(K:Nat)(D:Rat->Rat->Prop)(V:Rat->Nat)(s:Rat->Int):Rat->Rat->List (Rat×Rat)->Prop
 |none {a b:Rat} (h:V a<=V b):ExK K D V s a b []
 |hit {a b:Rat} (h:V a=V b+1) (hb:s b=0):ExK K D V s a b [(b,b)]
 |one {a b:Rat} (h:V a=V b+1) (hb:s b≠0) (ha:s a≠0):ExK K D V s a b [(a,b)]
 |split {a b:Rat} {l m:List (Rat×Rat)} (h:V b<V a) (h':V a=V b+1->s b≠0∧s a=0) (hd:D a b) (hk:RL K ((a+b)/2)) (hl:ExK K D V s a ((a+b)/2) l) (hm:ExK K D V s ((a+b)/2) b m):ExK K D V s a b (l++m)
def Pw(b:Rat)(n:Nat):Prop:=b<=(((2:Int)^n:Int):Rat)∧∀m,m<n->(((2:Int)^m:Int):Rat)<b
def ExK.mono{d:Nat}{D:Rat->Rat->Prop}{V:Rat->Nat}{s:Rat->Int}{a b:Rat}{l:List (Rat×Rat)}(h:ExK K D V s a b l)(f:K<=d):ExK d D V s a b l:=by
 induction h with
 |none h=>exact .none h
 |hit h c=>exact .hit h c
 |one h c g=>exact .one h c g
 |split h e i j _ _ k m=>exact .split h e i (bU j f) k m
def y7(x y:Rat):Prop:=x.den=1∧y.den=1
def Z3{V:Rat->Nat}{s:Rat->Int}(h:V (-4)=2∧V 0=1∧V 4=0)(a:s (-4)≠0∧s 0≠0∧s 4≠0):ExK 1 y7 V s (-4) 4 [(-4,0),(0,4)]:=by
 have e:((-4:Rat)+4)/2=0:=by grind
 refine .split (l:=[(-4,0)]) (m:=[(0,4)]) (by omega) (fun b=>by omega) ⟨rfl,rfl⟩ (by rw[e];exact iG (by decide)) ?_ ?_
 ·rw[e];exact .one (by omega) a.2.1 a.1
 ·rw[e];exact .one (by omega) a.2.2 a.2.1
def yI(a:List Int)(x:Rat):sF x (aX a)=aP a 0 x:=by
 unfold sF aP;rw[if_pos rfl,JU,uQ];congr 2;exact oT (fun i=>by rw[dS,azF,mG (fun n:Int=>(n:Rat)) aq4]) x
def ax8(s:List Int)(c:List (List Int))(x:Rat):aY 0 ((aX s :: c.map aX).map (sF x))=aY 0 ((s :: c).map (fun a=>aP a 0 x)):=by
 rw[show(aX s :: c.map aX)=(s :: c).map aX from rfl,List.map_map];congr 1;exact by3 (fun a _=>yI a x)
def ax9(h:∀n∈r,nl n.natAbs<=K):ab (((bC r:Int)):Rat) (wq K):=yJ (by rw[dD];exact az4 h)
def LE(x:Rat)(m k:Nat):x^(m+k)=x^m*x^k:=by
 induction k with
 |zero=>rw[gQ,azM,aqP]
 |succ k a=>rw[Nat.add_succ,azH,azH,a,azC]
def pP(h:0<n):(1:Rat)<=(n:Rat):=by
 have:((1:Int):Rat)<=(n:Rat):=by exact_mod_cast (show(1:Int)<=n by omega)
 exact this
def axA{Q:Rat}(C:0<=R)(S:wq K*(R+2)^T<=Q)(h:StT K a b c):a.length<=T->b.length<=T->(∀z,(a :: c).getLast?=some z->∀x,big 1 (aX z x))->Chn R Q Q 1 (aX a) (c.map aX):=by
 have W:=hJ (Z:=R+2) (by grind) T;have l:0<=wq K:=by
  unfold wq;have:(0:Int)<=2^(64*K):=fP (aqH (by decide));exact_mod_cast this
 have X:wq K<=Q:=by
  have:=cA l (show 0<=(R+2)^T-1 by grind);grind
 have J:∀n,n<=T->(R+2)^n<=(R+2)^T:=fun n hn=>by
  obtain⟨k,G⟩:∃k,T=n+k:=⟨T-n,by omega⟩;rw[G,LE];have f:=hJ (Z:=R+2) (by grind) n;have B:=hJ (Z:=R+2) (by grind) k;have:=cA (show 0<=(R+2)^n by grind) (show 0<=(R+2)^k-1 by grind);grind
 induction h with
 |done a=>exact fun _ _ s=> .last (fun x _=>s a rfl x)
 | @step a b q r m c U h t y=>
  intro s H O;have w:(if 0<m then (aS r).map (·*(-1)) else aS r).length=r.length:=by
   split
   ·rw[cH,dF]
   ·exact dF r
  have o:=y H (by have:=h.r_lt;omega) (fun z P=>O z (by rw[bxY];exact P));have D:∀x,aX r x=((bC r:Int):Rat)*aX (aS r) x:=pR r;have F:r≠[]->0<(bC r:Int):=fun j=>by have:=nI h.r_trim j;omega
  have M:∀x,0<m->aX ((aS r).map (·*(-1))) x= -1*aX (aS r) x:=fun x _=>DR (c:= -1) (fun i=>by rw[mG (·*(-1)) (by decide),eJ];have:((-1:Int):Rat)= -1:=rfl;rw[this];grind) x;have hrel:r≠[]->∀x,ab x R->∃q c d,ab q Q∧1<=c∧c<=Q∧1<=d∧d<=Q∧c*aX a x=q*aX b x-d*aX (if 0<m then (aS r).map (·*(-1)) else aS r) x:=fun j x N=>by
   have e:=sH h.id_ x;have p:=F j;have V:=(ax9 h.br).2;have u:=yJ h.bm;have Y:=u.1;have m2:=u.2
   have v:ab (aX q x) Q:=((DK (aT 1 q) l C (DL h.bq)).1 x N).mono (by
    rw[fX];have f:=J q.length (by have:=h.q_len;omega);have:=cA l (show 0<=(R+2)^T-(R+2)^q.length by grind);grind)
   rw[D] at e;by_cases g:0<m
   ·rw[if_pos g,M x g];exact⟨aX q x,m,(bC r:Int),v,pP g,by grind,pP p,by grind,by grind⟩
   ·rw[if_neg g];have I:0< -m:=by have:=h.m0;omega
    have f:=pP I;rw[bx4] at f;exact⟨-aX q x, -(m:Rat),(bC r:Int),v.neg,f,by grind,pP p,by grind,by grind⟩
  rw[fM];obtain⟨A,L⟩:∃A,(if 0<m then (aS r).map (·*(-1)) else aS r)=A:=⟨_,rfl⟩;rw[L] at t hrel w;clear y;cases t with
  |done=>exact .two o
  |step E B t2=>
   refine .step (hrel (fun e=>E (bX ?_))) o;rw[w,e];rfl
def p2(j:Nat):Rat:=(((2:Int)^j:Int):Rat)
def jQ(i j:Nat):p2 (i+j)=p2 i*p2 j:=by unfold p2;rw[aqS,eJ]
def jZ(j:Nat):1<=p2 j:=pP (aqH (by decide))
def DG:p2 0=1:=rfl
def uP:p2 1=2:=rfl
def DH{i:Nat}(h:i<=j):p2 i<=p2 j:=by
 obtain⟨k,rfl⟩:∃k,j=i+k:=⟨j-i,by omega⟩;rw[jQ];have:=cA (show 0<=p2 i by have:=jZ i;grind) (show 0<=p2 k-1 by have:=jZ k;grind);grind
def DI(i l:Nat):p2 i^l=p2 (i*l):=by
 induction l with
 |zero=>rw[azM,azP,DG]
 |succ l a=>rw[azH,a,Nat.mul_succ,jQ]
def DJ(k:Nat):wq k=p2 (64*k):=rfl
def LF(h:Cn K w s c)(t:aN w)(q:∀n∈aS (bB s),nl n.natAbs<=K):∀z,(s :: c).getLast?=some z->z≠[]∧aN z∧∀i,1<=i->cf z i=0:=fun z d=>by
 have r:=Q5 (lE h.sq.ts);have b:=h.st.mem r q;obtain⟨z',f,j,k⟩:=axC h.st;obtain rfl:z'=z:=by rw[d] at f;injection f with e;exact e.symm
 obtain⟨u,o⟩:=k;have m:=axY h.sq t j ⟨u.map (fun y=>((bC (bB s):Int):Rat)*y),fun x=>by rw[pR,o,iI];grind⟩;have p:=List.mem_of_getLast? d;have g:z'≠[]∧aN z':=by
  rcases List.mem_cons.1 p with e|a
  ·rw[e];exact⟨h.sq.ne,h.sq.ts⟩
  ·exact⟨(b _ a).1,(b _ a).2.1⟩
 refine⟨g.1,g.2,fun i l=> ?_⟩;have:=m i l;rw[dS,azF] at this;exact Rat.intCast_inj.1 this
def ex8{n:Nat}(h:Cn K w s c)(tw:aN w)(q:s.length<=T+1)(C:∀n∈s,nl n.natAbs<=K)(O:∀n∈aS (bB s),nl n.natAbs<=K)(hn:(n+2)*(T+1)<=64*m0):
  Vs (p2 n) (1/p2 ((2*T+1)*(64*(K+m0))+(2*T+3))) (fun x=>aY 0 ((s :: c).map (fun a=>aP a 0 x))) (fun x=>aP s 0 x):=by
 have p:0<=p2 n:=by have:=jZ n;grind
 have td:=Q5 (lE h.sq.ts);have ld:(aS (bB s)).length<=T:=by rw[dF,lZ];omega
 have aj:=h.st.mem td O;have l:0<=wq K:=by rw[DJ];have:=jZ (64*K);grind
 have hS:p2 n+2<=p2 (n+2):=by
  have B:=jZ n;have e:p2 (n+2)=p2 n*4:=by rw[jQ];rfl
  rw[e];grind
 have am:(p2 n+2)^(T+1)<=p2 ((n+2)*(T+1)):=by
  rw[<-DI];have A:∀(x y:Rat),0<=x->x<=y->∀m:Nat,x^m<=y^m∧0<=x^m:=fun x y g J m=>by
   induction m with
   |zero=>rw[azM,azM];exact⟨byB,by decide⟩
   |succ m N=>
    rw[azH,azH];have n1:=cA (show 0<=y^m-x^m by grind) (show 0<=y by grind);have n2:=cA N.2 (show 0<=y-x by grind);exact⟨by grind,cA N.2 g⟩
  exact(A _ _ (by grind) hS (T+1)).1
 obtain⟨Q,f⟩:∃Q,p2 (64*(K+m0))=Q:=⟨_,rfl⟩;have E:wq K*(p2 n+2)^(T+1)<=Q:=by
  have B:p2 (64*K)*p2 ((n+2)*(T+1))<=Q:=by rw[<-jQ,<-f];exact DH (by omega)
  have:=cA l (show 0<=p2 ((n+2)*(T+1))-(p2 n+2)^(T+1) by grind);rw[DJ] at *;grind
 have ae:1<=Q:=by rw[<-f];exact jZ _
 have I:∀m,m<=T+1->wq K*(p2 n+2)^m<=Q:=fun m hm=>by
  obtain⟨k,hk⟩:∃k,T+1=m+k:=⟨T+1-m,by omega⟩;rw[hk,LE] at E;have B:=hJ (Z:=p2 n+2) (by grind) m;have h2:=hJ (Z:=p2 n+2) (by grind) k;have:=cA (cA l (show 0<=(p2 n+2)^m by grind)) (show 0<=(p2 n+2)^k-1 by grind);grind
 have ah:∀x,aX (bB s) x=((bC (bB s):Int):Rat)*aX (aS (bB s)) x:=pR _;have ai:∀z,(s :: c).getLast?=some z->∀x,big 1 (aX z x):=fun z j x=>by
  obtain⟨z0,tz,hc⟩:=LF h tw O z j;exact axD z0 tz hc x
 have ag:=axA p E h.st q (by omega) ai;have ac:∀G∈aX s :: c.map aX,uR (p2 n) Q G:=fun G o x y u v J=>by
  have j:∃z,G=aX z∧z.length<=T+1∧∀n∈z,nl n.natAbs<=K:=by
   rcases List.mem_cons.1 o with e|o
   ·exact⟨s,e,q,C⟩
   ·obtain⟨z,j,rfl⟩:=List.mem_map.1 o;obtain⟨-, -,h3,W⟩:=aj z j;exact⟨z,rfl,by omega,W⟩
  obtain⟨z,rfl,ak,al⟩:=j;refine((DK (aT 1 z) l p (DL al)).2.2.1 x y u v J).mono ?_;rw[fX];have:=cA (show 0<=Q-wq K*(p2 n+2)^z.length by have:=I z.length ak;grind) (show 0<=y-x by grind);grind
 have F:(c.map aX).length<=T:=by rw[cH];have:=h.st.len;omega
 have hN:p2 ((2*T+1)*(64*(K+m0))+(2*T+3))=p2 (2*T+3)*Q^(2*T+1):=by rw[<-f,DI,<-jQ,dN (64*(K+m0)) (2*T+1),aq1]
 have ad:=jZ ((2*T+1)*(64*(K+m0))+(2*T+3));refine⟨by rw[azE,azF];exact Rat.inv_pos.2 (by grind),fun a b ha i af hd=> ?_⟩;have H:=axM (d:=1/p2 ((2*T+1)*(64*(K+m0))+(2*T+3))) (show 0<=Q by grind) ae (show(0:Rat)<1 by decide) (show 0<=Q by grind) (show 0<=Q by grind) ag ac (fun G l' e x y u v=> ?_) (by rw[azE,azF];exact Rat.inv_pos.2 (by grind)) ?_ a b ha i af hd
 ·unfold Lc at *;simp only[ax8,yI] at H;exact H
 ·have A:∀b,StT K s b c->b=aS (bB s)->c.map aX=G :: l'->b≠[]∧G=aX b:=fun b t _ e=>by
   cases t with
   |done=>cases e
   |step i h t=>rw[fM] at e;injection e with e1 _;exact⟨i,e1.symm⟩
  obtain⟨i,rfl⟩:=A _ h.st rfl e;have g:bB s≠[]:=fun g=>i (bX (by rw[dF,g];rfl));have hg:(0:Int)<(bC (bB s):Int):=by have:=nI (lE h.sq.ts) g;omega
  obtain⟨r,hr,V⟩:=(DK (aT 1 s) l p (DL C)).2.2.2 x y u v;refine⟨((bC (bB s):Int):Rat),r,pP hg,hr.mono (by rw[fX];exact I _ q),?_⟩;rw[<-ah,yM];exact V
 ·obtain⟨M,D⟩:∃M,64*(K+m0)=M:=⟨_,rfl⟩;obtain⟨L,hL⟩:∃L,(c.map aX).length=L:=⟨_,rfl⟩;rw[hL] at F⊢;rw[D] at ad⊢;rw[D] at f;have S:Q+Q=p2 (M+1):=by rw[jQ,f,uP];grind
  have eQ:Q+Q+1<=p2 (M+2):=by
   have e:p2 (M+2)=Q*4:=by rw[jQ,f];rfl
   rw[e];grind
  rw[S] at *;rw[DI];have R:(2:Rat)*p2 ((M+1)*L)=p2 ((M+1)*L+1):=by rw[jQ,uP,byD]
  rw[R];have h6:(M+1)*L<=(M+1)*T:=eV _ F;have an:p2 (M+2)*p2 ((M+1)*L)*p2 ((M+1)*L+1)<=p2 ((2*T+1)*M+(2*T+3)):=by
   rw[<-jQ,<-jQ];refine DH ?_;have e:(2*T+1)*M=M*T+M*T+M:=by rw[aqA,iW,dN T M];omega
   have e3:(M+1)*T=M*T+T:=by rw[aqA,aqD]
   rw[e];omega
  have n0:0<=p2 ((M+1)*L)*p2 ((M+1)*L+1):=by rw[<-jQ];have:=jZ ((M+1)*L+((M+1)*L+1));grind
  generalize p2 ((M+1)*L)=X at *;generalize p2 ((M+1)*L+1)=Y at *;generalize p2 ((2*T+1)*M+(2*T+3))=P at *;generalize p2 (M+1)=Z at *;generalize p2 (M+2)=U at *;have n1:=cA n0 (show 0<=U-(Z+1) by grind);have hP:0<P:=by grind
  have ei:1/P*P=1:=gW (by grind);have hi:0<=1/P:=by rw[azE,azF];exact az6 (Rat.inv_pos.2 hP)
  have n2:=cA hi (show 0<=P-(Z+1)*X*Y by grind);grind
def bqE{n:Nat}(h:Cn K w s c)(f:aN w)(d:s.length<=7)(b:∀n∈s,nl n.natAbs<=K)(e:∀n∈aS (bB s),nl n.natAbs<=K)(hn:(n+2)*7<=64*m0):
  Vs (p2 n) (1/p2 (13*(64*(K+m0))+15)) (fun x=>aY 0 ((s :: c).map (fun a=>aP a 0 x))) (fun x=>aP s 0 x):=ex8 (T:=6) h f d b e hn
def qX(a:List Int)(i:Int)(x:Rat):aP a i x=1∨aP a i x=0∨aP a i x= -1:=by
 have k:∀n:Int,n.sign=1∨n.sign=0∨n.sign= -1:=fun n=>by
  rcases aqL n 0 with h|h|h
  ·exact .inr (.inr (aqT h))
  ·rw[h];exact .inr (.inl rfl)
  ·exact .inl (aqI h)
 unfold aP;split
 ·exact k _
 ·split
  ·have:=k (cf a (a.length-1));omega
  ·exact k _
def cx9(X:Rat):∃n:Nat,X<=p2 n:=by
 obtain⟨n,hn⟩:=axF X;refine⟨n,?_⟩;have a:=axE n;have e:p2 n=2^n:=by
  unfold p2;rw[Rat.intCast_pow];rfl
 rw[e];grind
end Go.Proofs.YtjgbleapffgbcaaGreatDoor
namespace Go.Proofs.YtjgbleapffgbcaaGreatDoor
open Go.RowKit Sos Tryz
variable{l n:List UInt8}{a:World}{b d f:Option Addr}{c e i j:Bool}{o:Obj}{v:Value}{c':Nat}
def cyJ(l:List UInt8):Bool:=(cL l).isSome
def cyL(h:Digs l)(a:l.length<=9):aO l<1000000000:=by
 have b:=tI h;have c:10^l.length<=10^9:=cO (by decide) a;have d:10^9=1000000000:=rfl;omega
def cxT(h:Digs l)(k:Nat):Digs (l.take k):=fun c a=>h c (lH a)
def cxU(s:ByteArray)(w:World)(b:Digs s.data.toList)(t:s.size<=9):
  Calls prog 69 #[.string s] w fun e w'=>e= .returned (.int .i64 (aO s.data.toList:Nat))∧w=w':=by
 have u:s.data.toList.length=s.size:=by simp
 go_enter func69,ntmps69;go_wp2_with fail;go_loop [3,7] (fun v i=>∃k:Nat,k<=s.size∧i= .int .i64 k∧v= .int .i64 (aO (s.data.toList.take k):Nat)) (fun _ i=>s.size-(intOf i).toNat)
 case atStart=>exact⟨0,by omega,rfl,rfl⟩
 case round=>
  obtain⟨k,r,rfl,rfl⟩:=hrel;have p:(0:Int)<=(k:Int):=by omega
  have q:=cyL (cxT b k) (by rw[bK];omega);by_cases h:k<s.size
  ·have j:(k:Int)<(s.size:Int):=by omega
   have a:s.data.toList[k]? =some s[k]:=by rw[aR (by simpa using h)];rfl
   obtain⟨l,m⟩:=b s[k] (dG a);have n:(48:Int)<=(s[k].toNat:Int):=by omega
   have o:(s[k].toNat:Int)<=57:=by omega
   have d:aO (s.data.toList.take (k+1))=10*aO (s.data.toList.take k)+(s[k].toNat-48):=by
    rw[Q9,a,aqO,oK]
   have f:=aB d;clear a d;generalize aO (s.data.toList.take k)=V at *;go_wp2_with fail;go_round
   case rel=>exact⟨k+1,by omega,by simp,by rw[f.out];congr 1;omega⟩
   case measure=>simp[intOf];omega
  ·have c:k=s.size:=by omega
   have j:¬(k:Int)<(s.size:Int):=by omega
   have g:Hid (s.data.toList.take k=s.data.toList):=by unfold Hid;rw[c];exact cZ (by omega)
   clear c;go_wp2;go_ret;rw[g.out];exact⟨rfl,rfl⟩
def cxH(l:List UInt8)(w:World)(a:Digs l)(b:l.length<=9):Calls prog 69 #[.string ⟨l.toArray⟩] w fun e w'=>e= .returned (.int .i64 (aO l:Nat))∧w=w':=
 cxU ⟨l.toArray⟩ w a (by simpa [ByteArray.size] using b)
def cxV(a b:Nat)(w:World)(l:a<1000000000)(m:b<1000000000):
  Calls prog 70 #[.int .i64 a,.int .i64 b] w fun e w'=>e= .returned (.int .i64 (Nat.gcd a b:Nat))∧Below w.1.size w w':=by
 go_enter func70,ntmps70;go_wp2_with fail;go_loopw [0,1] (fun u v wr=>∃x y:Nat,u= .int .i64 x∧v= .int .i64 y∧x<1000000000∧y<1000000000∧Hid (Nat.gcd x y=Nat.gcd a b)∧Below w.1.size w wr) (fun _ v _=>(intOf v).toNat)
 case atStart=>exact⟨a,b,rfl,rfl,l,m,rfl,aG _ _⟩
 case round=>
  obtain⟨x,y,rfl,rfl,r,t,d,f⟩:=hrel;by_cases c:y=0
  ·have k:((y:Int)==0)=true:=by rw[c];rfl
   have j:Hid (x=Nat.gcd a b):=by have:=d.out;rw[c,bxN] at this;exact this
   have o:(y:Int)=0:=by omega
   clear k;obtain rfl:y=0:=c;go_wp2;go_ret;rw[<-j.out];exact⟨rfl,f⟩
  ·have z:(0:Int)<(y:Int):=by omega
   have s:(0:Int)<=(x:Int):=by omega
   have q:((y:Int)==0)=false:=by simp;exact c
   have g:(x:Int)%(y:Int)=((x%y:Nat):Int):=by omega
   have i:=aB g;have p:x%y<y:=dI _ (by omega);have h:Hid (Nat.gcd y (x%y)=Nat.gcd a b):=by unfold Hid;rw[<-d.out,azD x y,Nat.gcd_rec y x,azD]
   have n:=f.drew;clear g;go_wp2_with fail;go_region
   all_goals (
    go_wp2_with fail;go_roundw
    case rel=>exact⟨y,x%y,rfl,by rw[<-i.out],by omega,by omega,h,n⟩
    case measure=>simp[intOf];omega)
def cxI{a:Bool}(h:iA l=some (a,n,[])):cyJ l=true:=by unfold cyJ;rw[TX h];rfl
def cxJ{d:List UInt8}(h:iA l=some (c,n,d))(b:d≠[]):cyJ l=decide (Nat.gcd (aO n) (aO d)=1):=by
 unfold cyJ;rw[IQ h b];by_cases a:Nat.gcd (aO n) (aO d)=1
 ·rw[if_pos a,decide_eq_true a];rfl
 ·rw[if_neg a,decide_eq_false a];rfl
def cyG(l:List UInt8)(n d:Int):Prop:=cyJ l=true∧∃D:Nat,d=(D:Int)∧0<D∧D<1000000000∧n.natAbs<1000000000∧cL l=some (mkRat n D)
def cxK(b:Bool)(n:Nat):(fO b n).natAbs=n:=by
 cases b
 ·exact dD n
 ·show(-(n:Int)).natAbs=n;omega
def cxW{a:Bool}(h:iA l=some (a,n,[]))(c:aO n<1000000000):cyG l (fO a (aO n)) 1:=
 ⟨cxI h,1,rfl,by decide,by decide,by rw[cxK];exact c,by rw[TX h,Rat.mkRat_one]⟩
def cxX{d:List UInt8}{b:Bool}(h:iA l=some (b,n,d))(a:d≠[])(f:Parts b n d)(c:aO n<1000000000)(c':aO d<1000000000)(e:Nat.gcd (aO n) (aO d)=1):cyG l (fO b (aO n)) (aO d:Nat):=
 ⟨by rw[cxJ h a,decide_eq_true e],aO d,rfl,bzI (wP f.d_digs a f.d_head),c',by rw[cxK];exact c,by rw[IQ h a,if_pos e]⟩
def cyM(l:List UInt8)(w:World)(hl:l.length<=1099511627776):
  Calls prog 25 #[.string ⟨l.toArray⟩] w fun e w'=>∃n d t,e= .returned (.tuple #[.agg #[.int .i64 n,.int .i64 d],.bool t])∧(t=true->cyG l n d)∧Below w.1.size w w':=by
 have av:(⟨l.toArray⟩:ByteArray).size=l.length:=by simp[ByteArray.size]
 have H:=fun W=>U9 l W hl;go_enter func25,ntmps25;by_cases ao:l.length<=20
 ·have ad:¬(20:Int)<(l.length:Int):=by omega
  go_wp2_with fail;have R:=Bx.new w [.int .i64 0,.int .i64 0] 51;have c:Below w.1.size w (w.alloc (.cells #[.int .i64 0,.int .i64 0] 51)):=(aG _ _).alloc aE _;generalize w.alloc (.cells #[.int .i64 0,.int .i64 0] 51)=w0 at *;have ai:=R.lt;refine(H w0).mono ?_;rintro e1 m ⟨i,n,d,t,rfl,F,U,M⟩;clear H;replace R:=R.be M;replace c:=aC c M;have aj:=R.lt;have x:=R.cell 0 rfl;have y:=R.cell 1 rfl;have Z:=R.free 0;have ac:=R.free 1;have au:(⟨n.toArray⟩:ByteArray).size=n.length:=by simp[ByteArray.size]
  have ar:(⟨d.toArray⟩:ByteArray).size=d.length:=by simp[ByteArray.size]
  cases t with
  |false=>
   clear F U;go_wp2_with fail;have a:=(R.set 0 (.int .i64 0)).set 1 (.int .i64 0);replace a:=a.alloc (.cells #[.bool i,.string ⟨n.toArray⟩,.string ⟨d.toArray⟩] 55);have f:=a.cell 0 rfl;have g:=a.cell 1 rfl;have b:=(c.setCell (p:=⟨w.1.size,0,none⟩) aE (.int .i64 0)).setCell (p:=⟨w.1.size,1,none⟩) aE (.int .i64 0);replace b:=b.alloc b.size (.cells #[.bool i,.string ⟨n.toArray⟩,.string ⟨d.toArray⟩] 55);exact aM (v:= .tuple #[.agg #[.int .i64 0,.int .i64 0],.bool false]) (by simp[results,results25,go_sem,f,g]) rfl ⟨_,_,false,rfl,(fun h=>by cases h),b⟩
  |true=>
   have G:=F rfl;obtain⟨s,hj⟩:=I1 G;have T:=s.n_digs;have N:=s.d_digs;have K:=aB G;have X:=aB s;clear F U G s hj;by_cases Q:n.length<=9
   ·by_cases B:d.length<=9
    ·have C:=fun W=>cxH n W T Q;have z:=cyL T Q;have an:(0:Int)<=(aO n:Nat):=by omega
     have S:¬(9:Int)<(n.length:Int):=by omega
     have ae:¬(9:Int)<(d.length:Int):=by omega
     cases d with
     |nil=>
      have q:Hid (cyG l (fO i (aO n)) 1):=cxW K.out z;generalize aO n=V at *;cases i with
      |false=>
       go_wp2_with (go_at_call 69;refine(C _).mono ?_;rintro A I ⟨rfl,rfl⟩);have a:=(R.set 0 (.int .i64 V)).set 1 (.int .i64 1);replace a:=a.alloc (.cells #[.bool false,.string ⟨n.toArray⟩,.string ⟨#[]⟩] 55);replace a:=a.alloc (.cells #[.int .i64 V,.int .i64 1] 51);have f:=a.cell 0 rfl;have g:=a.cell 1 rfl;have b:=(c.setCell (p:=⟨w.1.size,0,none⟩) aE (.int .i64 V)).setCell (p:=⟨w.1.size,1,none⟩) aE (.int .i64 1);replace b:=b.alloc b.size (.cells #[.bool false,.string ⟨n.toArray⟩,.string ⟨#[]⟩] 55);replace b:=b.alloc b.size (.cells #[.int .i64 V,.int .i64 1] 51);exact aM (v:= .tuple #[.agg #[.int .i64 V,.int .i64 1],.bool true]) (by simp[results,results25,go_sem,f,g]) rfl ⟨_,_,true,rfl,(fun _=>q.out),b⟩
      |true=>
       go_wp2_with (go_at_call 69;refine(C _).mono ?_;rintro A I ⟨rfl,rfl⟩);have a:=(R.set 0 (.int .i64 (-V))).set 1 (.int .i64 1);replace a:=a.alloc (.cells #[.bool true,.string ⟨n.toArray⟩,.string ⟨#[]⟩] 55);replace a:=a.alloc (.cells #[.int .i64 (-V),.int .i64 1] 51);have f:=a.cell 0 rfl;have g:=a.cell 1 rfl;have b:=(c.setCell (p:=⟨w.1.size,0,none⟩) aE (.int .i64 (-V))).setCell (p:=⟨w.1.size,1,none⟩) aE (.int .i64 1);replace b:=b.alloc b.size (.cells #[.bool true,.string ⟨n.toArray⟩,.string ⟨#[]⟩] 55);replace b:=b.alloc b.size (.cells #[.int .i64 (-V),.int .i64 1] 51);exact aM (v:= .tuple #[.agg #[.int .i64 (-V),.int .i64 1],.bool true]) (by simp[results,results25,go_sem,f,g]) rfl ⟨_,_,true,rfl,(fun _=>q.out),b⟩
     |cons k j=>
      have af:=fun W=>cxH (k :: j) W N B;have L:=cyL N B;have q:Hid (Nat.gcd (aO n) (aO (k :: j))=1->cyG l (fO i (aO n)) (aO (k :: j):Nat)):=cxX K.out (by simp) X.out z L;have ap:¬(9:Int)<(j.length:Int)+1:=by have:=B;rw[eG] at this;omega
      have aq:(⟨(k :: j).toArray⟩:ByteArray)≠⟨#[]⟩:=fun h=>by injection h with h;simp at h
      generalize aO n=V at *;generalize aO (k :: j)=D at *;go_wp2_with (first|(go_at_call 69;(with_reducible refine(C _).mono ?_);rintro A I ⟨rfl,rfl⟩)|(go_at_call 69;(with_reducible refine(af _).mono ?_);rintro A I ⟨rfl,rfl⟩));have Y:=(R.alloc (.cells #[.bool i,.string ⟨n.toArray⟩,.string ⟨(k :: j).toArray⟩] 55)).alloc (.cells #[.int .i64 V,.int .i64 D] 51);have u:=(Bx.new m [.bool i,.string ⟨n.toArray⟩,.string ⟨(k :: j).toArray⟩] 55).alloc (.cells #[.int .i64 V,.int .i64 D] 51);have o:=Bx.newAt (m.alloc (.cells #[.bool i,.string ⟨n.toArray⟩,.string ⟨(k :: j).toArray⟩] 55)) [.int .i64 V,.int .i64 D] 51 (m.1.size+1) (World.size_alloc _ _);replace c:=(c.alloc c.size (.cells #[.bool i,.string ⟨n.toArray⟩,.string ⟨(k :: j).toArray⟩] 55));replace c:=c.alloc c.size (.cells #[.int .i64 V,.int .i64 D] 51);refine(cxV V D _ z L).mono ?_;rintro e3 w3 ⟨rfl,r⟩;replace R:=Y.be r;replace u:=u.be r;replace o:=o.be r;replace c:=aC c r;replace x:=R.cell 0 rfl;replace y:=R.cell 1 rfl;replace Z:=R.free 0;replace ac:=R.free 1;have ah:=u.cell 0 rfl;have ak:=o.cell 0 rfl;have al:=o.cell 1 rfl;have am:=o.free 0;have ag:m.1.size+1≠w.1.size:=by omega
      by_cases E:Nat.gcd V D=1
      ·have O:(((Nat.gcd V D:Nat):Int)==1)=true:=by rw[E];rfl
       have J:Hid (cyG l (fO i V) (D:Nat)):=q.out E;have P:((Nat.gcd V D:Nat):Int)=1:=by omega
       rw[P];clear E O P;cases i with
       |false=>
        go_wp2_with fail;have a:=(R.set 0 (.int .i64 V)).set 1 (.int .i64 D);have f:=a.cell 0 rfl;have g:=a.cell 1 rfl;have b:=(c.setCell (p:=⟨w.1.size,0,none⟩) aE (.int .i64 V)).setCell (p:=⟨w.1.size,1,none⟩) aE (.int .i64 D);exact aM (v:= .tuple #[.agg #[.int .i64 V,.int .i64 D],.bool true]) (by simp[results,results25,go_sem,f,g]) rfl ⟨_,_,true,rfl,(fun _=>J.out),b⟩
       |true=>
        go_wp2_with fail;replace R:=R.far 0 (.int .i64 (-V)) ag;replace c:=c.setCell (p:=⟨m.1.size+1,0,none⟩) (show w.1.size<=m.1.size+1 by omega) (.int .i64 (-V));have a:=(R.set 0 (.int .i64 (-V))).set 1 (.int .i64 D);have f:=a.cell 0 rfl;have g:=a.cell 1 rfl;have b:=(c.setCell (p:=⟨w.1.size,0,none⟩) aE (.int .i64 (-V))).setCell (p:=⟨w.1.size,1,none⟩) aE (.int .i64 D);exact aM (v:= .tuple #[.agg #[.int .i64 (-V),.int .i64 D],.bool true]) (by simp[results,results25,go_sem,f,g]) rfl ⟨_,_,true,rfl,(fun _=>J.out),b⟩
      ·have O:(((Nat.gcd V D:Nat):Int)==1)=false:=by rw[beq_eq_false_iff_ne];omega
       generalize ((Nat.gcd V D:Nat):Int)=gg at *;go_wp2_with fail;have a:=(R.set 0 (.int .i64 0)).set 1 (.int .i64 0);have f:=a.cell 0 rfl;have g:=a.cell 1 rfl;have b:=(c.setCell (p:=⟨w.1.size,0,none⟩) aE (.int .i64 0)).setCell (p:=⟨w.1.size,1,none⟩) aE (.int .i64 0);exact aM (v:= .tuple #[.agg #[.int .i64 0,.int .i64 0],.bool false]) (by simp[results,results25,go_sem,f,g]) rfl ⟨_,_,false,rfl,(fun h=>by cases h),b⟩
    ·have S:¬(9:Int)<(n.length:Int):=by omega
     have ae:(9:Int)<(d.length:Int):=by omega
     go_wp2_with fail;have a:=(R.set 0 (.int .i64 0)).set 1 (.int .i64 0);replace a:=a.alloc (.cells #[.bool i,.string ⟨n.toArray⟩,.string ⟨d.toArray⟩] 55);have f:=a.cell 0 rfl;have g:=a.cell 1 rfl;have b:=(c.setCell (p:=⟨w.1.size,0,none⟩) aE (.int .i64 0)).setCell (p:=⟨w.1.size,1,none⟩) aE (.int .i64 0);replace b:=b.alloc b.size (.cells #[.bool i,.string ⟨n.toArray⟩,.string ⟨d.toArray⟩] 55);exact aM (v:= .tuple #[.agg #[.int .i64 0,.int .i64 0],.bool false]) (by simp[results,results25,go_sem,f,g]) rfl ⟨_,_,false,rfl,(fun h=>by cases h),b⟩
   ·have S:(9:Int)<(n.length:Int):=by omega
    go_wp2_with fail;have a:=(R.set 0 (.int .i64 0)).set 1 (.int .i64 0);replace a:=a.alloc (.cells #[.bool i,.string ⟨n.toArray⟩,.string ⟨d.toArray⟩] 55);have f:=a.cell 0 rfl;have g:=a.cell 1 rfl;have b:=(c.setCell (p:=⟨w.1.size,0,none⟩) aE (.int .i64 0)).setCell (p:=⟨w.1.size,1,none⟩) aE (.int .i64 0);replace b:=b.alloc b.size (.cells #[.bool i,.string ⟨n.toArray⟩,.string ⟨d.toArray⟩] 55);exact aM (v:= .tuple #[.agg #[.int .i64 0,.int .i64 0],.bool false]) (by simp[results,results25,go_sem,f,g]) rfl ⟨_,_,false,rfl,(fun h=>by cases h),b⟩
 ·have ad:(20:Int)<(l.length:Int):=by omega
  clear H;go_wp2_with fail;have R:=Bx.new w [.int .i64 0,.int .i64 0] 51;have x:=R.cell 0 rfl;have y:=R.cell 1 rfl;have c:Below w.1.size w (w.alloc (.cells #[.int .i64 0,.int .i64 0] 51)):=(aG _ _).alloc aE _;exact aM (v:= .tuple #[.agg #[.int .i64 0,.int .i64 0],.bool false]) (by simp[results,results25,go_sem,x,y]) rfl ⟨_,_,false,rfl,(fun h=>by cases h),c⟩
section
variable {w w' w1 w2:World}{g g':Nat}{m n n':Int}{s:Bool}{A:Option Addr}{l c:Nat}
def ua(h:Below w.1.size w w'):Below w.1.size w (w'.alloc o):=h.alloc h.size o
def ud(h:Below w.1.size w w'):Below w.1.size w w'.drew:=h.drew
def ut(h:Below w.1.size w w1)(k:Below w1.1.size w1 w2):Below w.1.size w w2:=aC h k
def us{o:Nat}(h:Below w.1.size w w')(a:w.1.size<=g):Below w.1.size w (w'.setCell ⟨g,o,none⟩ v):=h.setCell (p:=⟨g,o,none⟩) a v
def J9(h:IntAt w (.agg #[.bool s,.slice A l c]) n)(a:w.1.size=g):IntBx (w.alloc (.cells #[.bool s,.slice A l c] 60)) g n:=
 ⟨_,_,_,_,Bx.newAt w [.bool s,.slice A l c] 60 g a,h.ke (Keep.alloc _ _)⟩
def xC(h:IntAt w (.agg #[.bool s,.slice A l c]) n):IntBx (w.alloc (.cells #[.bool s,.slice A l c] 60)) w.1.size n:=J9 h rfl
def V3(h:IntAt (w.alloc o) (.agg #[.bool s,.slice A l c]) n):IntBx ((w.alloc o).alloc (.cells #[.bool s,.slice A l c] 60)) (w.1.size+1) n:=J9 h (World.size_alloc _ _)
def xD(h:IntBx w g n):IntBx (w.alloc o) g n:=h.be ((aG _ _).alloc aE _)
def xE(h:IntBx w g m)(hn:IntAt w (.agg #[.bool s,.slice A l c]) n):IntBx ((w.setCell ⟨g,0,none⟩ (.bool s)).setCell ⟨g,1,none⟩ (.slice A l c)) g n:=(h.stored hn).1
def C0(a:IntBx w g' m)(hn:IntAt w (.agg #[.bool s,.slice A l c]) n')(b:g≠g')(h:IntBx w g n):IntBx ((w.setCell ⟨g',0,none⟩ (.bool s)).setCell ⟨g',1,none⟩ (.slice A l c)) g n:=h.step (a.stored hn).2 b
def zb(D:Bx w g [.bool false,.slice none 0 0] 60):IntBx w g 0:=⟨_,_,_,_,D,IntAt.zero _⟩
def V4(h:IntAt w (.agg #[.bool s,.slice A l c]) n)(b:Below a.1.size a w):IntBx (w.alloc (.cells #[.bool s,.slice A l c] 60)) w.1.size n∧Below a.1.size a (w.alloc (.cells #[.bool s,.slice A l c] 60)):=⟨xC h,ua b⟩
def V6(I:IntBx w g m)(h:IntAt w (.agg #[.bool s,.slice A l c]) n)(d:Below a.1.size a w)(b:a.1.size<=g):
  IntBx ((w.setCell ⟨g,0,none⟩ (.bool s)).setCell ⟨g,1,none⟩ (.slice A l c)) g n∧Below a.1.size a ((w.setCell ⟨g,0,none⟩ (.bool s)).setCell ⟨g,1,none⟩ (.slice A l c)):=⟨xE I h,us (us d b) b⟩
def V7(a:IntBx w g' m)(hn:IntAt w (.agg #[.bool s,.slice A l c]) n')(h:IntAt w v n):IntAt ((w.setCell ⟨g',0,none⟩ (.bool s)).setCell ⟨g',1,none⟩ (.slice A l c)) v n:=h.ke (a.stored hn).2.1
def x3{d:World}{t:Int}{i:Nat}(I:IntBx w g m)(J:IntBx w g' t)(h:IntAt w (.agg #[.bool s,.slice A l c]) n)(k:IntAt w (.agg #[.bool j,.slice f i c']) n')(q:g≠g')(r:Below d.1.size d w)(o:d.1.size<=g)(p:d.1.size<=g'):
  IntBx ((((w.setCell ⟨g,0,none⟩ (.bool s)).setCell ⟨g,1,none⟩ (.slice A l c)).setCell ⟨g',0,none⟩ (.bool j)).setCell ⟨g',1,none⟩ (.slice f i c')) g n∧
  IntBx ((((w.setCell ⟨g,0,none⟩ (.bool s)).setCell ⟨g,1,none⟩ (.slice A l c)).setCell ⟨g',0,none⟩ (.bool j)).setCell ⟨g',1,none⟩ (.slice f i c')) g' n'∧
  Below d.1.size d ((((w.setCell ⟨g,0,none⟩ (.bool s)).setCell ⟨g,1,none⟩ (.slice A l c)).setCell ⟨g',0,none⟩ (.bool j)).setCell ⟨g',1,none⟩ (.slice f i c')):=by
 have a:=xE I h;have b:=C0 I h (fun e=>q e.symm) J;have c:=V7 I h k;exact⟨C0 b c q a,xE b c,us (us (us (us r o) o) p) p⟩
def tR{b:World}{a:Option Addr}{d:Nat}(h:IntAt w (.agg #[.bool s,.slice A l c]) n)(k:IntAt w (.agg #[.bool e,.slice a d c']) n')(f:Below b.1.size b w):
  IntBx ((w.alloc (.cells #[.bool s,.slice A l c] 60)).alloc (.cells #[.bool e,.slice a d c'] 60)) w.1.size n∧
  IntBx ((w.alloc (.cells #[.bool s,.slice A l c] 60)).alloc (.cells #[.bool e,.slice a d c'] 60)) (w.1.size+1) n'∧
  Below b.1.size b ((w.alloc (.cells #[.bool s,.slice A l c] 60)).alloc (.cells #[.bool e,.slice a d c'] 60)):=
 ⟨xD (xC h),V3 (k.ke (Keep.alloc _ _)),ua (ua f)⟩
def xF{e:World}{f:Nat}(h:IntAt w (.agg #[.bool s,.slice A l c]) n)(k:IntAt w (.agg #[.bool i,.slice d f c']) n')(j:Below e.1.size e w):
  IntBx ((w.alloc (.cells #[.bool i,.slice d f c'] 60)).alloc (.cells #[.bool s,.slice A l c] 60)) (w.1.size+1) n∧
  IntBx ((w.alloc (.cells #[.bool i,.slice d f c'] 60)).alloc (.cells #[.bool s,.slice A l c] 60)) w.1.size n'∧
  Below e.1.size e ((w.alloc (.cells #[.bool i,.slice d f c'] 60)).alloc (.cells #[.bool s,.slice A l c] 60)):=by
 obtain⟨a,b,c⟩:=tR k h j;exact⟨b,a,c⟩
def xG{d:Nat}(h:IntAt w (.agg #[.bool s,.slice A l c]) n)(k:IntAt w (.agg #[.bool e,.slice b d c']) n')(J:IntBx w g' m)(i:Below a.1.size a w)(f:a.1.size<=g'):
  IntBx (((w.alloc (.cells #[.bool s,.slice A l c] 60)).setCell ⟨g',0,none⟩ (.bool e)).setCell ⟨g',1,none⟩ (.slice b d c')) w.1.size n∧
  IntBx (((w.alloc (.cells #[.bool s,.slice A l c] 60)).setCell ⟨g',0,none⟩ (.bool e)).setCell ⟨g',1,none⟩ (.slice b d c')) g' n'∧
  Below a.1.size a (((w.alloc (.cells #[.bool s,.slice A l c] 60)).setCell ⟨g',0,none⟩ (.bool e)).setCell ⟨g',1,none⟩ (.slice b d c')):=
 ⟨C0 (xD J) (k.ke (Keep.alloc _ _)) (by have:=J.lt;omega) (xC h),xE (xD J) (k.ke (Keep.alloc _ _)),us (us (ua i) f) f⟩
def xH{d:Nat}(I:IntBx w g m)(h:IntAt w (.agg #[.bool s,.slice A l c]) n)(k:IntAt w (.agg #[.bool e,.slice b d c']) n')(f:Below a.1.size a w)(i:a.1.size<=g):
  IntBx (((((w.alloc (.cells #[.bool false,.slice none 0 0] 60)).setCell ⟨g,0,none⟩ (.bool s)).setCell ⟨g,1,none⟩ (.slice A l c)).setCell ⟨w.1.size,0,none⟩ (.bool e)).setCell ⟨w.1.size,1,none⟩ (.slice b d c')) g n∧
  IntBx (((((w.alloc (.cells #[.bool false,.slice none 0 0] 60)).setCell ⟨g,0,none⟩ (.bool s)).setCell ⟨g,1,none⟩ (.slice A l c)).setCell ⟨w.1.size,0,none⟩ (.bool e)).setCell ⟨w.1.size,1,none⟩ (.slice b d c')) w.1.size n'∧
  Below a.1.size a (((((w.alloc (.cells #[.bool false,.slice none 0 0] 60)).setCell ⟨g,0,none⟩ (.bool s)).setCell ⟨g,1,none⟩ (.slice A l c)).setCell ⟨w.1.size,0,none⟩ (.bool e)).setCell ⟨w.1.size,1,none⟩ (.slice b d c')):=
 x3 (xD I) (xC (IntAt.zero _)) (h.ke (Keep.alloc _ _)) (k.ke (Keep.alloc _ _)) (by have:=I.lt;omega) (ua f) i f.size
end
def cyQ(h:Digs n):nl (aO n)<=n.length:=by
 refine cJ (aZ (tI h) (aqN (by decide) _))
def cxS(l:List UInt8)(w:World)(t:Glob w)(hl:l.length<=1073741824):
  Calls prog 7 #[.string ⟨l.toArray⟩] w fun e w'=>e= .returned (.bool (rd l))∧Below w.1.size w w':=by
 go_enter func7,ntmps7;go_wp2_with fail;refine(cyM l w (by omega)).mono ?_;rintro s w1 ⟨x,y,H,rfl,q,a⟩;cases H with
 |true=>
  have o:Hid (rd l=true):=(q rfl).1;clear q;go_wp2;go_ret;rw[o.out];exact⟨rfl,a.alloc a.size _⟩
 |false=>
  clear q;go_wp2_with fail;replace a:=a.alloc a.size (.cells #[.int .i64 x,.int .i64 y] 51);generalize w1.alloc (.cells #[.int .i64 x,.int .i64 y] 51)=w2 at *;refine(U9 l w2 (by omega)).mono ?_;rintro e3 I ⟨G,n,d,H,rfl,q,D,ah⟩;replace a:=aC a ah;cases H with
  |false=>
   have o:Hid (rd l=false):=by unfold Hid rd;rw[TW (D rfl)];rfl
   clear q D;go_wp2;go_ret;rw[o.out];exact⟨rfl,a.alloc a.size _⟩
  |true=>
   have r:=q rfl;obtain⟨E,X⟩:=I1 r;have C:=E.n_digs;have z:=E.d_digs;obtain⟨ln,ld⟩:=TY X;clear q D E X;cases d with
   |nil=>
    have o:Hid (rd l=true):=cxI r;clear r;go_wp2;go_ret;rw[o.out];exact⟨rfl,a.alloc a.size _⟩
   |cons b c=>
    have o:Hid (rd l=decide (Nat.gcd (aO n) (aO (b :: c))=1)):=cxJ r (by simp);have ak:(⟨(b :: c).toArray⟩:ByteArray)≠⟨#[]⟩:=fun h=>by injection h with h;simp at h
    have L:=aH (cyQ C) ln;have bd:=aH (cyQ z) ld;have Y:=fun W=>FE ⟨n.toArray⟩ W (by simpa using C) (by simp[ByteArray.size];omega);have Z:=fun W=>FE ⟨(b :: c).toArray⟩ W (by simpa using z) (by show(b :: c).toArray.size<=_;rw[bzA];omega);have A:=fun W v u t h1 h2=>qF ((aO n:Nat):Int) ((aO (b :: c):Nat):Int) v u W t h1 h2 1073741824 (by rw[dD];omega) (by rw[dD];omega) (by unfold aJ;omega);simp only[dD] at A;have K:nl (Nat.gcd (aO n) (aO (b :: c)))<=17592186044416:=by
     rcases iB (aO n) with O|O
     ·rw[O,Nat.gcd_zero_left];omega
     ·exact aH (wQ _ _ _ (by omega) L) (by omega)
    have B:=fun W v h=>n6 ((Nat.gcd (aO n) (aO (b :: c)):Nat):Int) v W h (by rw[dD];exact K);have U:decide (((Nat.gcd (aO n) (aO (b :: c)):Nat):Int)=1)=rd l:=by rw[o.out];exact decide_eq_decide.2 ⟨fun h=>by omega,fun h=>by omega⟩
    rw[U] at B;have s:(⟨n.toArray⟩:ByteArray).data.toList=n:=rfl;have M:(⟨(b :: c).toArray⟩:ByteArray).data.toList=b :: c:=rfl;rw[s] at Y;rw[M] at Z;obtain⟨N,V⟩:∃N,N=Nat.gcd (aO n) (aO (b :: c)):=⟨_,rfl⟩;rw[<-V] at A B;clear r C z ln ld L bd s M U o K V;go_wp2_with fail;have F:=Bx.new I [.bool G,.string ⟨n.toArray⟩,.string ⟨(b :: c).toArray⟩] 55;replace a:=a.alloc a.size (.cells #[.bool G,.string ⟨n.toArray⟩,.string ⟨(b :: c).toArray⟩] 55);have ag:=t.be a;generalize hf:I.1.size=f at *;generalize I.alloc (.cells #[.bool G,.string ⟨n.toArray⟩,.string ⟨(b :: c).toArray⟩] 55)=g at *;clear hf;have ai:=F.cell 1 rfl;have aj:=F.cell 2 rfl;have J:=F.lt;have KS:=aB (show∀w',Below g.1.size g w'->(w'.cell? ⟨f,1,none⟩=some (.string ⟨n.toArray⟩)∧w'.cell? ⟨f,2,none⟩=some (.string ⟨(b :: c).toArray⟩)) from fun w' S=>⟨(S.cell (p:=⟨f,1,none⟩) J).trans (F.cell 1 rfl),(S.cell (p:=⟨f,2,none⟩) J).trans (F.cell 2 rfl)⟩)
    go_region_held3 (fun w'=>w'.cell? ⟨f,1,none⟩=some (.string ⟨n.toArray⟩)∧w'.cell? ⟨f,2,none⟩=some (.string ⟨(b :: c).toArray⟩))
     (exact KS.out _ (by with_reducible (repeat (first|exact aG _ _|refine ua ?_|refine ud ?_|refine ut ?_ i|refine ut ?_ j|refine ut ?_ k|refine ut ?_ m|refine us ?_ (by omega)))))
     (first
      |(go_at_call 27;(with_reducible refine(Y _).mono ?_);rintro e5 w5 ⟨v5,rfl,P,i⟩;have l5:=i.size;(try simp at l5);have ac:Below g.1.size g w5:=(by with_reducible (repeat (first|exact aG _ _|refine ua ?_|refine ud ?_|refine ut ?_ i|refine ut ?_ j|refine ut ?_ k|refine ut ?_ m|refine us ?_ (by omega))));have al:=ac.size;obtain⟨s5,A5,k5,c5,rfl⟩:=P.form)
      |(go_at_call 27;(with_reducible refine(Z _).mono ?_);rintro e6 w6 ⟨v6,rfl,Q,j⟩;have l6:=j.size;(try simp at l6);have ad:Below g.1.size g w6:=(by with_reducible (repeat (first|exact aG _ _|refine ua ?_|refine ud ?_|refine ut ?_ i|refine ut ?_ j|refine ut ?_ k|refine ut ?_ m|refine us ?_ (by omega))));have am:=ad.size;obtain⟨s6,A6,k6,c6,rfl⟩:=Q.form)
      |(go_at_call 28;(with_reducible refine(A _ _ _ (ag.be (by with_reducible (repeat (first|exact aG _ _|refine ua ?_|refine ud ?_|refine ut ?_ i|refine ut ?_ j|refine ut ?_ k|refine ut ?_ m|refine us ?_ (by omega))))) (P.be (by with_reducible (repeat (first|exact aG _ _|refine ua ?_|refine ud ?_|refine ut ?_ i|refine ut ?_ j|refine ut ?_ k|refine ut ?_ m|refine us ?_ (by omega))))) (Q.be (by with_reducible (repeat (first|exact aG _ _|refine ua ?_|refine ud ?_|refine ut ?_ i|refine ut ?_ j|refine ut ?_ k|refine ut ?_ m|refine us ?_ (by omega)))))).mono ?_);rintro e7 w7 ⟨v7,rfl,R,k⟩;have l7:=k.size;(try simp at l7);have ae:Below g.1.size g w7:=(by with_reducible (repeat (first|exact aG _ _|refine ua ?_|refine ud ?_|refine ut ?_ i|refine ut ?_ j|refine ut ?_ k|refine ut ?_ m|refine us ?_ (by omega))));have an:=ae.size;obtain⟨s7,A7,k7,c7,rfl⟩:=R.form)
      |(go_at_call 29;(with_reducible refine(B _ _ (R.be (by with_reducible (repeat (first|exact aG _ _|refine ua ?_|refine ud ?_|refine ut ?_ i|refine ut ?_ j|refine ut ?_ k|refine ut ?_ m|refine us ?_ (by omega)))))).mono ?_);rintro e8 w8 ⟨rfl,m⟩;have l8:=m.size;(try simp at l8);have af:Below g.1.size g w8:=(by with_reducible (repeat (first|exact aG _ _|refine ua ?_|refine ud ?_|refine ut ?_ i|refine ut ?_ j|refine ut ?_ k|refine ut ?_ m|refine us ?_ (by omega))));have ao:=af.size;have T:Below g.1.size g w8:=(by with_reducible (repeat (first|exact aG _ _|refine ua ?_|refine ud ?_|refine ut ?_ i|refine ut ?_ j|refine ut ?_ k|refine ut ?_ m|refine us ?_ (by omega))));have Z8:=F.be T;skip))
    all_goals (
     go_wp2;go_ret;exact⟨rfl,aC a T⟩)
end Go.Proofs.YtjgbleapffgbcaaGreatDoor
namespace Go.Proofs.YtjgbleapffgbcaaGreatDoor
open Sos
variable{A l:List Rat}{B K j k m n:Nat}{g s w z:List Int}{c:List (List Int)}{e i u:Int}{d x x0 y:Rat}
def lC(l:List UInt8)(d:Int):Int:=if l=[] then d else 0
def m5(l:List UInt8):Rat:=if l=[] then 0 else (cL l).getD 0
def nJ(l:List UInt8):Bool:=l=[]||rd l
def jO(i:Int)(x:Rat)(j:Int)(y:Rat):Bool:=if i≠j∨i≠0 then decide (i<j) else decide (x<y)
def qR(t:List Int):∀l,aY l t<=t.length:=by
 induction t with
 |nil=>intro l;exact mC 0
 |cons s t a=>
  intro l;show(if s=0 then aY l t else (if l≠0∧s≠l then 1 else 0)+aY s t)<=t.length+1
  have b:=a l;have c:=a s;split
  ·omega
  ·split<;>omega
def CnZ(w s:List Int)(c:List (List Int)):Prop:=Cn 110079 w s c∧Sqp 24057 w s∧Sz s∧w.length<=7∧∀n∈w,nl n.natAbs<=9
def CntR(A:List Rat)(i:Int)(x:Rat)(j:Int)(y:Rat)(n:Int):Prop:=(jO i x j y=false->n=0)∧(jO i x j y=true->∃w s c,Prp A w∧CnZ w s c∧n=fF s c i x j y)
def CntR.get(d:1<=B)(a:Prp A w)(e:Cn B w s c){j:Int}{n:Int}(h:CntR A i x j y n)(g:jO i x j y=true):n=fF s c i x j y:=by
 obtain⟨m,l,k,b,f,rfl⟩:=h.2 g;exact f.1.unique e (by decide) d b a i x j y
def cN(u:Int)(j:Nat):Rat:=(u:Rat)/p2 j
def yG(h: -((2:Int)^(n+j))<=u): -p2 n<=cN u j:=by
 have c:=jZ j;have e:cN u j*p2 j=u:=gW (by grind);have d: -(p2 n*p2 j)<=(u:Rat):=by
  rw[<-jQ];unfold p2;rw[<-bx4];exact_mod_cast h
 by_cases k: -p2 n<=cN u j
 ·exact k
 ·have:=azA (show 0< -p2 n-cN u j by grind) (show 0<p2 j by grind);grind
def yH(h:u<=(2:Int)^(n+j)):cN u j<=p2 n:=by
 have c:=jZ j;have e:cN u j*p2 j=u:=gW (by grind);have d:(u:Rat)<=p2 n*p2 j:=by
  rw[<-jQ];unfold p2;exact_mod_cast h
 by_cases k:cN u j<=p2 n
 ·exact k
 ·have:=azA (show 0<cN u j-p2 n by grind) (show 0<p2 j by grind);grind
def X2(h:m<=64*k)(f:u.natAbs<=2^m):nl u.natAbs<=k+1:=by
 refine cJ ?_;have c:2^m<=2^(64*k):=cO (by decide) h;have d:(2:Nat)^(64*k)=BN^k:=by rw[azL];rfl
 have e:BN^k<BN^(k+1):=by9 (by unfold BN;decide) (aqC k);omega
def DF(m:Nat):((2:Int)^m).natAbs=2^m:=by
 rw[Int.natAbs_pow];rfl
def uO(d: -((2:Int)^(n+j))<=u)(f:u<=(2:Int)^(n+j))(c:n+j<=64*k):RL (k+1) (cN u j):=by
 have e:=DF (n+j);have g:(0:Int)<2^(n+j):=aqH (by decide);refine pM (X2 c (by omega)) (X2 (m:=j) (k:=k) (by omega) ?_) (by omega);rw[DF];exact aE
def LC(u:Int)(j:Nat):cN (2*u) (j+1)=cN u j:=by
 unfold cN;rw[jQ,uP,eJ,show((2:Int):Rat)=2 from rfl];have:=jZ j;grind
def ax6(u t:Int)(j:Nat):(cN u j+cN (u+t) j)/2=cN (2*u+t) (j+1):=by
 unfold cN;rw[jQ,uP,aqE,aqE,eJ,show((2:Int):Rat)=2 from rfl];have:=jZ j;grind
def LD{t:Int}(d:0<t)(j:Nat):cN u j<cN (u+t) j:=by
 have g:=jZ j;have e:cN u j*p2 j=u:=gW (by grind);have c:cN (u+t) j*p2 j=((u+t:Int):Rat):=gW (by grind);rw[aqE] at c;have f:=pP d;by_cases k:cN u j<cN (u+t) j
 ·exact k
 ·have:=cA (show 0<=cN u j-cN (u+t) j by grind) (show 0<=p2 j by grind);grind
inductive ExQ(K:Nat)(V:Rat->Nat)(s:Rat->Int):Rat->Rat->List (Rat×Rat)->Prop
 |none {a b:Rat} (h:V a=V b):ExQ K V s a b []
 |hit {a b:Rat} (h:V a=V b+1) (hb:s b=0):ExQ K V s a b [(b,b)]
 |one {a b:Rat} (h:V a=V b+1) (hb:s b≠0) (ha:s a≠0):ExQ K V s a b [(a,b)]
 |split {a b:Rat} {l m:List (Rat×Rat)} (h:V b<V a) (h':V a=V b+1->s b≠0∧s a=0) (hk:RL K ((a+b)/2)) (hl:ExQ K V s a ((a+b)/2) l) (hm:ExQ K V s ((a+b)/2) b m):ExQ K V s a b (l++m)
section
variable {K K':Nat}{V V':Rat->Nat}{s s':Rat->Int}{a b:Rat}{l:List (Rat×Rat)}
def ExQ.exk(h:ExQ K V s a b l):ExK K (fun _ _=>True) V s a b l:=by
 induction h with
 |none h=>exact .none (by omega)
 |hit h c=>exact .hit h c
 |one h c e=>exact .one h c e
 |split h d f _ _ g i=>exact .split h d trivial f g i
def ExQ.mono(h:ExQ K V s a b l)(e:K<=K'):ExQ K' V s a b l:=by
 induction h with
 |none h=>exact .none h
 |hit h c=>exact .hit h c
 |one h c f=>exact .one h c f
 |split h d g _ _ i j=>exact .split h d (bU g e) i j
def ExK.unique{D m:Rat->Rat->Prop}(h:ExK K D V s a b l):∀{f:List (Rat×Rat)},ExK K' m V' s' a b f->(∀x,V x=V' x)->(∀x,s x=0↔s' x=0)->l=f:=by
 induction h with
 |none h=>intro f e c d;cases e with
  |none=>rfl
  |hit k=>rw[<-c,<-c] at k;omega
  |one k=>rw[<-c,<-c] at k;omega
  |split k=>rw[<-c,<-c] at k;omega
 |hit h g=>intro f e c d;cases e with
  |none k=>rw[<-c,<-c] at k;omega
  |hit=>rfl
  |one _ k=>exact absurd ((d _).1 g) k
  |split _ k=>exact absurd ((d _).1 g) (k (by rw[<-c,<-c];exact h)).1
 |one h g n=>intro f e c d;cases e with
  |none k=>rw[<-c,<-c] at k;omega
  |hit _ k=>exact absurd ((d _).2 k) g
  |one=>rfl
  |split _ k=>exact absurd ((d _).2 (k (by rw[<-c,<-c];exact h)).2) n
 |split h i _ _ u v o p=>intro f e c d;cases e with
  |none k=>rw[<-c,<-c] at k;omega
  |hit k j=>rw[<-c,<-c] at k;exact absurd ((d _).2 j) (i k).1
  |one k j q=>rw[<-c,<-c] at k;exact absurd ((d _).1 (i k).2) q
  |split _ _ _ _ r t=>rw[o r c d,p t c d]
end
def Vs.exk{V:Rat->Nat}{s:Rat->Int}{N:Nat}(h:Vs (p2 n) d V s)(G:1/p2 N<=d)(R:n+(N+n+1)<=64*m):∀(k j:Nat) (u:Int),j+k=N+n+1-> -((2:Int)^(n+j))<=u->u+2^(n+1)<=(2:Int)^(n+j)->
  ∃l,ExQ (m+1) V s (cN u j) (cN (u+2^(n+1)) j) l∧(∀p∈l,RL (m+1) p.1∧RL (m+1) p.2)∧l.length+V (cN (u+2^(n+1)) j)<=V (cN u j):=by
 intro k;induction k with
 |zero=>
  intro j u H o q;have c:(0:Int)<2^(n+1):=aqH (by decide);have r:ab (cN u j) (p2 n):=⟨yG o,yH (by omega)⟩;have t:ab (cN (u+2^(n+1)) j) (p2 n):=⟨yG (by omega),yH q⟩;have y:RL (m+1) (cN u j):=uO o (by omega) (by omega);have g:RL (m+1) (cN (u+2^(n+1)) j):=uO (by omega) q (by omega);have v:=LD (u:=u) c j;have I:cN (u+2^(n+1)) j-cN u j<=d:=by
   have e:cN (u+2^(n+1)) j-cN u j=1/p2 N:=by
    obtain rfl:j=N+(n+1):=by omega
    unfold cN;rw[jQ,aqE,show(((2:Int)^(n+1):Int):Rat)=p2 (n+1) from rfl];have:=jZ N;have:=jZ (n+1);grind
   rw[e];exact G
  rcases h.loc _ _ r t v I with ⟨f, -⟩|⟨f,i, -⟩
  ·exact⟨_,.none f,(fun p c=>by cases c),by rw[azS];omega⟩
  ·by_cases z:s (cN (u+2^(n+1)) j)=0
   ·exact⟨_,.hit f z,fun p c=>by rw[List.mem_singleton.1 c];exact⟨g,g⟩,by rw[iJ];omega⟩
   ·exact⟨_,.one f z i,fun p c=>by rw[List.mem_singleton.1 c];exact⟨y,g⟩,by rw[iJ];omega⟩
 |succ k A=>
  intro j u H o q;have c:(0:Int)<2^(n+1):=aqH (by decide);have r:ab (cN u j) (p2 n):=⟨yG o,yH (by omega)⟩;have t:ab (cN (u+2^(n+1)) j) (p2 n):=⟨yG (by omega),yH q⟩;have y:RL (m+1) (cN u j):=uO o (by omega) (by omega);have g:RL (m+1) (cN (u+2^(n+1)) j):=uO (by omega) q (by omega);have v:=LD (u:=u) c j;have S:=h.mono _ _ r t v;have Q:(2:Int)^(n+(j+1))=2*2^(n+j):=by rw[show n+(j+1)=n+j+1 by omega,gR];omega
  have E:RL (m+1) (cN (2*u+2^(n+1)) (j+1)):=uO (n:=n) (by omega) (by omega) (by omega);by_cases P:V (cN u j)<=V (cN (u+2^(n+1)) j)
  ·exact⟨_,.none (by omega),(fun p c=>by cases c),by rw[azS];omega⟩
  ·by_cases f:V (cN u j)=V (cN (u+2^(n+1)) j)+1∧s (cN (u+2^(n+1)) j)=0
   ·exact⟨_,.hit f.1 f.2,fun p c=>by rw[List.mem_singleton.1 c];exact⟨g,g⟩,by rw[iJ];omega⟩
   ·by_cases i:V (cN u j)=V (cN (u+2^(n+1)) j)+1∧s (cN u j)≠0
    ·exact⟨_,.one i.1 (fun k=>f ⟨i.1,k⟩) i.2,fun p c=>by rw[List.mem_singleton.1 c];exact⟨y,g⟩,by rw[iJ];omega⟩
    ·obtain⟨l,w,M,C⟩:=A (j+1) (2*u) (by omega) (by omega) (by omega);obtain⟨L,x,O,D⟩:=A (j+1) (2*u+2^(n+1)) (by omega) (by omega) (by omega);have F:cN (2*u+2^(n+1)+2^(n+1)) (j+1)=cN (u+2^(n+1)) j:=by rw[<-LC (u+2^(n+1)) j];congr 1;omega
     rw[F] at x D;rw[LC] at w C;rw[<-ax6] at w C x D E;refine⟨l++L,.split (by omega) (fun k=>⟨fun J=>f ⟨k,J⟩,?_⟩) E w x,fun p c=> ?_,by rw[dA];omega⟩
     ·by_cases B:s (cN u j)=0
      ·exact B
      ·exact absurd ⟨k,B⟩ i
     ·rcases List.mem_append.1 c with c|c
      ·exact M p c
      ·exact O p c
def ax7(h:CnZ w s c)(y:aN w)(hn:n<=40000):∃l,ExQ 1000000000 (fun x=>aY 0 ((s :: c).map (fun a=>aP a 0 x))) (fun x=>aP s 0 x) (((-((2:Int)^n):Int)):Rat) ((((2:Int)^n:Int)):Rat) l∧(∀p∈l,RL 1500000 p.1∧RL 1500000 p.2)∧l.length<=8:=by
 obtain⟨f,A,g, -, -⟩:=h;have i:=g.nums;have r:=g.1;have t:=gU (pL i (by omega));have hv:=bqE (n:=n) (m0:=4376) f y r (fun n hn=>aH (i n hn) (by decide)) (fun n hn=>aH (t n hn) (by decide)) (by omega);have z:(2:Int)^(n+1)=2*2^n:=by rw[gR];omega
 have d:(0:Int)<2^n:=aqH (by decide);obtain⟨l,j,k,v⟩:=hv.exk (N:=13*(64*(110079+4376))+15) (m:=1489166) (byB) (by omega) (13*(64*(110079+4376))+15+n+1) 0 (-(2^n)) (by omega) (by rw[gQ];exact aq5 _) (by simp only[gQ];omega);have e:∀u:Int,cN u 0=(u:Rat):=fun u=>by unfold cN;rw[DG];grind
 rw[e,e,show -(2:Int)^n+2^(n+1)=2^n by omega] at j v;have o:=qR ((s :: c).map (fun a=>aP a 0 (((-((2:Int)^n):Int)):Rat))) 0;rw[cH,eG] at o;have q:=f.st.len;rw[dF,lZ] at q;exact⟨l,j.mono (by decide),fun p d=>⟨bU (k p d).1 (by decide),bU (k p d).2 (by decide)⟩,by omega⟩
def axZ(h:∀x,x≠x0->aI l x=0):aI l x0=0:=by
 have g:∀x,aI (fG l [-x0,1]) x=0:=fun x=>by
  rw[fY];by_cases f:x=x0
  ·have:aI [-x0,1] x=0:=by show(0*x+1)*x+ -x0=0;grind
   rw[this,dU]
  ·rw[h x f,aqQ]
 have b:=DQ g;by_cases a:aW aV l=[]
 ·rw[<-oT (iS l) x0,a];rfl
 ·exfalso;have d:=(dR a).1 (jS l);have j:=List.length_pos_iff.2 a;have e:conv (cf (aW aV l)) (cf [-x0,1]) ((aW aV l).length-1+1)=0:=by
   rw[gL (iS l) (fun _=>rfl),<-uU];exact b _
  rw[p5 (fun i c=>bV (by omega)) (fun i c=>bV (by show 2<=i;omega))] at e;exact m6 d (show(1:Rat)≠0 by decide) e
def ay0(x0:Rat):∀l:List Rat,∃q:List Rat,q.length<=l.length-1∧∀x,aI l x=aI q x*(x-x0)+aI l x0:=by
 intro l;induction l with
 |nil=>exact⟨[],aE,fun x=>by show(0:Rat)=0*(x-x0)+0;grind⟩
 |cons a l c=>
  cases l with
  |nil=>exact⟨[],aE,fun x=>by show 0*x+a=0*(x-x0)+(0*x0+a);grind⟩
  |cons b l=>
   obtain⟨q,d,h⟩:=c;exact⟨aI (b :: l) x0 :: q,by simp only[eG] at *;omega,fun x=>by rw[kT a,h x,kT _ q,kT a (b :: l) x0];grind⟩
def sI(x0 x:Rat):aI [-x0,1] x=x-x0∧bM [-x0,1] x=1:=by
 constructor
 ·show(0*x+1)*x+ -x0=x-x0;grind
 ·show((0*x+0)*x+(0*x+1))=1;grind
def ay1(x0:Rat):∀(n:Nat) (l:List Rat),l.length<=n->(∃x,aI l x≠0)->∃(m:Nat) (h:List Rat),aI h x0≠0∧∀x,aI l x=aI (fJ [-x0,1] m) x*aI h x:=by
 intro n;induction n with
 |zero=>
  intro l c ⟨x,b⟩;obtain rfl:=bX (Nat.le_zero.1 c);exact absurd rfl b
 |succ n g=>
  intro l c ⟨x,b⟩;by_cases a:aI l x0=0
  ·obtain⟨q,i,e⟩:=ay0 x0 l;obtain⟨m,h,d,f⟩:=g q (by omega) ⟨x,fun k=>b (by rw[e,k,a];grind)⟩
   exact⟨m+1,h,d,fun y=>by
    show _=aI (fG (fJ [-x0,1] m) [-x0,1]) y*_
    rw[e,a,f,fY,(sI x0 y).1];grind⟩
  ·exact⟨0,l,a,fun y=>by show _=aI [1] y*_;show _=(0*y+1)*_;grind⟩
def ay2(h:x≠x0)(m:Nat):aI (fJ [-x0,1] m) x≠0:=by
 induction m with
 |zero=>show(0*x+1:Rat)≠0;grind
 |succ m a=>
  show aI (fG (fJ [-x0,1] m) [-x0,1]) x≠0
  rw[fY,(sI x0 x).1];exact m6 a (fun e=>h (by grind))
def ay3(b:g≠[])(c:aN g):∃x,aX g x≠0:=by
 apply bz0;intro h;have a:∀x,aI (aT 1 g) x=0:=fun x=>bz0 (fun k=>h ⟨x,k⟩);have:=DQ a (g.length-1);rw[dS,azF] at this;exact gJ ((dR b).1 c) this
def ay4(h:Sqp B w s)(tw:aN w)(x0:Rat):aX w x0=0↔aX s x0=0:=by
 obtain⟨g,I,hg,tg, -, -,O⟩:=h.out;have d:∀x,aX w x=aX s x*aX g x:=fun x=>by
  have:=sH (A:=w) (Q:=s) (B:=g) (C:=[]) (m:=1) (fun i=>by rw[eR,az5,O];omega) x;rw[bxS,DS] at this;grind
 refine⟨fun b=> ?_,fun b=>by rw[d,b,aqQ]⟩;apply bz0;intro v;have N:aX g x0=0:=by
  rw[d] at b;exact(Rat.mul_eq_zero.1 b).resolve_left v
 obtain⟨k,u,R,U⟩:=(JS I).2;have S:=gJ R;have K:∀x,(k:Rat)*bM (aT 1 w) x=((bC (bB w):Int):Rat)*(aX u x*aX g x):=fun x=>by
  have a:=sH (A:=aS (bB w)) (Q:=u) (B:=g) (C:=[]) (m:=k) (fun i=>by rw[eR,U];omega) x;rw[DS] at a;rw[<-yM,pR];grind
 obtain⟨m,q,t,c⟩:=ay1 x0 (aT 1 g).length (aT 1 g) aE (ay3 hg tg);have T:m≠0:=fun e=>by
  subst e;have a:=c x0;rw[show aI (fJ [-x0,1] 0) x0=0*x0+1 from rfl] at a;have o:aI (aT 1 g) x0=0:=N;rw[o] at a;exact t (by grind)
 have V:∀x,bM (aT 1 w) x=bM (aT 1 s) x*aI (aT 1 g) x+aI (aT 1 s) x*bM (aT 1 g) x:=uV (fun x=>d x);have L:∀x,bM (aT 1 g) x=bM (fJ [-x0,1] m) x*aI q x+aI (fJ [-x0,1] m) x*bM q x:=uV c;obtain⟨G,J⟩:∃G:Rat,((bC (bB w):Int):Rat)=G:=⟨_,rfl⟩
 have ac:=axZ (x0:=x0) (l:=j0 ((fG (fG (aT 1 u) q) [-x0,1]).map (fun y=>G*y)) ((j0 (fG (fG (fW (aT 1 s)) q) [-x0,1]) (j0 ((fG (aT 1 s) q).map (fun y=>(m:Rat)*y)) (fG (fG (aT 1 s) (fW q)) [-x0,1]))).map (fun y=>(-(k:Rat))*y))) (fun x hx=>by
  rw[lG,iI,iI,lG,lG,iI,fY,fY,fY,fY,fY,fY,fY,<-qW,<-qW,(sI x0 x).1];have hP:=ay2 hx m;have a:=K x;have o:=V x;have Y:=L x;have E:=LN [-x0,1] m x;have Z:=c x;have F:aX g x=aI (aT 1 g) x:=rfl;have H:aX u x=aI (aT 1 u) x:=rfl;rw[(sI x0 x).1,(sI x0 x).2] at E;rw[J,F,H] at a;generalize aI (fJ [-x0,1] m) x=P at *;generalize bM (fJ [-x0,1] m) x=P' at *;generalize aI (aT 1 g) x=p at *;generalize bM (aT 1 g) x=r at *;generalize bM (aT 1 w) x=w1 at *;generalize aI (aT 1 s) x=n at *;generalize bM (aT 1 s) x=z at *;generalize aI (aT 1 u) x=u0 at *;generalize aI q x=j at *;generalize bM q x=X at *;generalize (m:Rat)=M at *;generalize (k:Rat)=f at *;clear b v N c T d V L K O I R S U t F H J;obtain⟨D,hD⟩:∃D,x-x0=D:=⟨_,rfl⟩;rw[hD] at E⊢;have af:P*(G*(u0*j*D)+ -f*(z*j*D+(M*(n*j)+n*X*D)))=0:=by
   have k1:r*D=M*P*j+P*X*D:=by rw[Y];grind
   have W:f*w1*D=G*(u0*p)*D:=by rw[a]
   rw[o] at W;have k3:f*(z*p+n*r)*D=f*(z*p*D+n*(r*D)):=by grind
   rw[k3,k1,Z] at W;grind
  exact(Rat.mul_eq_zero.1 af).resolve_left hP)
 rw[lG,iI,iI,lG,lG,iI,fY,fY,fY,fY,fY,fY,fY,(sI x0 x0).1] at ac;have ad:(m:Rat)≠0:=by
  have:((m:Nat):Rat)≠((0:Nat):Rat):=fun e=>T (by exact_mod_cast e);exact this
 have ae:aI (aT 1 s) x0≠0:=v;refine m6 S (m6 ad (m6 ae t)) ?_;grind
def LO(c:e=1∨e= -1)(t:List Int):(∀s∈t,s=1∨s=0∨s= -1)->∀l:Int,l=1∨l= -1->aY l (t++[e])%2=if l=e then 0 else 1:=by
 induction t with
 |nil=>
  intro _ l a;rw[iM,kP _ _ _ (by omega)];rcases a with rfl|rfl<;>rcases c with rfl|rfl<;>decide
 |cons s t f=>
  intro h l a;have b:=fun l a=>f (fun s d=>h s (j8 _ d)) l a;rw[bz4];rcases h s iC with rfl|rfl|rfl
  ·rw[kP _ _ _ (by decide)];have:=b 1 (.inl rfl);rcases a with rfl|rfl<;>rcases c with rfl|rfl<;>simp at this⊢<;>omega
  ·rw[DO];exact b l a
  ·rw[kP _ _ _ (by decide)];have:=b (-1) (.inr rfl);rcases a with rfl|rfl<;>rcases c with rfl|rfl<;>simp at this⊢<;>omega
def ay5(h:∀i,1<=i->cf z i=0)(x:Rat):aX z x=((cf z 0:Int):Rat):=by
 rw[uQ,oT (b:=[((cf z 0:Int):Rat)]) (fun i=> ?_)]
 ·show(0:Rat)*x+_=_;grind
 ·rw[dS,azF];cases i with
  |zero=>rfl
  |succ i=>rw[h (i+1) (by omega),bV (l:=[((cf z 0:Int):Rat)]) (by simp)];rfl
def ay6(h:Cn K w s c)(C:aN w)(u:∀n∈aS (bB s),nl n.natAbs<=K)(p:aP s 0 x≠0)(q:aP s 0 y≠0)(hn:fF s c 0 x 0 y=1):aP s 0 x*aP s 0 y<0:=by
 unfold fF at hn;obtain⟨z,g⟩:∃z,(s :: c).getLast?=some z:=⟨_,byP (by simp)⟩;obtain⟨E,D,m⟩:=LF h C u z g;have l:∀x,aP z 0 x=(cf z 0).sign:=fun x=>by
  rw[<-yI];unfold sF;rw[ay5 m,xJ]
 rw[fM,fM,kP _ _ _ p,kP _ _ _ q,if_neg (by simp),if_neg (by simp)] at hn;have A:=qX s 0 x;have B:=qX s 0 y;rcases List.eq_nil_or_concat c with rfl|⟨f,d,rfl⟩
 ·exfalso;rw[aqJ,aqJ] at hn;simp[aY] at hn
 ·rw[List.concat_eq_append] at g hn;rw[List.getLast?_cons,bz7] at g;obtain rfl:d=z:=by simpa using g
  have F:(cf d 0).sign≠0:=fun e=>by
   have i:cf d (d.length-1)≠0:=(dR E).1 D;have r:=Int.sign_eq_zero_iff_zero.1 e;by_cases t:d.length-1=0
   ·rw[t] at i;exact i r
   ·exact i (m _ (by omega))
  have o:(cf d 0).sign=1∨(cf d 0).sign= -1:=by
   have:=qX d 0 0;rw[l] at this;omega
  rw[aq7,aq7,List.map_singleton,List.map_singleton,l,l] at hn;have v:=LO o (f.map (fun a=>aP a 0 x)) (fun s j=>by obtain⟨a, -,rfl⟩:=List.mem_map.1 j;exact qX a 0 x) (aP s 0 x) (by omega);have p2:=LO o (f.map (fun a=>aP a 0 y)) (fun s j=>by obtain⟨a, -,rfl⟩:=List.mem_map.1 j;exact qX a 0 y) (aP s 0 y) (by omega);generalize aY (aP s 0 x) (f.map (fun a=>aP a 0 x)++[(cf d 0).sign])=H at *;generalize aY (aP s 0 y) (f.map (fun a=>aP a 0 y)++[(cf d 0).sign])=I at *;generalize (cf d 0).sign=e at *;have G:aP s 0 x≠aP s 0 y:=fun k=>by
   rw[k] at v;omega
  generalize aP s 0 x=a at *;generalize aP s 0 y=b at *;rcases A with rfl|rfl|rfl<;>rcases B with rfl|rfl|rfl<;>first|omega|(exfalso;exact p rfl)|(exfalso;exact q rfl)|decide
def azN(s:Rat->Int)(W:Rat):Nat->Rat->Rat->Rat×Rat
 |0,a,b=>(a,b)
 |n+1,a,b=>if W<b-a then (if s ((a+b)/2)=0 then ((a+b)/2,(a+b)/2) else if s ((a+b)/2)=s a then azN s W n ((a+b)/2) b else azN s W n a ((a+b)/2)) else (a,b)
section
variable {s:Rat->Int}{W a b:Rat}{n:Nat}
def byW(h:¬W<b-a):azN s W n a b=(a,b):=by
 cases n with
 |zero=>rfl
 |succ n=>exact if_neg h
def bq0(h:W<b-a)(c:s ((a+b)/2)=0):azN s W (n+1) a b=((a+b)/2,(a+b)/2):=by
 show(if W<b-a then _ else _)=_
 rw[if_pos h,if_pos c]
def bq1(h:W<b-a)(c:s ((a+b)/2)≠0)(d:s ((a+b)/2)=s a):azN s W (n+1) a b=azN s W n ((a+b)/2) b:=by
 show(if W<b-a then _ else _)=_
 rw[if_pos h,if_neg c,if_pos d]
def bq2(h:W<b-a)(c:s ((a+b)/2)≠0)(d:s ((a+b)/2)≠s a):azN s W (n+1) a b=azN s W n a ((a+b)/2):=by
 show(if W<b-a then _ else _)=_
 rw[if_pos h,if_neg c,if_neg d]
def cxA(h:b-a<=W*2^(n+1)):(a+b)/2-a<=W*2^n∧b-(a+b)/2<=W*2^n:=by
 rw[azH] at h;constructor<;>grind
def bqF(h:b-a<=W*2^0):¬W<b-a:=by
 rw[azM,aqP] at h;grind
end
def azB(lo d:Rat)(u j:Nat):Rat:=lo+d*((u:Int):Rat)/p2 j
def byX(j:Nat):p2 j≠0:=by have:=jZ j;grind
def bqG(lo d:Rat):azB lo d 0 0=lo∧azB lo d 1 0=lo+d:=by
 unfold azB;rw[DG];constructor<;>grind
def bqH(lo d:Rat)(u j:Nat):azB lo d (2*u) (j+1)=azB lo d u j∧(azB lo d u j+azB lo d (u+1) j)/2=azB lo d (2*u+1) (j+1):=by
 have v:=gW (a:=d*((u:Int):Rat)) (byX j);have m:=gW (a:=d*(((u+1:Nat):Int):Rat)) (byX j);have c:=gW (a:=d*(((2*u:Nat):Int):Rat)) (byX (j+1));have f:=gW (a:=d*(((2*u+1:Nat):Int):Rat)) (byX (j+1));have e:p2 (j+1)=p2 j*2:=by rw[jQ];rfl
 have z:=byX j;have h:(((2*u:Nat):Int):Rat)=2*((u:Int):Rat):=by rw[show((2*u:Nat):Int)=2*(u:Int) by omega,eJ];rfl
 have i:(((u+1:Nat):Int):Rat)=((u:Int):Rat)+1:=by rw[show((u+1:Nat):Int)=(u:Int)+1 by omega,aqE];rfl
 have l:(((2*u+1:Nat):Int):Rat)=2*((u:Int):Rat)+1:=by rw[show((2*u+1:Nat):Int)=2*(u:Int)+1 by omega,aqE,eJ];rfl
 unfold azB;rw[e] at c f⊢;rw[h] at c⊢;rw[i] at m⊢;rw[l] at f⊢;generalize p2 j=y at *;generalize ((u:Int):Rat)=x at *;generalize d*x/y=g at *;generalize d*(x+1)/y=q at *;generalize d*(2*x)/(y*2)=r at *;generalize d*(2*x+1)/(y*2)=t at *;have o:(r-g)*y=0:=by grind
 have p:((g+q)/2-t)*y=0:=by grind
 constructor
 ·rcases Rat.mul_eq_zero.1 o with k|k
  ·grind
  ·exact absurd k z
 ·rcases Rat.mul_eq_zero.1 p with k|k
  ·grind
  ·exact absurd k z
def cxB{lo:Rat}(o:RL K lo)(l:RL K d){u:Nat}(h:u<=2^j)(c:j<=64*m):RL (2*K+2*m+4) (azB lo d u j):=by
 have f:=X2 (m:=j) (k:=m) c (u:=(u:Int)) (by rw[dD];exact h);have g:=X2 (m:=j) (k:=m) c (u:=(2:Int)^j) (by rw[DF];exact aE);have i:RL (m+1) (((u:Int):Rat)/p2 j):=pM f g (by omega);have e:azB lo d u j=lo+d*(((u:Int):Rat)/p2 j):=by unfold azB;rw[azE,azE,azC]
 rw[e];exact bU (CI o (o6 l i)) (by omega)
def bqI(h:Cn K w s c)(o:aN w)(r:s.length<=7)(q:∀n∈s,nl n.natAbs<=K)(l:∀n∈aS (bB s),nl n.natAbs<=K){a m b:Rat}(i:a<m)(u:m<b)(g:aP s 0 a≠0)(t:aP s 0 m≠0)(hn:fF s c 0 a 0 b=1):
  (fF s c 0 a 0 m=1∧aP s 0 m≠aP s 0 a)∨(fF s c 0 a 0 m=0∧fF s c 0 m 0 b=1∧aP s 0 m=aP s 0 a):=by
 obtain⟨n,z⟩:=cx9 (max (-a) b);have hv:=bqE (n:=n) (m0:=n+2) h o r q l (by omega);have aa:ab a (p2 n):=⟨by grind,by grind⟩;have f:ab m (p2 n):=⟨by grind,by grind⟩;have p:ab b (p2 n):=⟨by grind,by grind⟩;have v:=hv.mono a m aa f i;have A:=hv.mono m b f p u;have y:=hv.same a m aa f i;have j:=ay6 h o l g t;unfold fF at hn j⊢;rcases dE (aY 0 ((s :: c).map (fun a=>aP a 0 m))) (aY 0 ((s :: c).map (fun x=>aP x 0 a))) with k|k
 ·refine .inl ⟨by omega,fun e=> ?_⟩;have:=j (by omega);rw[e] at this;have d:=qX s 0 a;rcases d with d|d|d<;>rw[d] at this<;>exact absurd this (by decide)
 ·exact .inr ⟨by omega,by omega,(y (byS k v)).2 g⟩
