/-
  Contracts, laws: CmpP, ExtA, PolyU, BezP, BezQ, TraQ, StuP, GauP, GcA, SqpP, SqpQ, StvP, RatW, CntP, RooA, SqpA, SqfA, RooB, RooC, ShiA, BouP, ExaP, ExiP, RooE, RooD, ExjP, RcoA.
-/
import Derived.Test.YthfnenohhindpaaGreatDoorD38
set_option linter.all false
set_option maxHeartbeats 8000000
set_option maxRecDepth 100000
namespace Go.Proofs.YthfnenohhindpaaGreatDoor
open Sos
end Go.Proofs.YthfnenohhindpaaGreatDoor
namespace Go.Proofs.YthfnenohhindpaaGreatDoor
open Go.RowKit Sos
def FQ (a b q:List Int) (m:Int):List Int:=aX aW (r6 (aX aW (a.map (·*m))) (pP q b) (-1))
inductive Ext (B:Nat):List Int->List Int->List Int->List Int->List Int->List Int->Prop
 |done (a s0 s1:List Int):Ext B a [] s0 s1 a s0
 |step {a b s0 s1 q r g s:List Int} {m c:Int} (hb:b≠[]) (h:PQRes a b B m q r) (hc:c≠0) (hr:∀n∈r,c∣n) (hn:∀n∈FQ s0 s1 q m,c∣n) (t:Ext B b (iA r c) s1 (iA (FQ s0 s1 q m) c) g s):Ext B a b s0 s1 g s
theorem TR {d:Nat->Int} {ys:List Int} {L:Nat} (k:ys≠[]) (o:aO ys) (b:∀i,L<=i->d i=0) (h:∀i,ys.length<=i+1->conv d (cf ys) i=0):∀i,d i=0:=by
 induction L with
 |zero=>exact fun i=>b i (Nat.zero_le _)
 |succ L l=>
  refine l (fun i r=> ?_);by_cases f:L+1<=i
  ·exact b i f
  ·have e:i=L:=by omega
   subst e;have c:=pU (p:=d) (q:=cf ys) (m:=i) (n:=ys.length-1) (fun j g=>b j (by omega)) (fun j g=>bZ (by omega));rw[h _ (by omega)] at c;rcases Int.mul_eq_zero.1 c.symm with a|a
   ·exact a
   ·exact absurd a ((fV k).1 o)
theorem TS {r:List Int} (c:aO r) (h:∀i,cf r i=0):r=[]:=mL c (fun a b=>by simp at b) (fun i=>by rw[h,fM])
def TU (q ys r xs:List Int) (m0:Int) (n:Nat):Bool:=(List.range n).all (fun i=>m0*cf xs i==conv (cf q) (cf ys) i+cf r i)
theorem lP {l:List Int} (h:(match l.getLast? with|none=>true|some a=>a != 0)=true):aO l:=fun a b=>by
 rw[b] at h;simpa using h
theorem TV {B:Nat} {a g:List Int} (h:Euc B a [] g):g=a:=by
 cases h with
 |done=>rfl
 |one b=>simp at b
 |step b _ _=>simp at b
end Go.Proofs.YthfnenohhindpaaGreatDoor
namespace Go.Proofs.YthfnenohhindpaaGreatDoor
open Sos
section
variable {R:Type} [Add R] [Mul R] [Sub R] [OfNat R 0] [CR R]
theorem T8 (p q:Nat->R) {n i:Nat} (h:i<=n):conv p q i=bS (fun k=>p k*(if k<=i then q (i-k) else 0)) (n+1):=by
 obtain⟨d,rfl⟩:∃d,n=i+d:=⟨n-i,by omega⟩;rw[show i+d+1=i+1+d by omega,vQ,nC (n:=d) (fun k _=>by rw[if_neg (by omega),CR.mul_zero]),CR.add_zero];exact jZ (fun k a=>by rw[if_pos (by omega)])
theorem T9 (p q r:Nat->R) (i:Nat):conv (conv p q) r i=conv p (conv q r) i:=by
 have b:conv (conv p q) r i=bS (fun k=>bS (fun j=>p j*((if j<=k then q (k-j) else 0)*r (i-k))) (i+1)) (i+1):=by
  refine jZ (fun k a=> ?_);rw[T8 p q (show k<=i by omega),CR.mul_comm,<-vP];refine jZ (fun j _=> ?_);rw[CR.mul_comm (r (i-k)),CR.mul_assoc]
 rw[b,JU];refine jZ (fun j l=> ?_);rw[vP];congr 1;obtain⟨d,h⟩:∃d,i+1=j+d:=⟨i+1-j,by omega⟩;rw[h,vQ,nC (n:=j) (fun k a=>by rw[if_neg (by omega),oN]),vO];have c:d=i-j+1:=by omega
 rw[c];refine jZ (fun k a=> ?_);rw[if_pos (by omega),show j+k-j=k by omega,show i-(j+k)=i-j-k by omega]
end
theorem TA (xs ys:List Int) (y:Int) (i:Nat):cf (r6 xs ys y) i=cf xs i+cf ys i*y:=by
 unfold r6;rw[nA];split
 ·rfl
 ·rw[bZ (show xs.length<=i by omega),bZ (show ys.length<=i by omega)];simp
def Dv (f:Nat->Int) (d:List Int):Prop:=∃(k:Int) (u:List Int),k≠0∧∀i,k*f i=conv (cf u) (cf d) i
section
variable {f g:Nat->Int} {d e:List Int}
theorem Dv.congr (h:Dv f d) (a:∀i,g i=f i):Dv g d:=by
 obtain⟨k,u,b,c⟩:=h;exact⟨k,u,b,fun i=>by rw[a,c]⟩
theorem Dv.self (d:List Int) (c:Int):Dv (fun i=>c*cf d i) d:=⟨1,[c],by decide,fun i=>by
 have h:∀k,cf [c] k=if k=0 then c else 0:=fun k=>by
  cases k with
  |zero=>rfl
  |succ k=>rw[bZ (by simp)];rfl
 rw[fR h (fun _=>rfl),nI,if_pos (Nat.zero_le _),Int.one_mul];rfl⟩
theorem Dv.zero (d:List Int):Dv (fun _=>0) d:=⟨1,[],by decide,fun i=>by rw[kE (fun k=>fM k)];simp⟩
theorem Dv.lin (h:Dv f d) (a:Dv g d) (q:List Int) (c c':Int):Dv (fun i=>c*f i+c'*conv (cf q) g i) d:=by
 obtain⟨k,u,b,n⟩:=h;obtain⟨l,v,m,hv⟩:=a;refine⟨k*l,r6 (u.map (·*(l*c))) (pP q v) (k*c'),Int.mul_ne_zero b m,fun i=> ?_⟩;have e:∀j,cf (r6 (u.map (·*(l*c))) (pP q v) (k*c')) j=(l*c)*cf u j+(k*c')*conv (cf q) (cf v) j:=fun j=>by
  rw[TA,y6,JO,Int.mul_comm (cf u j),Int.mul_comm (conv _ _ _)]
 rw[fR e (fun _=>rfl),nD,iZ,iZ,<-n,T9,fR (fun _=>rfl) (fun j=>(hv j).symm),pS];grind
theorem Dv.cancel {c:Int} (a:c≠0) (h:Dv (fun i=>c*f i) d):Dv f d:=by
 obtain⟨k,u,b,j⟩:=h;exact⟨k*c,u,Int.mul_ne_zero b a,fun i=>by rw[Int.mul_assoc];exact j i⟩
theorem Dv.none {r y:List Int} (h:Dv (cf r) y) (j:r.length<y.length) (o:aO y):∀i,cf r i=0:=by
 obtain⟨k,u,m,l⟩:=h;have p:y≠[]:=fun e=>by rw[e] at j;simp at j
 have n:=TR (d:=cf u) (L:=u.length) p o (fun i c=>bZ c) (fun i c=>by rw[<-l,bZ (by omega)];simp);intro i;have b:=l i;rw[kE n] at b;rcases Int.mul_eq_zero.1 b with a|a
 ·exact absurd a m
 ·exact a
end
structure ExtI (x y:List Int) (D:Int) (a b s0 s1:List Int):Prop where
 c0:Dv (fun i=>D*cf a i+ -1*conv (cf s0) (cf x) i) y
 c1:Dv (fun i=>D*cf b i+ -1*conv (cf s1) (cf x) i) y
 dv:∀d,Dv (cf a) d->Dv (cf b) d->Dv (cf x) d∧Dv (cf y) d
 ne:a≠[]∨b≠[]
 ta:aO a
 tb:aO b
 t0:aO s0
 t1:aO s1
 len:(s1=[]∧a=x∧b=y∧s0.length<=1)∨(s1.length+a.length<=y.length+1∧s0.length+a.length<=y.length∧b.length<a.length)
structure ExtR (x y:List Int) (D:Int) (g s:List Int):Prop where
 c:Dv (fun i=>D*cf g i+ -1*conv (cf s) (cf x) i) y
 dx:Dv (cf x) g
 dy:Dv (cf y) g
 ne:g≠[]
 tg:aO g
 ts:aO s
 len:s.length+g.length<=y.length
structure BezRes (A B G S T:List Rat) (Kg K:Nat):Prop where
 id_:∀i,conv (cf S) (cf A) i+conv (cf T) (cf B) i=cf G i
 da:∃U:List Rat,∀i,cf A i=conv (cf U) (cf G) i
 db:∃U:List Rat,∀i,cf B i=conv (cf U) (cf G) i
 ne:G≠[]
 tg:aO G
 ts:aO S
 tt:aO T
 last:cf G (G.length-1)=1
 len:B=[]∨S.length+G.length<=B.length
 lg:G.length<=max A.length B.length
 ls:S.length<=B.length+1
 lt:T.length<=A.length+B.length
 bg:∀q∈G,RL Kg q
 bs:∀q∈S,RL K q
 bt:∀q∈T,RL K q
 bsa:∀i,i<=1000->RL K (conv (cf S) (cf A) i)
 btb:∀i,i<=1000->RL K (conv (cf T) (cf B) i)
theorem SV {c:Rat} (h:c≠0):c⁻¹≠0:=fun e=>h (by have:=Rat.inv_inv c;rw[e,Rat.inv_zero] at this;exact this.symm)
theorem mW {c d:Rat} (h:c≠0) (k:d≠0):c*d≠0:=fun e=>(Rat.mul_eq_zero.1 e).elim h k
theorem mF {c d:Rat} (h:c≠0) (k:d≠0):c/d≠0:=by rw[Rat.div_def];exact mW h (SV k)
structure Rl (G:List Rat) (c:Rat) (r:List Rat) (e:List Int):Prop where
 c0:c≠0
 r_:∀i,conv (cf r) (cf G) i=c*cf e i
 tr:aO r
 te:aO e
theorem Rl.len {G r:List Rat} {c:Rat} {e:List Int} (h:Rl G c r e) (s:cf G (G.length-1)≠0) (hn:1<=G.length):(r=[]->e=[])∧(r≠[]->r.length+G.length=e.length+1):=by
 constructor
 ·rintro rfl;refine TS h.te (fun i=> ?_);have:=h.r_ i;rw[kE (fun k=>fM k)] at this;rcases Rat.mul_eq_zero.1 this.symm with a|a
  ·exact absurd a h.c0
  ·exact Rat.intCast_inj.1 a
 ·intro g;have w:=List.length_pos_iff.2 g;have u:=(fV g).1 h.tr;have f:=pU (p:=cf r) (q:=cf G) (m:=r.length-1) (n:=G.length-1) (fun i b=>bZ (by omega)) (fun i b=>bZ (by omega));rw[h.r_] at f;have v:cf e (r.length-1+(G.length-1))≠0:=fun d=>by
   rw[d,Rat.intCast_zero,Rat.mul_zero] at f;exact mW u s f.symm
  have l:r.length-1+(G.length-1)<e.length:=by
   rcases Nat.lt_or_ge (r.length-1+(G.length-1)) e.length with a|a
   ·exact a
   ·exact absurd (bZ a) v
  have t:e≠[]:=fun d=>by rw[d] at l;simp at l
  have x:¬r.length+(G.length-1)<e.length:=fun a=>by
   have o:=(fV t).1 h.te;have j:=pT (p:=cf r) (q:=cf G) (m:=r.length) (n:=G.length) (fun i b=>bZ b) (fun i b=>bZ b) (i:=e.length-1) (by omega);rw[h.r_] at j;exact mW h.c0 (eV o) j
  omega
def aV (f:Rat) (b:List Int):List Rat:=b.map (fun n:Int=>f*(n:Rat))
theorem eE (f:Rat) (b:List Int):(aV f b).length=b.length:=bK _
theorem eH (f:Rat) (b:List Int) (i:Nat):cf (aV f b) i=f*cf b i:=oB f b i
theorem yK {f:Rat} {b:List Int} (h:f≠0∨b=[]) (c:aO b):aO (aV f b):=by
 rcases h with h|rfl
 ·exact(iB h c).trim
 ·intro x a;cases a
theorem SQ {f:Rat} {b:List Int} {F B:Nat} (d:RL F f) (c:∀n∈b,nl n.natAbs<=B) (a:1<=B):∀q∈aV f b,RL (F+B) q:=fun q e=>by
 obtain⟨n,hn,rfl⟩:=List.mem_map.1 e;exact jD d ⟨c n hn,by show nl 1<=B;exact aG (bW (m:=1) (by unfold BN;decide)) a⟩
theorem SR {A f Q R:List Rat} {a b q r:List Int} {t:Nat} {m:Int} {c:Rat} (w:∀i,cf A i=c*cf a i) (B:c≠0) (e:Prp f b) (l:b≠[]) (h:PQRes a b t m q r) (y:DivQ A f Q R):R.length=r.length∧∀i,cf R i=c/m*cf r i:=by
 have x:=e.ne l;obtain⟨j, -,d,p,e⟩:=e;have s:=eV h.m0;have o:c/m≠0:=mF B s;have C:DivQ A f (q.map (fun n:Int=>(c/m/d)*(n:Rat))) (r.map (fun n:Int=>(c/m)*(n:Rat))):=by
  refine⟨fun i=> ?_,(iB (mF o p) h.q_trim).trim,(iB o h.r_trim).trim,by rw[bK,j];exact h.r_lt⟩;rw[fR (oB _ q) e i,iZ,pS,oB,w];have g:((m*cf a i:Int):Rat)=((conv (cf q) (cf b) i+cf r i:Int):Rat):=by rw[h.id_ i]
  rw[Rat.intCast_mul,Rat.intCast_add,mM] at g;generalize conv (fun k=>((cf q k:Int):Rat)) (fun k=>((cf b k:Int):Rat)) i=z at *
  have u:c/m/d*(d*z)=c/m*z:=by rw[<-Rat.mul_assoc,Rat.div_mul_cancel p]
  rw[u];have v:c/m*z+c/m*((cf r i:Int):Rat)=c/m*(m*cf a i):=by rw[g];grind
  rw[v,<-Rat.mul_assoc,Rat.div_mul_cancel s]
 obtain⟨-,rfl⟩:=y.unique C x (by rw[j];exact List.length_pos_iff.2 l);exact⟨bK _,oB _ r⟩
inductive ChT (B:Nat):List Int->Rat->List Int->Rat->List (List Rat)->Prop
 |done (a:List Int) (fa fb:Rat):ChT B a fa [] fb []
 |step {a b q r r':List Int} {fa fb f':Rat} {m:Int} {C:List (List Rat)} (hb:b≠[]) (h:PQRes a b B m q r) (h0:fa≠0∧fb≠0∧aO b) (ht:aO r') (hl:r'.length=r.length) (hf:f'≠0∨r'=[]) (he:∀i,f'*cf r' i= -(fa/m)*cf r i)
   (hR:∀F,RL F fa->RL (F+B) f') (hn:∀n∈r',nl n.natAbs<=B) (t:ChT B b fb r' f' C):ChT B a fa b fb (aV fb b :: C)
theorem yL {a b q r r':List Int} {c f d:Rat} {m:Int} {B:Nat} {Q R:List Rat} (k:b≠[]) (h:PQRes a b B m q r) (e:c≠0∧f≠0∧aO b) (o:aO r') (n:d≠0∨r'=[]) (l:∀i,d*cf r' i= -(c/m)*cf r i) (j:DivQ (aV c a) (aV f b) Q R):
  aX aW (lO [] (-1) R)=aV d r':=by
 obtain⟨-,g⟩:=SR (eH c a) e.1 (iB e.2.1 e.2.2) k h j;refine mL (iX _) (yK n o) (fun i=> ?_);rw[iY,uE,fM,g,eH,l];grind
theorem ChT.len {B:Nat} {a b:List Int} {c d:Rat} {C:List (List Rat)} (h:ChT B a c b d C):C.length<=b.length:=by
 induction h with
 |done a c d=>exact jX 0
 |step g h e l k j i f hn t m=>
  have:=h.r_lt;rw[List.length_cons];omega
theorem ChT.sizes {B:Nat} {a b:List Int} {f c:Rat} {C:List (List Rat)} (h:ChT B a f b c C) (j:1<=B):∀F,RL F f->RL F c->(∀n∈b,nl n.natAbs<=B)->∀A∈C,A.length<=b.length∧A≠[]∧∀q∈A,RL (F+b.length*B+B) q:=by
 induction h with
 |done a f c=>exact fun F _ _ _ A d=>by cases d
 | @step a b q r x f c y m C o h z I G E D l hn t u=>
  intro F v i w A d;have H:=h.r_lt;rcases List.mem_cons.1 d with rfl|d
  ·exact⟨by rw[eE];exact aE,fun e=>o (bM (by rw[<-eE c b,e];rfl)),fun q g=>bU (SQ i w j q g) (by omega)⟩
  ·obtain⟨J,p,s⟩:=u (F+B) (bU i (by omega)) (l F v) hn A d;refine⟨by omega,p,fun q g=>bU (s q g) ?_⟩;have k:(x.length+1)*B<=b.length*B:=cZ _ (by omega);rw[Nat.add_mul,Nat.one_mul] at k;omega
theorem FI {a b q r:List Int} {B:Nat} {m:Int} {c d:Rat} (h:PQRes a b B m q r) (e:c≠0∧d≠0):∃Q R,DivQ (aV c a) (aV d b) Q R:=by
 have f:=eV h.m0;refine⟨aV (c/m/d) q,aV (c/m) r,fun i=> ?_,(iB (mF (mF e.1 f) e.2) h.q_trim).trim,(iB (mF e.1 f) h.r_trim).trim,by rw[eE,eE];exact h.r_lt⟩;rw[fR (eH _ q) (eH _ b) i,iZ,pS,eH,eH];have g:((m*cf a i:Int):Rat)=((conv (cf q) (cf b) i+cf r i:Int):Rat):=by rw[h.id_ i]
 rw[Rat.intCast_mul,Rat.intCast_add,mM] at g;generalize conv (fun k=>((cf q k:Int):Rat)) (fun k=>((cf b k:Int):Rat)) i=z at *
 have j:c/m/d*(d*z)=c/m*z:=by rw[<-Rat.mul_assoc,Rat.div_mul_cancel e.2]
 rw[j];have l:c/m*z+c/m*((cf r i:Int):Rat)=c/m*(m*cf a i):=by rw[g];grind
 rw[l,<-Rat.mul_assoc,Rat.div_mul_cancel f]
theorem ChT.unique {B:Nat} {a b:List Int} {n o:Rat} {C:List (List Rat)} (h:ChT B a n b o C):∀{m:Nat} {g i:List Int} {k c:Rat} {f:List (List Rat)},ChT m g k i c f->aV n a=aV k g->aV o b=aV c i->C=f:=by
 induction h with
 |done a n o=>
  intro m g i k c f d _ e;cases d with
  |done=>rfl
  |step l=>exact absurd (bM (by rw[<-eE c,<-e];rfl)) l
 |step l h p z J x v H hn t D=>
  intro m g i k c f d r j;cases d with
  |done=>exact absurd (bM (by rw[<-eE,j];rfl)) l
  |step u d s A K y w I L G=>
   obtain⟨Q,R,q⟩:=FI h ⟨p.1,p.2.1⟩;have E:=yL l h p z x v q;rw[r,j] at q;have F:=yL u d s A y w q;rw[j,D G j (E.symm.trans F)]
inductive StT (B:Nat):List Int->List Int->List (List Int)->Prop
 |done (a:List Int):StT B a [] []
 |step {a b q r:List Int} {m:Int} {c:List (List Int)} (hb:b≠[]) (h:PQRes a b B m q r) (t:StT B b (if 0<m then (aQ r).map (·*(-1)) else aQ r) c):StT B a b (b :: c)
inductive All2 {α β:Type} (P:α->β->Prop):List α->List β->Prop
 |nil:All2 P [] []
 |cons {a:α} {b:β} {l:List α} {m:List β} (h:P a b) (t:All2 P l m):All2 P (a :: l) (b :: m)
def Sg (e:Rat) (A:List Rat) (a:List Int):Prop:=a≠[]∧aO a∧∃f,0<e*f∧A=aV f a
theorem kT {e f:Rat} (h:0<e*f):f≠0:=fun a=>by rw[a,Rat.mul_zero] at h;exact absurd h (by decide)
theorem SS {K:Nat} {a b:List Int} {c:List (List Int)} (h:StT K a b c) (e:Rat) (G:1<=K):∀f d:Rat,0<e*f->(b≠[]->0<e*d)->aO b->∃C,ChT K a f b d C∧All2 (Sg e) C c:=by
 induction h with
 |done a=>exact fun f d _ _ _=>⟨[],.done a f d,.nil⟩
 | @step a b q r m c j h t o=>
  intro f d y H p;have g:=H j;have Q:=eV h.m0;have B:=fK h.r_trim;by_cases v:r=[]
  ·have O:(if 0<m then (aQ r).map (·*(-1)) else aQ r)=[]:=by
    have:aQ r=[]:=bM (by rw[cS,v];rfl);rw[this];split<;>rfl
   rw[O] at t o;obtain⟨C,s,u⟩:=o d f g (fun e=>absurd rfl e) (fun x A=>by cases A);exact⟨_,.step j h ⟨kT y,kT g,p⟩ (fun x A=>by cases A) (by rw[v]) (.inr rfl) (fun i=>by rw[v,fM,Rat.intCast_zero,Rat.mul_zero,Rat.mul_zero]) (fun F hF=>bU hF (by omega)) (fun n hn=>by cases hn) s,.cons ⟨j,p,d,g,rfl⟩ u⟩
  ·have P:=kS h.r_trim v;have I:0<((aR r:Int):Rat):=by
    have:(0:Int)<(aR r:Int):=by omega
    exact_mod_cast this
   have J:nl (aR r:Int).natAbs<=K:=by rw[cI];exact lL h.br
   have M:(0:Int)<(m.natAbs:Int):=by have:=h.m0;omega
   have N:0<((m.natAbs:Int):Rat):=by exact_mod_cast M
   have l:0<e*(f*(((aR r:Int):Rat)/((m.natAbs:Int):Rat))):=by
    rw[<-Rat.mul_assoc,Rat.div_def];exact Rat.mul_pos y (Rat.mul_pos I (Rat.inv_pos.2 N))
   have w:∀F,RL F f->RL (F+K) (f*(((aR r:Int):Rat)/((m.natAbs:Int):Rat))):=fun F hF=>jD hF (jC J (by rw[cI];exact h.bm) G);have R:((m.natAbs:Int):Rat)≠0:=eV (by omega);by_cases D:0<m
   ·rw[if_pos D] at t o;have z:(m.natAbs:Int)=m:=by omega
    rw[z] at w l;have E:aO ((aQ r).map (·*(-1))):=tU (by decide) B;obtain⟨C,s,u⟩:=o d _ g (fun _=>l) E;refine⟨_,.step j h ⟨kT y,kT g,p⟩ E (by rw[bK,cS]) (.inl (kT l)) (fun i=> ?_) w (fun n hn=> ?_) s,.cons ⟨j,p,d,g,rfl⟩ u⟩
    ·rw[y6,<-iI r i,Rat.intCast_mul,Rat.intCast_mul];have:((-1:Int):Rat)= -1:=rfl;rw[this];grind
    ·obtain⟨k,L,rfl⟩:=List.mem_map.1 hn;rw[Int.natAbs_mul];simpa using fG h.br k L
   ·rw[if_neg D] at t o;have z:(m.natAbs:Int)= -m:=by omega
    rw[z,Rat.intCast_neg] at w l;obtain⟨C,s,u⟩:=o d _ g (fun _=>l) B;refine⟨_,.step j h ⟨kT y,kT g,p⟩ B (by rw[cS]) (.inl (kT l)) (fun i=> ?_) w (fG h.br) s,.cons ⟨j,p,d,g,rfl⟩ u⟩;rw[<-iI r i,Rat.intCast_mul];grind
def cC:Int->List Int->Nat
 |_,[]=>0
 |l,s :: t=>if s=0 then cC l t else (if l≠0∧s≠l then 1 else 0)+cC s t
theorem ST (t:List Int):∀l,cC (-l) (t.map (fun s=> -s))=cC l t:=by
 induction t with
 |nil=>intro l;rfl
 |cons s t c=>
  intro l;show(if -s=0 then cC (-l) (t.map (fun s=> -s)) else (if -l≠0∧ -s≠ -l then 1 else 0)+cC (-s) (t.map (fun s=> -s)))=if s=0 then cC l t else (if l≠0∧s≠l then 1 else 0)+cC s t
  rw[c l,c s];by_cases a:s=0
  ·rw[if_pos a,if_pos (by omega)]
  ·rw[if_neg a,if_neg (by omega)];congr 1;by_cases b:l≠0∧s≠l
   ·rw[if_pos b,if_pos (by omega)]
   ·rw[if_neg b,if_neg (by omega)]
def eL (A:List Rat) (i:Int) (x:Rat):Int:=if i=0 then (fQ A x).num.sign else if i<0∧A.length%2=0 then -(cf A (A.length-1)).num.sign else (cf A (A.length-1)).num.sign
def bJ (a:List Int) (i:Int) (x:Rat):Int:=if i=0 then (eT a x.num x.den).sign else if i<0∧a.length%2=0 then -(cf a (a.length-1)).sign else (cf a (a.length-1)).sign
theorem yM (f:Rat) (a:List Int) (x:Rat):fQ (aV f a) x=f*fQ (a.map (fun n:Int=>(n:Rat))) x:=by
 induction a with
 |nil=>show(0:Rat)=f*0;rw[Rat.mul_zero]
 |cons n a b=>
  show fQ (aV f a) x*x+f*n=f*(fQ (a.map (fun n:Int=>(n:Rat))) x*x+n)
  rw[b];grind
theorem SU (a:List Int) (x:Rat):(eT a x.num x.den).sign=(fQ (a.map (fun n:Int=>(n:Rat))) x).num.sign:=by
 have b:(x.den:Int)≠0:=by have:=x.den_nz;omega
 have c:0<((x.den:Int):Rat):=by
  have:(0:Int)<(x.den:Int):=by omega
  exact_mod_cast this
 have h:=S6 a x.num x.den b;have e:((x.num:Int):Rat)/((x.den:Int):Rat)=x:=by rw[Rat.intCast_natCast,<-mY]
 rw[e] at h;have d:0<((gM a x.num x.den:Int):Rat):=by
  rw[S5];have:(0:Int)<(x.den:Int)^a.length:=Int.pow_pos (by omega);exact_mod_cast this
 rw[<-xX,<-qU c,Rat.mul_comm,h,qU d]
theorem yN {f:Rat} (b:0<f) (a:List Int) (i:Int) (x:Rat):eL (aV f a) i x=bJ a i x:=by
 unfold eL bJ;rw[eE,eH,qU b,xX,yM,qU b,SU]
theorem FJ {f:Rat} (d:f<0) (a:List Int) (i:Int) (x:Rat):eL (aV f a) i x= -bJ a i x:=by
 have h:=yN (f:= -f) (by grind) a i x;have e:∀y:Rat,(-f*y).num.sign= -(f*y).num.sign:=fun y=>by
  have: -f*y= -(f*y):=by grind
  rw[this,Rat.neg_num,Int.sign_neg]
 unfold eL bJ at *;rw[eE,eH,e,yM,e] at h;rw[eE,eH,yM];by_cases b:i=0
 ·simp only[if_pos b] at h⊢;omega
 ·simp only[if_neg b] at h⊢;by_cases c:i<0∧a.length%2=0
  ·simp only[if_pos c] at h⊢;omega
  ·simp only[if_neg c] at h⊢;omega
theorem All2.map_eq {α β γ:Type} {P:α->β->Prop} {l:List α} {m:List β} (h:All2 P l m) {f:α->γ} {g:β->γ} (c:∀a b,P a b->f a=g b):l.map f=m.map g:=by
 induction h with
 |nil=>rfl
 |cons h t d=>rw[List.map_cons,List.map_cons,c _ _ h,d]
theorem uD {e:Rat} {C:List (List Rat)} {c:List (List Int)} (h:All2 (Sg e) C c) (i:Int) (x:Rat):cC 0 (C.map (fun A=>eL A i x))=cC 0 (c.map (fun a=>bJ a i x)):=by
 by_cases l:0<e
 ·rw[h.map_eq (g:=fun a=>bJ a i x) (fun A a j=>by
   obtain⟨-, -,f,b,rfl⟩:=j
   exact yN (by rcases jU f with k|k|k
                ·have:=Rat.mul_pos l (show 0< -f by grind);grind
                ·exact absurd k (kT b)
                ·exact k) a i x)]
 ·rw[h.map_eq (g:=fun a=> -bJ a i x) (fun A a j=>by
   obtain⟨-, -,f,b,rfl⟩:=j
   exact FJ (by rcases jU f with k|k|k
                ·exact k
                ·exact absurd k (kT b)
                ·rcases jU e with d|d|d
                 ·have:=Rat.mul_pos k (show 0< -e by grind);grind
                 ·rw[d,Rat.zero_mul] at b;exact absurd b (by decide)
                 ·exact absurd d l) a i x)]
  have:=ST (c.map (fun a=>bJ a i x)) 0;rw[List.map_map] at this;exact this
theorem FX {P:Nat->Prop} (h:∃n,P n):∃n,P n∧∀m,P m->n<=m:=by
 obtain⟨n,hn⟩:=h;induction n using Nat.strongRecOn with
 |ind n e=>
  by_cases h:∃m,m<n∧P m
  ·obtain⟨m,a,b⟩:=h;exact e m a b
  ·exact⟨n,hn,fun m d=>Nat.le_of_not_lt (fun c=>h ⟨m,c,d⟩)⟩
def Pm (p:Nat):Prop:=1<p∧∀a b:Int,(p:Int)∣a*b->(p:Int)∣a∨(p:Int)∣b
theorem FY {n:Nat} (h:1<n):∃p,Pm p∧p∣n:=by
 obtain⟨d,⟨j,f⟩,k⟩:=FX (P:=fun d=>1<d∧d∣n) ⟨n,h,Nat.dvd_refl n⟩;refine⟨d,⟨j,fun a b m=> ?_⟩,f⟩;have g:=Nat.gcd_dvd_left d a.natAbs;have o:=Nat.gcd_pos_of_pos_left a.natAbs (show 0<d by omega);rcases Nat.lt_or_ge 1 (Nat.gcd d a.natAbs) with i|i
 ·left;have l:=k _ ⟨i,Nat.dvd_trans g f⟩;have e:Nat.gcd d a.natAbs=d:=Nat.le_antisymm (Nat.le_of_dvd (by omega) g) l;have c:=Nat.gcd_dvd_right d a.natAbs;rw[e] at c;exact Int.ofNat_dvd_left.2 c
 ·right;have e:Nat.Coprime d a.natAbs:=by unfold Nat.Coprime;omega
  have c:=Int.ofNat_dvd_left.1 m;rw[Int.natAbs_mul] at c;exact Int.ofNat_dvd_left.2 (e.dvd_of_dvd_mul_left c)
theorem TW {p:Int} {t:Nat->Int} {n:Nat} (h:∀k,k<n->p∣t k):p∣bS t n:=by
 induction n with
 |zero=>exact Int.dvd_zero p
 |succ n a=>exact Int.dvd_add (a (fun k b=>h k (by omega))) (h n (by omega))
theorem TX {p:Int} {t:Nat->Int} {n j:Nat} (g:j<n) (h:∀k,k<n->k≠j->p∣t k):p∣bS t n-t j:=by
 induction n with
 |zero=>omega
 |succ n f=>
  rw[bS];by_cases e:j=n
  ·subst e;have:=TW (p:=p) (t:=t) (n:=j) (fun k d=>h k (by omega) (by omega));rw[show bS t j+t j-t j=bS t j by omega];exact this
  ·have b:=f (by omega) (fun k d=>h k (by omega));have c:=h n (by omega) (fun a=>e a.symm);rw[show bS t n+t n-t j=bS t n-t j+t n by omega];exact Int.dvd_add b c
theorem TY {p:Nat} (q:Pm p) {f g:Nat->Int} {i j:Nat} (hi:¬(p:Int)∣f i) (l:∀k,k<i->(p:Int)∣f k) (m:¬(p:Int)∣g j) (o:∀k,k<j->(p:Int)∣g k):¬(p:Int)∣conv f g (i+j):=fun h=>by
 have d:=TX (p:=(p:Int)) (t:=fun k=>f k*g (i+j-k)) (n:=i+j+1) (j:=i) (by omega) (fun k r s=>by
  rcases Nat.lt_or_ge k i with c|c
  ·exact Int.dvd_trans (l k c) (Int.dvd_mul_right _ _)
  ·exact Int.dvd_trans (o (i+j-k) (by omega)) (Int.dvd_mul_left _ _))
 have b:(p:Int)∣f i*g (i+j-i):=by
  have a:=Int.dvd_sub h d;have e:conv f g (i+j)-(bS (fun k=>f k*g (i+j-k)) (i+j+1)-f i*g (i+j-i))=f i*g (i+j-i):=by
   show bS (fun k=>f k*g (i+j-k)) (i+j+1)-_=_
   omega
  rw[e] at a;exact a
 rw[Nat.add_sub_cancel_left] at b;rcases q.2 _ _ b with a|a
 ·exact hi a
 ·exact m a
theorem FZ {p:Nat} (j:1<p) {f:List Int} (d:aR f=1):∃i,¬(p:Int)∣cf f i∧∀k,k<i->(p:Int)∣cf f k:=by
 obtain⟨i,a,c⟩:=FX (P:=fun i=>¬(p:Int)∣cf f i) (by
  by_cases h:∃i,¬(p:Int)∣cf f i
  ·exact h
  ·exfalso
   have a:p∣aR f:=yG (fun n hn=>by
    obtain⟨i,e,rfl⟩:=List.mem_iff_getElem.1 hn;rw[<-eJ e];by_cases b:(p:Int)∣cf f i
    ·exact b
    ·exact absurd ⟨i,b⟩ h)
   rw[d] at a;have:=Nat.le_of_dvd (by decide) a;omega)
 refine⟨i,a,fun k g=> ?_⟩;by_cases h:(p:Int)∣cf f k
 ·exact h
 ·have:=c k h;omega
theorem TZ {f g:List Int} (e:aR f=1) (k:aR g=1) {d:Nat} (h:∀i,(d:Int)∣conv (cf f) (cf g) i):d=1:=by
 by_cases c:d=1
 ·exact c
 ·exfalso;obtain⟨p,a,l⟩:∃p,Pm p∧p∣d:=by
   rcases Nat.eq_zero_or_pos d with b|b
   ·obtain⟨p,a, -⟩:=FY (n:=2) (by decide);exact⟨p,a,by rw[b];exact Nat.dvd_zero p⟩
   ·exact FY (by omega)
  obtain⟨i,m,o⟩:=FZ a.1 e;obtain⟨j,q,r⟩:=FZ a.1 k;exact TY a m o q r (Int.dvd_trans (Int.ofNat_dvd.2 l) (h (i+j)))
theorem uH {ns:List Int} (h:(aR ns:Int)≠0):aR (aQ ns)=1:=by
 have f:aR (aQ ns)*aR ns∣aR ns:=yG (fun n hn=>by
  obtain⟨i,a,rfl⟩:=List.mem_iff_getElem.1 hn;rw[<-eJ a,<-iI ns i,Int.natCast_mul];refine Int.mul_dvd_mul ?_ (Int.dvd_refl _);have e:i<(aQ ns).length:=by rw[cS];exact a
  rw[eJ e];exact yF (List.getElem_mem e))
 have b:0<aR ns:=by omega
 have k:=Nat.le_of_dvd b f;rcases Nat.lt_or_ge 1 (aR (aQ ns)) with c|c
 ·have:=cZ (aR ns) c;omega
 ·rcases Nat.eq_zero_or_pos (aR (aQ ns)) with d|d
  ·exfalso;have g:∀i,cf ns i=0:=fun i=>by
    rw[<-iI ns i];by_cases a:i<(aQ ns).length
    ·rw[eJ a,FF d _ (List.getElem_mem a),Int.zero_mul]
    ·rw[bZ (by omega),Int.zero_mul]
   have j:∀n∈ns,((aR ns+aR ns:Nat):Int)∣n:=fun n hn=>by
    obtain⟨i,a,rfl⟩:=List.mem_iff_getElem.1 hn;rw[<-eJ a,g];exact Int.dvd_zero _
   have l:=Nat.le_of_dvd b (yG j);omega
  ·omega
theorem U4 (Q:List Rat):∃D:Nat,0<D∧∀q∈Q,(q.den:Int)∣(D:Int):=by
 induction Q with
 |nil=>exact⟨1,by decide,fun q b=>by cases b⟩
 |cons a Q e=>
  obtain⟨D,c,d⟩:=e;refine⟨a.den*D,Nat.mul_pos a.den_pos c,fun q b=> ?_⟩;rw[Int.natCast_mul];rcases List.mem_cons.1 b with rfl|b
  ·exact Int.dvd_mul_right _ _
  ·exact Int.dvd_trans (d q b) (Int.dvd_mul_left _ _)
theorem U9 {xs g:List Int} {Q:List Rat} (B:aR g=1) (h:∀i,((cf xs i:Int):Rat)=conv (cf Q) (fun k=>((cf g k:Int):Rat)) i):∃q:List Int,q.length=Q.length∧∀i,cf Q i=((cf q i:Int):Rat):=by
 obtain⟨D,w,A⟩:=U4 Q;have hn:=xV Q (D:Int) A;have p:((D:Int):Rat)≠0:=eV (by omega);have t:=kQ Q (D:Int);generalize G:bE Q (D:Int)=N at *;by_cases s:(aR N:Int)=0
 ·refine⟨N,t,fun i=> ?_⟩;have e:cf N i=0:=by
   rw[<-iI N i,s,Int.mul_zero]
  have c:=hn i;rw[e] at c⊢;have f:cf Q i*((D:Int):Rat)=0:=by rw[<-c,Rat.intCast_zero]
  rcases Rat.mul_eq_zero.1 f with d|d
  ·rw[d,Rat.intCast_zero]
  ·exact absurd d p
 ·have E:=uH s;have F:∀i,(D:Int)*cf xs i=(aR N:Int)*conv (cf (aQ N)) (cf g) i:=fun i=>by
   have e:(((D:Int)*cf xs i:Int):Rat)=(((aR N:Int)*conv (cf (aQ N)) (cf g) i:Int):Rat):=by
    rw[Rat.intCast_mul,Rat.intCast_mul,mM,h i,<-iZ,<-iZ];refine fR (fun k=> ?_) (fun _=>rfl) i;have c:=hn k;rw[<-iI N k,Rat.intCast_mul] at c;grind
   exact Rat.intCast_inj.1 e
  have x:D∣aR N:=by
   have u:=Nat.gcd_dvd_left D (aR N);have v:=Nat.gcd_dvd_right D (aR N);have l:=Nat.gcd_pos_of_pos_left (aR N) w;obtain⟨a,j⟩:=u;obtain⟨b,r⟩:=v;have z:Nat.Coprime a b:=by
    have:=Nat.coprime_div_gcd_div_gcd (m:=D) (n:=aR N) l;rwa [Nat.div_eq_of_eq_mul_right l j,Nat.div_eq_of_eq_mul_right l r] at this
   have y:a=1:=TZ E B (fun i=>by
    have e:=F i;have c:((Nat.gcd D (aR N):Nat):Int)*((a:Int)*cf xs i)=((Nat.gcd D (aR N):Nat):Int)*((b:Int)*conv (cf (aQ N)) (cf g) i):=by
     rw[<-Int.mul_assoc,<-Int.mul_assoc,<-Int.natCast_mul,<-Int.natCast_mul,<-j,<-r];exact e
    have f:=Int.eq_of_mul_eq_mul_left (by omega) c;have d:(a:Int)∣(b:Int)*conv (cf (aQ N)) (cf g) i:=⟨_,f.symm⟩
    have o:=Int.ofNat_dvd_left.1 d;rw[Int.natAbs_mul,cI] at o;exact Int.ofNat_dvd_left.2 (z.dvd_of_dvd_mul_left o))
   rw[y,Nat.mul_one] at j;rw[j];exact Nat.gcd_dvd_right _ _
  obtain⟨k,C⟩:=x;refine⟨(aQ N).map (·*(k:Int)),by rw[bK,cS];exact t,fun i=> ?_⟩;rw[y6,Rat.intCast_mul];have c:=hn i;rw[<-iI N i,C,Int.natCast_mul,Rat.intCast_mul,Rat.intCast_mul] at c;have f:(((cf (aQ N) i:Int):Rat)*((k:Int):Rat)-cf Q i)*((D:Int):Rat)=0:=by grind
  rcases Rat.mul_eq_zero.1 f with d|d
  ·grind
  ·exact absurd d p
end Go.Proofs.YthfnenohhindpaaGreatDoor
namespace Go.Proofs.YthfnenohhindpaaGreatDoor
open Go.RowKit Sos
theorem uI {B:Nat} {a b g:List Int} (h:Euc B a b g) (i:1<=B):aO a->aO b->(∀n∈a,nl n.natAbs<=B)->(∀n∈b,nl n.natAbs<=B)->aO g∧(∀n∈g,nl n.natAbs<=B)∧g.length<=max a.length b.length:=by
 induction h with
 |done a=>exact fun p _ k _=>⟨p,k,Nat.le_max_left _ _⟩
 |one c=>exact fun _ _ _ _=>⟨lP rfl,fun n hn=>by rw[List.mem_singleton.1 hn];exact aG (bW (m:=1) (by unfold BN;decide)) i,by rw[c];exact Nat.le_max_right _ _⟩
 |step c h t j=>
  intro _ q _ o;obtain⟨d,e,f⟩:=j q (fK h.r_trim) o (fG h.br);rw[cS] at f;have:=h.r_lt;exact⟨d,e,by omega⟩
def GcT (A B:List Rat) (g:List Int):Prop:=∃D E,ComDen A D 8∧ComDen B E 8∧mX 43740 (bE A D) (bE B E) g
theorem GcT.ok {A B:List Rat} {g:List Int} (h:GcT A B g) (p:aO A) (r:aO B) (v:∀q∈A,RL 1 q) (x:∀q∈B,RL 1 q) (y:A.length<=7) (z:B.length<=7):(∃a b,Prp A a∧Prp B b∧Trc 43740 a b g)∧aO g∧(∀n∈g,nl n.natAbs<=43740)∧g.length<=7:=by
 obtain⟨D,E,c,d,h⟩:=h;have s:=kR c.pos c.dvd p;have t:=kR d.pos d.dvd r;have j:=fG (K:=43740) (fun n hn=>aG (nZ _ D 1 _ v c.nl_ n hn) (by decide));have k:=fG (K:=43740) (fun n hn=>aG (nZ _ E 1 _ x d.nl_ n hn) (by decide));have m:=lM (qZ c p);have o:=lM (qZ d r);have C:=kQ A D;have F:=kQ B E;unfold mX at h;split at h
 ·rename_i u;obtain⟨e,f,i⟩:=uI h (by decide) (fK t) (fK s) k j;rw[cS,cS] at i;exact⟨⟨_,_,m,o,.inr (.inr ⟨by rw[cS,cS];exact u,h,j⟩)⟩,e,f,by omega⟩
 ·obtain⟨e,f,i⟩:=uI h (by decide) (fK s) (fK t) j k;rw[cS,cS] at i;exact⟨⟨_,_,m,o,.inl h⟩,e,f,by omega⟩
section
variable (a b:List (List UInt8)) (va vb:Value) (w:World) (hG:Glob w) (ha:StrsAt w va a) (hb':StrsAt w vb b) (hla:a.length<=7) (hlb:b.length<=7) (hsa:∀l∈a,l.length<=6) (hsb:∀l∈b,l.length<=6)
include hG ha hb' hla hlb hsa hsb
end
end Go.Proofs.YthfnenohhindpaaGreatDoor
namespace Go.Proofs.YthfnenohhindpaaGreatDoor
open Sos
theorem yI (f:Nat->Int) (i:Nat):conv f (cf [1]) i=f i:=by
 have h:∀k,cf [(1:Int)] k=if k=0 then 1 else 0:=fun k=>by
  cases k with
  |zero=>rfl
  |succ k=>rw[bZ (by simp)];rfl
 rw[pR,fR h (fun _=>rfl),nI,if_pos (Nat.zero_le _),Int.one_mul];rfl
theorem SH {B:Nat} {a b g:List Int} (h:Euc B a b g):Dv (cf a) g∧Dv (cf b) g:=by
 induction h with
 |done a=>exact⟨(Dv.self a 1).congr (fun i=>(Int.one_mul _).symm),(Dv.zero a).congr (fun i=>fM i)⟩
 | @one a b d=>exact⟨⟨1,a,by decide,fun i=>by rw[yI,Int.one_mul]⟩,⟨1,b,by decide,fun i=>by rw[yI,Int.one_mul]⟩⟩
 | @step a b q r g m d h t c=>
  refine⟨Dv.cancel h.m0 ((c.2.lin c.1 q (aR r:Int) 1).congr (fun i=> ?_)),c.1⟩;rw[h.id_ i,Int.mul_comm (aR r:Int),iI r i];omega
theorem SI {B:Nat} {a b g:List Int} (h:Euc B a b g):aR a=1->(b=[]∨aR b=1)->aR g=1:=by
 induction h with
 |done a=>exact fun h _=>h
 |one c=>exact fun _ _=>rfl
 | @step a b q r g m c h t j=>
  intro _ f;have i:b≠[]:=fun e=>by rw[e] at c;simp at c
  refine j (f.resolve_left i) ?_;by_cases d:r=[]
  ·exact .inl (bM (by rw[cS,d];rfl))
  ·exact .inr (uH (kS h.r_trim d))
theorem SJ {w:List Int} (h:aR w=1):aQ w=w:=by
 refine List.ext_getElem (cS w) (fun i a b=> ?_);have:=iI w i;rw[h,eJ a,eJ b] at this;simpa using this
theorem jW {w:List Int} (h:aO w):aO (bA w):=by
 by_cases b:bA w=[]
 ·rw[b];exact fun a c=>by simp at c
 ·have f:=jF w;have g:(bA w).length≠0:=fun e=>b (bM e);have d:w≠[]:=fun e=>b (by rw[e];rfl);rw[fV b,pG,show(bA w).length-1+1=w.length-1 by omega];exact Int.mul_ne_zero ((fV d).1 h) (by omega)
structure Sqp (B:Nat) (w s:List Int):Prop where
 out:∃g,Euc B w (aQ (bA w)) g∧g≠[]∧aO g∧aR g=1∧s.length+g.length=w.length+1∧∀i,cf w i=conv (cf s) (cf g) i
 ne:s≠[]
 ts:aO s
theorem SK {B:Nat} {w g:List Int} (v:w≠[]) (o:aO w) (z:aR w=1) (h:Euc B w (aQ (bA w)) g) (C:aO g):aR g=1∧g≠[]∧∃s,s≠[]∧aO s∧s.length+g.length=w.length+1∧∀i,cf w i=conv (cf s) (cf g) i:=by
 have A:=jW o
 have a:aR g=1:=SI h z (by
  by_cases b:bA w=[]
  ·exact .inl (bM (by rw[cS,b];rfl))
  ·exact .inr (uH (kS A b)))
 have c:g≠[]:=fun e=>by rw[e] at a;cases a
 refine⟨a,c,?_⟩;obtain⟨k,u,f,n⟩:=(SH h).1;have D:=eV f
 obtain⟨q, -,t⟩:=U9 (xs:=w) (Q:=aV (1/(k:Rat)) u) a (fun i=>by
  rw[fR (eH _ u) (fun _=>rfl),iZ,<-mM,<-n i,Rat.intCast_mul];grind)
 have d:∀i,cf w i=conv (cf (aX aW q)) (cf g) i:=fun i=>by
  rw[fR (iY q) (fun _=>rfl)];have p:=n i;have r:((k*cf w i:Int):Rat)=((k*conv (cf q) (cf g) i:Int):Rat):=by
   rw[p,Rat.intCast_mul,mM,mM,fR (fun j=>(t j).symm) (fun _=>rfl),fR (eH _ u) (fun _=>rfl),iZ];grind
  exact Int.eq_of_mul_eq_mul_left f (Rat.intCast_inj.1 r)
 have m:=iX q;obtain⟨x,y⟩:=FW m o C c d;have l:aX aW q≠[]:=fun e=>v (x e);exact⟨_,l,m,(y l).symm,d⟩
theorem SL {w s g:List Int} {K L:Nat} (z:aO g) (a:g≠[]) (y:∀n∈w,nl n.natAbs<=K) (x:∀n∈g,nl n.natAbs<=L) (t:∀i,cf w i=conv (cf s) (cf g) i) (D:s.length+g.length<=1073741824):
  ∀j i,s.length<=i+j->nl (cf s i).natAbs<=K+j*(L+2):=by
 intro j;induction j with
 |zero=>intro i r;rw[bZ (by omega)];show nl 0<=_;rw[dC];omega
 |succ j v=>
  intro i r;have C:=(fV a).1 z;have B:=List.length_pos_iff.2 a;rw[Nat.add_mul,Nat.one_mul,<-Nat.add_assoc];by_cases u:s.length<=i
  ·rw[bZ u];show nl 0<=_;rw[dC];omega
  ·have q:conv (cf s) (cf g) (i+(g.length-1))=cf s i*cf g (g.length-1)+conv (fun k=>if i<k then cf s k else 0) (cf g) (i+(g.length-1)):=by
    have e:∀k,cf s k=((fun k=>if k=i then cf s i else 0) k+(fun k=>if i<k then cf s k else 0) k)+(fun k=>if k<i then cf s k else 0) k:=fun k=>by
     rcases Nat.lt_trichotomy k i with h|h|h
     ·simp only[if_neg (Nat.ne_of_lt h),if_neg (Nat.not_lt.2 (Nat.le_of_lt h)),if_pos h];omega
     ·subst h;simp
     ·simp only[if_neg (show¬k=i by omega),if_pos h,if_neg (show¬k<i by omega)];omega
    rw[fR e (fun _=>rfl),nD,nD,nI,if_pos (by omega),show i+(g.length-1)-i=g.length-1 by omega,
     pT (p:=fun k=>if k<i then cf s k else 0) (m:=i) (n:=g.length) (fun k b=>if_neg (by omega)) (fun k b=>bZ b) (by omega)]
    omega
   have c:=t (i+(g.length-1));rw[q] at c
   have d:nl (conv (fun k=>if i<k then cf s k else 0) (cf g) (i+(g.length-1))).natAbs<=(K+j*(L+2))+L+1:=FU (fun k=>by
    by_cases h:i<k
    ·simp only[if_pos h];exact v k (by omega)
    ·simp only[if_neg h];show nl 0<=_;rw[dC];omega) (gF x) (by omega)
   have f:=EG (cf w (i+(g.length-1))) (conv (fun k=>if i<k then cf s k else 0) (cf g) (i+(g.length-1))) (K+j*(L+2)+L+1) (aG (gF y _) (by omega)) d;have l:cf s i*cf g (g.length-1)=cf w (i+(g.length-1))-conv (fun k=>if i<k then cf s k else 0) (cf g) (i+(g.length-1)):=by omega
   rw[<-l,Int.natAbs_mul] at f;have o:1<=(cf g (g.length-1)).natAbs:=by omega
   have A:=bX (Nat.le_mul_of_pos_right (cf s i).natAbs o);omega
theorem SN {B:Nat} {a b g:List Int} (h:Euc B a b g):∀{v:Nat} {p f g':List Int},Euc v p f g'->∀{A k:List Rat},Prp A a->Prp A p->Prp k b->Prp k f->cO g=cO g':=by
 induction h with
 |done a=>
  intro v p f g' l A k s w j n;have o:f=[]:=bM (by rw[<-n.1,j.1];rfl);subst o;rw[TV l,<-oC s,<-oC w]
 | @one a b o=>
  intro v p f g' l A k s w j n;have u:f.length=1:=by rw[<-n.1,j.1,o]
  cases l with
  |done=>simp at u
  |one=>rfl
  |step h=>omega
 | @step a b q r g m o h t G=>
  intro v p f g' l A k s w j n;have u:1<f.length:=by rw[<-n.1,j.1];exact o
  have C:b≠[]:=fun e=>by rw[e] at o;simp at o
  cases l with
  |done=>simp at u
  |one h=>omega
  | @step _ _ L M _ K _ l J=>
   obtain⟨Q,R,x⟩:∃Q R,DivQ A k Q R:=by
    obtain⟨H, -,c,E,y⟩:=s;obtain⟨I, -,d,F,z⟩:=j;have:A=aV c a:=kU (by rw[eE];exact H) (fun i=>by rw[y,eH]);rw[this];have:k=aV d b:=kU (by rw[eE];exact I) (fun i=>by rw[z,eH]);rw[this];exact FI h ⟨E,F⟩
   have D:f≠[]:=fun e=>by rw[e] at u;simp at u
   exact G J j n (lM (yO s j C h x)) (lM (yO w n D l x))
theorem Prp.eq_smul {A:List Rat} {a:List Int} (h:Prp A a):∃c,c≠0∧A=aV c a:=by
 obtain⟨e, -,c,d,b⟩:=h;exact⟨c,d,kU (by rw[eE];exact e) (fun i=>by rw[b,eH])⟩
theorem SO {c c':Rat} {w w':List Int} (h:aV c w=aV c' w'):aV c (bA w)=aV c' (bA w'):=by
 have b:w.length=w'.length:=by rw[<-eE c w,h,eE]
 refine kU (by rw[eE,eE,jF,jF,b]) (fun i=> ?_);have a:cf (aV c w) (i+1)=cf (aV c' w') (i+1):=by rw[h]
 rw[eH,eH] at a;rw[eH,eH,pG,pG,Rat.intCast_mul,Rat.intCast_mul,<-Rat.mul_assoc,<-Rat.mul_assoc,a]
theorem yJ {s g w:List Int} {c:Rat} (b:c≠0) (ts:aO s) (j:aO g) (d:g≠[]) (m:∀i,cf w i=conv (cf s) (cf g) i):∃f,f≠0∧DivQ (aV c w) (cO g) (aV f s) []:=by
 have h:=eV ((fV d).1 j);refine⟨c*((cf g (g.length-1):Int):Rat),mW b h,fun i=> ?_,yK (.inl (mW b h)) ts,(fun a l=>by simp at l),by rw[(qY j).1];exact List.length_pos_iff.2 d⟩;have e:∀k,cf (cO g) k=(1/((cf g (g.length-1):Int):Rat))*cf g k:=fun k=>by unfold cO;rw[tV];grind
 rw[fM,Rat.add_zero,fR (eH _ s) e,iZ,pS,eH,<-mM,<-m i];grind
theorem Sqp.unique {B r:Nat} {w w' s p:List Int} (h:Sqp B w s) (a:Sqp r w' p) {A:List Rat} (b:Prp A w) (d:Prp A w'):cO s=cO p:=by
 obtain⟨g,u,i,q, -, -,D⟩:=h.out;obtain⟨N,v,C,K, -, -,E⟩:=a.out;obtain⟨c,m,e⟩:=b.eq_smul;obtain⟨L,n,l⟩:=d.eq_smul;have x:=SO (e.symm.trans l);have I:Prp (aV c (bA w)) (bA w):=iB m (jW b.2.1);have J:Prp (aV c (bA w)) (bA w'):=by rw[x];exact iB n (jW d.2.1)
 have F:=SN u v b d (lM I) (lM J);obtain⟨f,y,j⟩:=yJ m h.ts q i D;obtain⟨M,z,k⟩:=yJ n a.ts K C E;rw[<-e] at j;rw[<-l,<-F] at k;have o:=qY q;obtain⟨t, -⟩:=j.unique k (o.ne i) (by rw[o.1];exact List.length_pos_iff.2 i);have G:=oC (iB y h.ts);have H:=oC (iB z a.ts);rw[<-G,<-H];exact congrArg mG t
structure Cn (B:Nat) (w s:List Int) (c:List (List Int)):Prop where
 sq:Sqp B w s
 st:StT B s (aQ (bA s)) c
def jG (s:List Int) (c:List (List Int)) (i:Int) (x:Rat) (j:Int) (y:Rat):Int:=(cC 0 ((s :: c).map (fun a=>bJ a i x)):Int)-(cC 0 ((s :: c).map (fun a=>bJ a j y)):Int)
def uC (C:List (List Rat)) (i:Int) (x:Rat) (j:Int) (y:Rat):Int:=(cC 0 (C.map (fun A=>eL A i x)):Int)-(cC 0 (C.map (fun A=>eL A j y)):Int)
theorem oA (s:List Int):cO s=aV (1/((cf s (s.length-1):Int):Rat)) s:=kU (by rw[eE];exact bK _) (fun i=>by rw[eH];unfold cO;rw[tV];grind)
theorem yH (f:Rat) (s:List Int):eR (aV f s)=aV (f*((aR (bA s):Int):Rat)) (aQ (bA s)):=by
 refine kU (by rw[eE,cS,jF,lK,eE]) (fun i=> ?_);have h:=iI (bA s) i;have a:(((cf (aQ (bA s)) i:Int):Rat))*((aR (bA s):Int):Rat)=((cf s (i+1):Int):Rat)*((i+1:Nat):Rat):=by
  rw[<-Rat.intCast_mul,h,pG,Rat.intCast_mul];congr 1
 rw[y5,eH,eH,Rat.mul_assoc f _ ((i+1:Nat):Rat),<-a];grind
theorem Cn.rat {B:Nat} {w s:List Int} {c:List (List Int)} (h:Cn B w s c) (i:1<=B):∃C,ChT B s (1/((cf s (s.length-1):Int):Rat)) (aQ (bA s)) (1/((cf s (s.length-1):Int):Rat)*((aR (bA s):Int):Rat)) C∧All2 (Sg ((cf s (s.length-1):Int):Rat)) (cO s :: C) (s :: c):=by
 have l:=eV ((fV h.sq.ne).1 h.sq.ts);have a:0<((cf s (s.length-1):Int):Rat)*(1/((cf s (s.length-1):Int):Rat)):=by
  have:((cf s (s.length-1):Int):Rat)*(1/((cf s (s.length-1):Int):Rat))=1:=by grind
  rw[this];decide
 obtain⟨C,b,d⟩:=SS h.st ((cf s (s.length-1):Int):Rat) i _ (1/((cf s (s.length-1):Int):Rat)*((aR (bA s):Int):Rat)) a (fun j=>by
  have f:bA s≠[]:=fun e=>j (bM (by rw[cS,e];rfl));have k:=kS (jW h.sq.ts) f;have g:0<((aR (bA s):Int):Rat):=by
   have:(0:Int)<(aR (bA s):Int):=by omega
   exact_mod_cast this
  rw[<-Rat.mul_assoc];exact Rat.mul_pos a g) (fK (jW h.sq.ts))
 exact⟨C,b,.cons ⟨h.sq.ne,h.sq.ts,_,a,oA s⟩ d⟩
theorem Cn.count {B:Nat} {w s:List Int} {c:List (List Int)} {e:Rat} {C:List (List Rat)} (h:All2 (Sg e) C (s :: c)) (i:Int) (x:Rat) (j:Int) (y:Rat):uC C i x j y=jG s c i x j y:=by
 unfold uC jG;rw[uD h i x,uD h j y]
theorem Sg.zero {e:Rat} {A:List Rat} {a:List Int} (h:Sg e A a) (i:Int) (x:Rat):eL A i x=0↔bJ a i x=0:=by
 obtain⟨-, -,f,b,rfl⟩:=h;rcases jU f with k|k|k
 ·rw[FJ k];omega
 ·exact absurd k (kT b)
 ·rw[yN k]
theorem Cn.both {B b:Nat} {w w' s f:List Int} {c c':List (List Int)} (h:Cn B w s c) (d:Cn b w' f c') (n:1<=B) (o:1<=b) {A:List Rat} (l:Prp A w) (m:Prp A w'):∃C e k,All2 (Sg e) C (s :: c)∧All2 (Sg k) C (f :: c'):=by
 have a:=h.sq.unique d.sq l m;obtain⟨C,p,i⟩:=h.rat n;obtain⟨g,q,j⟩:=d.rat o;have e:C=g:=p.unique q (by rw[<-oA,<-oA,a]) (by rw[<-yH,<-yH,<-oA,<-oA,a]);exact⟨_,_,_,i,by rw[a,e];exact j⟩
theorem Cn.same {B d:Nat} {w w' s b:List Int} {c c':List (List Int)} (h:Cn B w s c) (j:Cn d w' b c') (o:1<=B) (p:1<=d) {A:List Rat} (m:Prp A w) (n:Prp A w') (i:Int) (x:Rat):cC 0 ((s :: c).map (fun a=>bJ a i x))=cC 0 ((b :: c').map (fun a=>bJ a i x))∧(bJ s i x=0↔bJ b i x=0):=by
 obtain⟨C,e,q,f,g⟩:=h.both j o p m n;refine⟨by rw[<-uD f,uD g],?_⟩;cases f with
 |cons k _=>cases g with
  |cons l _=>exact(k.zero i x).symm.trans (l.zero i x)
theorem Cn.unique {B a:Nat} {w w' s k:List Int} {c c':List (List Int)} (h:Cn B w s c) (b:Cn a w' k c') (f:1<=B) (g:1<=a) {A:List Rat} (d:Prp A w) (e:Prp A w') (i:Int) (x:Rat) (j:Int) (y:Rat):jG s c i x j y=jG k c' i x j y:=by
 unfold jG;rw[(h.same b f g d e i x).1,(h.same b f g d e j y).1]
theorem oD (n:Int): -1<=n.sign∧n.sign<=1:=by
 rcases Int.lt_trichotomy n 0 with h|h|h
 ·rw[Int.sign_eq_neg_one_of_neg h];decide
 ·rw[h];decide
 ·rw[Int.sign_eq_one_of_pos h];decide
theorem UA (a:List Int) (i:Int) (x:Rat): -1<=bJ a i x∧bJ a i x<=1:=by
 have b:=oD (eT a x.num x.den);have c:=oD (cf a (a.length-1));unfold bJ;split
 ·exact b
 ·split<;>omega
theorem G0 {α:Type} (f:α->Int) {ls:List α} {j:Nat} {a:α} (h:ls[j]? =some a) (l:Int):cC l ((ls.drop j).map f)=if f a=0 then cC l ((ls.drop (j+1)).map f) else (if l≠0∧f a≠l then 1 else 0)+cC (f a) ((ls.drop (j+1)).map f):=by
 obtain⟨b,rfl⟩:=List.getElem?_eq_some_iff.1 h;rw[List.drop_eq_getElem_cons b];rfl
theorem G1 {K b a c B:Nat} (h:(K+1)*(b-a+2)*3^(a-1)<=B) (k:c<a) (j:a<=b) (i:c≠0):(K+(b+1-a)*(K+1)+1)*(a-c+2)*3^(c-1)<=B:=by
 have e:K+(b+1-a)*(K+1)+1=(K+1)*(b-a+2):=by
  rw[show b+1-a=b-a+1 by omega,Nat.add_mul (b-a) 1 (K+1),Nat.mul_add (K+1) (b-a) 2,dD (b-a) (K+1)];omega
 have f:a-1=(a-c)+(c-1):=by omega
 have g:=FO (d:=a-c) (by omega);rw[f,Nat.pow_add,<-Nat.mul_assoc] at h;rw[e];exact aG (cZ _ (dL _ g)) h
theorem G2 {K b a B:Nat} (h:(K+1)*(b-a+2)*3^(a-1)<=B) (d:a<=b):K+(b+1-a)*(K+1)+1<=B:=by
 have c:K+(b+1-a)*(K+1)+1=(K+1)*(b-a+2):=by
  rw[show b+1-a=b-a+1 by omega,Nat.add_mul (b-a) 1 (K+1),Nat.mul_add (K+1) (b-a) 2,dD (b-a) (K+1)];omega
 rw[c];exact aG (Nat.le_mul_of_pos_right _ (Nat.pow_pos (by decide))) h
theorem UB {m:Int} {r:List Int} {K:Nat} (e:aO r) (d:∀n∈r,nl n.natAbs<=K):aO (if 0<m then (aQ r).map (·*(-1)) else aQ r)∧(∀n∈(if 0<m then (aQ r).map (·*(-1)) else aQ r),nl n.natAbs<=K)∧(if 0<m then (aQ r).map (·*(-1)) else aQ r).length=r.length:=by
 have b:=fK e;have a:=fG d;split
 ·refine⟨tU (by decide) b,fun n hn=> ?_,by rw[bK,cS]⟩;obtain⟨k,c,rfl⟩:=List.mem_map.1 hn;rw[Int.natAbs_mul];simpa using a k c
 ·exact⟨b,a,cS r⟩
theorem StT.mem {K:Nat} {a b:List Int} {c:List (List Int)} (h:StT K a b c):aO b->(∀n∈b,nl n.natAbs<=K)->∀x∈c,x≠[]∧aO x∧x.length<=b.length∧∀n∈x,nl n.natAbs<=K:=by
 induction h with
 |done a=>intro _ _ x d;cases d
 |step e h t k=>
  intro q l x d;rcases List.mem_cons.1 d with rfl|d
  ·exact⟨e,q,aE,l⟩
  ·obtain⟨m,o,p⟩:=UB h.r_trim h.br;obtain⟨f,g,i,j⟩:=k m o x d;have:=h.r_lt;rw[p] at i;exact⟨f,g,by omega,j⟩
theorem StT.len {K:Nat} {a b:List Int} {c:List (List Int)} (h:StT K a b c):c.length<=b.length:=by
 induction h with
 |done a=>exact jX 0
 | @step a b q r m c f h t e=>
  have:=h.r_lt;have d:(if 0<m then (aQ r).map (·*(-1)) else aQ r).length=r.length:=by
   split
   ·rw[bK,cS]
   ·exact cS r
  rw[d] at e;rw[List.length_cons];omega
def Sz (s:List Int):Prop:=s.length<=7∧((∀n∈s,nl n.natAbs<=9)∨s.length<=6∧∀n∈s,nl n.natAbs<=144363)
theorem Sz.nums {s:List Int} (h:Sz s):∀n∈s,nl n.natAbs<=144363:=fun n hn=>by
 rcases h.2 with k|k
 ·exact aG (k n hn) (by decide)
 ·exact k.2 n hn
theorem Sz.ex {s:List Int} (h:Sz s):∃K,(∀n∈s,nl n.natAbs<=K)∧1<=K∧K<=144363∧(K+2)*3*3^(s.length-2)<=35080695:=by
 rcases h.2 with k|k
 ·refine⟨9,k,by decide,by decide,aG (dL _ (cE (by decide) (show s.length-2<=5 by have:=h.1;omega))) (by decide)⟩
 ·exact⟨144363,k.2,by decide,by decide,aG (dL _ (cE (by decide) (show s.length-2<=4 by omega))) (by decide)⟩
end Go.Proofs.YthfnenohhindpaaGreatDoor
namespace Go.Proofs.YthfnenohhindpaaGreatDoor
open Go.RowKit Sos
end Go.Proofs.YthfnenohhindpaaGreatDoor
namespace Go.Proofs.YthfnenohhindpaaGreatDoor
open Sos
def gB (l:List UInt8) (d:Int):Int:=if l=[] then d else 0
def fL (l:List UInt8):Rat:=if l=[] then 0 else (d7 l).getD 0
def gC (l:List UInt8):Bool:=l=[]||rd l
def gN (i:Int) (x:Rat) (j:Int) (y:Rat):Bool:=if i≠j∨i≠0 then decide (i<j) else decide (x<y)
theorem qX (t:List Int):∀l,cC l t<=t.length:=by
 induction t with
 |nil=>intro l;exact jX 0
 |cons s t a=>
  intro l;show(if s=0 then cC l t else (if l≠0∧s≠l then 1 else 0)+cC s t)<=t.length+1
  have b:=a l;have c:=a s;split
  ·omega
  ·split<;>omega
def uB (w s:List Int) (c:List (List Int)):Prop:=Cn 35080695 w s c∧Sqp 24057 w s∧Sz s∧w.length<=7∧∀n∈w,nl n.natAbs<=9
def CntR (A:List Rat) (i:Int) (x:Rat) (j:Int) (y:Rat) (n:Int):Prop:=(gN i x j y=false->n=0)∧(gN i x j y=true->∃w s c,Prp A w∧uB w s c∧n=jG s c i x j y)
theorem CntR.get {A:List Rat} {B:Nat} {w s:List Int} {c:List (List Int)} (d:1<=B) (a:Prp A w) (e:Cn B w s c) {i:Int} {x:Rat} {j:Int} {y:Rat} {n:Int} (h:CntR A i x j y n) (g:gN i x j y=true):n=jG s c i x j y:=by
 obtain⟨m,l,k,b,f,rfl⟩:=h.2 g;exact f.1.unique e (by decide) d b a i x j y
end Go.Proofs.YthfnenohhindpaaGreatDoor
namespace Go.Proofs.YthfnenohhindpaaGreatDoor
open Go.RowKit Sos
def EM (w:World) (l:List UInt8) (d:Int) (e:Ending) (w':World):Prop:=∃v,e= .returned (.tuple #[v,.bool (gC l)])∧EndAt w' v (gB l d) (fL l)∧Below w.heap.size w w'
theorem PU (w:World):RatAt w (.agg #[.bool false,.slice none 0 0,.bool false,.slice none 0 0]) 0:=RatAt.of (IntAt.zero _) (IntAt.zero _) rfl rfl
theorem EN (l:List UInt8) (d:Int) (w:World) (r:Glob w) (C:l.length<=1073741824):Calls Tryz.prog 49 #[.string ⟨l.toArray⟩,.int .i64 d] w (EM w l d):=by
 have D:=fun W r=>EB l W r C;by_cases g:l=[]
 ·have c:Hid (gB l d=d∧fL l=0∧gC l=true):=by unfold Hid gB fL gC;simp[g]
  subst g;obtain⟨W,f,b,R⟩:=bB w [.bool false,.slice none 0 0,.bool false,.slice none 0 0,.int .i64 0] 97;have u:=R.g5;go_enter Tryz.func49,Tryz.ntmps49;go_wp2_with fail;(try rw[f]);clear f;obtain⟨A,e,R,b,z,B⟩:=R.put5 b (by omega) (.bool false) (.slice none 0 0) (.bool false) (.slice none 0 0) (.int .i64 d) rfl rfl;rw[e];clear e;refine aK (v:= .tuple #[.agg #[.bool false,.slice none 0 0,.bool false,.slice none 0 0,.int .i64 d],.bool true]) (by simp[results,Tryz.results49,go_sem,R.k5]) rfl ⟨.agg #[.bool false,.slice none 0 0,.bool false,.slice none 0 0,.int .i64 d],by rw[c.out.2.2],by rw[c.out.1,c.out.2.1];exact EndAt.of (PU _),b⟩
 ·have c:Hid (gB l d=0∧fL l=(d7 l).getD 0∧gC l=(d7 l).isSome):=by unfold Hid gB fL gC;simp[g];rfl
  have G:l.isEmpty=false:=by cases l with
   |nil=>exact absurd rfl g
   |cons a t=>rfl
  clear g;obtain⟨W,f,b,R⟩:=bB w [.bool false,.slice none 0 0,.bool false,.slice none 0 0,.int .i64 0] 97;have u:=R.g5;go_enter Tryz.func49,Tryz.ntmps49;go_wp2_with fail;(try rw[f]);clear f;refine(D _ (r.below b)).mono ?_;rintro F E ⟨I,rfl,m,y⟩;obtain⟨p,h,n,j,q,i,o,k,rfl⟩:=m.form;replace R:=R.below y;have H:=R.lt;replace b:=aC b y;obtain⟨J,x,s,P⟩:=bB E [.bool p,.slice h n j,.bool q,.slice i o k] 66;replace R:=R.below s;replace m:=m.below s;replace b:=aC b s;have u:=aa R.g5 P.k4;go_wp2_with fail;(try rw[x]);clear x;obtain⟨A,e,R,b,z,B⟩:=R.put5 b (by omega) (.bool p) (.slice h n j) (.bool q) (.slice i o k) (.int .i64 0) rfl rfl;rw[e];clear e;refine aK (v:= .tuple #[.agg #[.bool p,.slice h n j,.bool q,.slice i o k,.int .i64 0],.bool (d7 l).isSome]) (by simp[results,Tryz.results49,go_sem,R.k5]) rfl ⟨.agg #[.bool p,.slice h n j,.bool q,.slice i o k,.int .i64 0],by rw[c.out.2.2],by rw[c.out.1,c.out.2.1];exact EndAt.of (m.keep z),b⟩
theorem PV (i j:Int) (x y:Rat) (v u:Value) (w:World) (s:EndAt w v i x) (t:EndAt w u j y) (hi: -1<=i∧i<=1) (R: -1<=j∧j<=1) (K:Nat) (N:RL K x) (O:RL K y) (L:4*K+8<=17592186044416):
  Calls Tryz.prog 126 #[v,u] w fun e w'=>e= .returned (.bool (gN i x j y))∧Below w.heap.size w w':=by
 obtain⟨D,f,z,m,E,g,A,n,rfl⟩:=s.form;obtain⟨F,k,B,o,G,l,C,p,rfl⟩:=t.form;replace s:=s.rat;replace t:=t.rat;have d:=fun W h J=>ER x y (.agg #[.bool D,.slice f z m,.bool E,.slice g A n]) (.agg #[.bool F,.slice k B o,.bool G,.slice l C p]) W h J K N O L;by_cases r:i=j
 ·subst r;have T:(i != i)=false:=by simp
  by_cases q:i=0
  ·subst q;have c:Hid (gN 0 x 0 y=decide ((x-y).num.sign<0)):=by
    unfold Hid gN;rw[if_neg (by simp)];rcases jU (x-y) with h|h|h
    ·rw[(fJ _).2 h,decide_eq_true (show x<y by grind)];rfl
    ·rw[h,decide_eq_false (show¬x<y by grind)];rfl
    ·rw[(fJ _).1 h,decide_eq_false (show¬x<y by grind)];rfl
   obtain⟨S,I⟩:∃S,(x-y).num.sign=S:=⟨_,rfl⟩;rw[I] at d c;unfold dK at d;clear I;obtain⟨W,b,a,X,Y⟩:=dI w [.bool D,.slice f z m,.bool E,.slice g A n,.int .i64 0] 97 [.bool F,.slice k B o,.bool G,.slice l C p,.int .i64 0] 97;have H:=aa X.g5 Y.g5;go_enter Tryz.func126,Tryz.ntmps126;go_wp2_with fail;(try rw[b]);clear b;refine(d _ (s.below a) (t.below a)).mono ?_;rintro Q V ⟨rfl,M⟩;replace a:=aC a M;go_wp2_with fail;go_ret;exact⟨by rw[c.out];rfl,a⟩
  ·have c:Hid (gN i x i y=false):=by unfold Hid gN;rw[if_pos (.inr q)];simp
   have P:(i != 0)=true:=by simpa using q
   have U:¬i<i:=by omega
   clear q d;obtain⟨W,b,a,X,Y⟩:=dI w [.bool D,.slice f z m,.bool E,.slice g A n,.int .i64 i] 97 [.bool F,.slice k B o,.bool G,.slice l C p,.int .i64 i] 97;have H:=aa X.g5 Y.g5;go_enter Tryz.func126,Tryz.ntmps126;go_wp2_with fail;(try rw[b]);clear b;go_ret;exact⟨by rw[c.out];simp,a⟩
 ·have c:Hid (gN i x j y=decide (i<j)):=by unfold Hid gN;rw[if_pos (.inl r)]
  have P:(i != j)=true:=by simpa using r
  clear r d;obtain⟨W,b,a,X,Y⟩:=dI w [.bool D,.slice f z m,.bool E,.slice g A n,.int .i64 i] 97 [.bool F,.slice k B o,.bool G,.slice l C p,.int .i64 j] 97;have H:=aa X.g5 Y.g5;go_enter Tryz.func126,Tryz.ntmps126;go_wp2_with fail;(try rw[b]);clear b;go_ret;exact⟨by rw[c.out];rfl,a⟩
theorem PW (i:Int) (x:Rat) (a:List Int) (v u:Value) (w:World) (I:EndAt w v i x) (s:WholeAt w u a) (hi: -1<=i∧i<=1) (f:a≠[]) (hl:a.length<=65) (K:Nat) (O:∀n∈a,nl n.natAbs<=K) (J:RL K x) (ac:140*K+10<=17592186044416):
  Calls Tryz.prog 107 #[v,u] w (dK w (bJ a i x)):=by
 obtain⟨E,o,C,q,F,p,D,r,rfl⟩:=I.form;obtain⟨A,c,rfl,hc⟩:=s.form;replace I:=I.rat;have t:=fun W h h'=>EZ a x (.slice A a.length c) (.agg #[.bool E,.slice o C q,.bool F,.slice p D r]) W h h' K O J hl ac;have Y:=xY (ns:=a) (a:=x.num) (b:=x.den) (T:=BN^K) (fun n h=>mD (O n h)) (mD J.1) (mD J.2);have ab:nl (eT a x.num x.den).natAbs<=K*65+1:=by
  refine bW (Nat.lt_of_le_of_lt Y.1 (aU (xZ (by omega)).1 (cE (by decide) ?_)));have:=dL K (show a.length<=65 by omega);omega
 have z:=fun W u h=>pZ (eT a x.num x.den) u W h (by omega);have y:=fun W h=>tI a (.slice A a.length c) W h f (by omega);have ae:=List.length_pos_iff.2 f;have bl:=gF O (a.length-1);have B:=fun W u h=>pZ (cf a (a.length-1)) u W h (by omega);have G:=fun W=>FD a.length c A W (by omega);unfold dB at t y;unfold dK;have S1:=oD (cf a (a.length-1));obtain⟨S,P⟩:∃S,(cf a (a.length-1)).sign=S:=⟨_,rfl⟩;obtain⟨T,Q⟩:∃T,(eT a x.num x.den).sign=T:=⟨_,rfl⟩;have k:Hid (bJ a i x=if i=0 then T else if i<0∧a.length%2=0 then -S else S):=by unfold Hid bJ;rw[P,Q]
 rw[P] at S1 B;rw[Q] at z;clear Y ab bl P Q f J;generalize eT a x.num x.den=hv at *;generalize cf a (a.length-1)=cl at *;by_cases f:i=0
 ·subst f;have l:Hid (bJ a 0 x=T):=by unfold Hid;rw[k.out,if_pos rfl]
  clear y B G k;obtain⟨W,e,d,X⟩:=bB w [.bool E,.slice o C q,.bool F,.slice p D r,.int .i64 0] 97;have L:=X.g5;go_enter Tryz.func107,Tryz.ntmps107;go_wp2_with fail;(try rw[e]);clear e;refine(t _ (s.below d) (I.below d)).mono ?_;rintro M U ⟨R,rfl,m,g⟩;replace d:=aC d g;go_wp2_with fail;refine(z _ _ m).mono ?_;rintro N V ⟨rfl,j⟩;go_wp2_with fail;go_ret;exact⟨by rw[l.out];rfl,aC d j⟩
 ·have ad:i= -1∨i=1:=by omega
  rcases ad with rfl|rfl
  ·by_cases H:a.length%2=0
   ·have l:Hid (bJ a (-1) x= -S):=by unfold Hid;rw[k.out,if_neg f,if_pos ⟨by decide,H⟩]
    have r0:((a.length:Int)-1).tmod 2=1:=by rw[Int.tmod_eq_emod_of_nonneg (by omega)];omega
    clear t z k H f;obtain⟨W,e,d,X⟩:=bB w [.bool E,.slice o C q,.bool F,.slice p D r,.int .i64 (-1)] 97;have L:=X.g5;go_enter Tryz.func107,Tryz.ntmps107;go_wp2_with fail;(try rw[e]);clear e;refine(y _ (s.below d)).mono ?_;rintro M U ⟨R,rfl,m,g⟩;replace X:=X.below g;replace d:=aC d g;go_wp2_with fail;refine(B _ _ m).mono ?_;rintro N V ⟨rfl,j⟩;replace X:=X.below j;replace d:=aC d j;have Z:=X.k5;go_wp2_with fail;refine(G _).mono ?_;rintro e3 w3 ⟨rfl,rfl⟩;go_wp2_with fail;go_ret;exact⟨by rw[l.out];rfl,d⟩
   ·have l:Hid (bJ a (-1) x=S):=by unfold Hid;rw[k.out,if_neg f,if_neg (fun h=>H h.2)]
    have r0:((a.length:Int)-1).tmod 2=0:=by rw[Int.tmod_eq_emod_of_nonneg (by omega)];omega
    clear t z k H f;obtain⟨W,e,d,X⟩:=bB w [.bool E,.slice o C q,.bool F,.slice p D r,.int .i64 (-1)] 97;have L:=X.g5;go_enter Tryz.func107,Tryz.ntmps107;go_wp2_with fail;(try rw[e]);clear e;refine(y _ (s.below d)).mono ?_;rintro M U ⟨R,rfl,m,g⟩;replace X:=X.below g;replace d:=aC d g;go_wp2_with fail;refine(B _ _ m).mono ?_;rintro N V ⟨rfl,j⟩;replace X:=X.below j;replace d:=aC d j;have Z:=X.k5;go_wp2_with fail;refine(G _).mono ?_;rintro e3 w3 ⟨rfl,rfl⟩;go_wp2_with fail;go_ret;exact⟨by rw[l.out];rfl,d⟩
  ·have l:Hid (bJ a 1 x=S):=by unfold Hid;rw[k.out,if_neg f,if_neg (fun h=>absurd h.1 (by decide))]
   clear t z G k f;obtain⟨W,e,d,X⟩:=bB w [.bool E,.slice o C q,.bool F,.slice p D r,.int .i64 1] 97;have L:=X.g5;go_enter Tryz.func107,Tryz.ntmps107;go_wp2_with fail;(try rw[e]);clear e;refine(y _ (s.below d)).mono ?_;rintro M U ⟨R,rfl,m,g⟩;replace X:=X.below g;replace d:=aC d g;go_wp2_with fail;refine(B _ _ m).mono ?_;rintro N V ⟨rfl,j⟩;replace X:=X.below j;replace d:=aC d j;have Z:=X.k5;go_wp2_with fail;go_ret;exact⟨by rw[l.out];rfl,d⟩
theorem UD {p s g:List Int} (f:aO g) (b:g≠[]) (d:∀n∈p,nl n.natAbs<=9) (l:∀n∈g,nl n.natAbs<=24057) (c:∀i,cf p i=conv (cf s) (cf g) i) (o:s.length+g.length=p.length+1) (q:p.length<=7):Sz s:=by
 have m:=List.length_pos_iff.2 b;refine⟨by omega,?_⟩;by_cases j:g.length=1
 ·obtain⟨y,rfl⟩:=List.length_eq_one_iff.1 j;have r:=f y rfl;refine .inl (fun n hn=> ?_);obtain⟨i,a,rfl⟩:=List.mem_iff_getElem.1 hn;have h:∀k,cf [y] k=if k=0 then y else 0:=fun k=>by
   cases k with
   |zero=>rfl
   |succ k=>rw[bZ (by simp)];rfl
  have e:=c i;rw[pR,fR h (fun _=>rfl),nI,if_pos (Nat.zero_le _),Nat.sub_zero,eJ a] at e;have k:=gF d i;rw[e,Int.natAbs_mul] at k;exact aG (bX (Nat.le_mul_of_pos_left s[i].natAbs (show 0<y.natAbs by omega))) k
 ·refine .inr ⟨by omega,fun n hn=> ?_⟩;obtain⟨i,a,rfl⟩:=List.mem_iff_getElem.1 hn;have k:=SL f b d l c (by omega) s.length i (by omega);rw[eJ a] at k;have:s.length*(24057+2)<=6*(24057+2):=cZ _ (by omega);omega
theorem G4 (b:List Int) (v:Value) (w:World) (q:Glob w) (hv:WholeAt w v b) (r:aO b) (z:b≠[]) (hl:b.length<=7) (B:∀n∈b,nl n.natAbs<=9):
  Calls Tryz.prog 37 #[v] w fun e w'=>∃Z s,e= .returned Z∧WholeAt w' Z s∧Sqp 24057 (aQ b) s∧Sz s∧Below w.heap.size w w':=by
 obtain⟨A,c,rfl,hc⟩:=hv.form;have V:=mV b _ w q hv r 9 B (by unfold aI;decide) (by omega);have U:=cS b;have l:=fG B;have m:=fK r;have F:=uH (kS r z);have E:aQ b≠[]:=fun e=>z (bM (by rw[<-U,e];rfl));generalize aQ b=p at *;have ad:p.length<=7:=by omega
 have Q:=fun W v h=>yD p v W h 9 l (by unfold aI;decide) (by omega);have D:=o6 l (by omega);have ac:=jF p;have G:=jW m;have X:11*(p.length-(bA p).length+2)*3^(bA p).length<=24057:=by
  have a:=List.length_pos_iff.2 E;have f:∀x,x<=6->11*3*3^x<=24057:=by decide
  rw[show p.length-(bA p).length+2=3 by omega];exact f _ (by omega)
 have S:=fun W v u q a f=>T7 p (bA p) v u W q a f m G 10 24057 (fun n hn=>aG (l n hn) (by decide)) D (by decide) (fun h=>absurd h (by omega)) (fun _=>X) (by unfold aI;decide) (by omega) (by omega);have R:∀g,mX 24057 p (bA p) g->∃s,Sqp 24057 p s∧Sz s∧g≠[]∧aO g∧(∀n∈g,nl n.natAbs<=24057)∧g.length<=8∧∀i,cf p i=conv (cf s) (cf g) i:=fun g k=>by
  unfold mX at k;rw[if_neg (by omega),SJ F] at k;obtain⟨t,Y,o3⟩:=uI k (by decide) m (fK G) (fun n hn=>aG (l n hn) (by decide)) (fG (fun n hn=>aG (D n hn) (by decide)));rw[cS] at o3;obtain⟨J,o,s,K,L,M,y⟩:=SK E m F k t;exact⟨s,⟨⟨g,k,o,t,J,M,y⟩,K,L⟩,UD t o l Y y M ad,o,t,Y,by omega,y⟩
 clear D ac G X F E B z r U;generalize bA p=d at *;go_enter Tryz.func37,Tryz.ntmps37;go_wp2_with fail;refine V.mono ?_;rintro J w1 ⟨v1,rfl,a,j⟩;obtain⟨A1,c1,rfl,af⟩:=a.form;clear V;go_wp2_with fail;refine(Q _ _ a).mono ?_;rintro o w2 ⟨v2,rfl,f,O⟩;obtain⟨A2,c2,rfl,ag⟩:=f.form;replace a:=a.below O;replace j:=aC j O;clear Q;go_wp2_with fail;refine(S _ _ _ (q.below j) a f).mono ?_;rintro K w3 ⟨v3,g,rfl,N,k,P⟩;obtain⟨A3,c3,rfl,ah⟩:=N.form;replace a:=a.below P;replace j:=aC j P;obtain⟨s,C,H,g0,tg,kg,lg,T⟩:=R g k;have ae:=fun W a f=>TQ s p g (.slice A1 p.length c1) (.slice A3 g.length c3) W a f g0 C.ts m tg T 144363 H.nums (fun n hn=>aG (kg n hn) (by decide)) (by unfold aI;decide) (by omega) (by omega);have I:=aB (And.intro C H);clear k R S f C H T m l;go_wp2_with fail;refine(ae _ a N).mono ?_;rintro L w4 ⟨v4,rfl,h4,ab⟩;go_wp2_with fail;go_ret;exact⟨_,s,rfl,h4,I.out.1,I.out.2,aC j ab⟩
structure QuoOf (x c Q:List Int):Prop where
 trim:aO Q
 ne:c≠[]
 tc:aO c
 id_:∀i,cf x i=conv (cf Q) (cf c) i
inductive Sqf (B:Nat):List Int->List Int->List (List Int)->Prop
 |done {p r:List Int} (h:p.length<=1):Sqf B p r []
 |step {p r c Qp Qr:List Int} {l:List (List Int)} (h:1<p.length) (hg:mX B p r c) (hp:QuoOf p c Qp) (hr:QuoOf r c Qr) (t:Sqf B c Qr l):Sqf B p r (Qp :: l)
structure GcdFit (K B:Nat) (xs ys:List Int):Prop where
 tx:aO xs
 ty:aO ys
 kx:∀n∈xs,nl n.natAbs<=K
 ky:∀n∈ys,nl n.natAbs<=K
 b1:xs.length<ys.length->(K+1)*(ys.length-xs.length+2)*3^xs.length<=B
 b2:¬xs.length<ys.length->(K+1)*(xs.length-ys.length+2)*3^ys.length<=B
 lx:xs.length<=1073741824
 ly:ys.length<=1073741824
structure SqfInv (K B:Nat) (Inv:Nat->List Int->List Int->Prop):Prop where
 fit:∀n p r,Inv n p r->GcdFit K B p r
 go:∀n p r c,Inv n p r->1<p.length->mX B p r c->∃Qp Qr n',n'<n∧QuoOf p c Qp∧QuoOf r c Qr∧(∀x∈c,nl x.natAbs<=K)∧(∀x∈Qp,nl x.natAbs<=K)∧(∀x∈Qr,nl x.natAbs<=K)∧c.length<=1073741824∧Inv n' c Qr
theorem WsAt.mono {w:World} {B a:Nat} {v:Value} {ls:List (List Int)} (h:WsAt w B 56 v ls) (i:a<=B):WsAt w a 56 v ls:=by
 obtain⟨k,d,e,f⟩:=h;refine⟨k,?_,e,f⟩;rcases d with h|⟨g,b,c,hv,j,h⟩
 ·exact .inl h
 ·exact .inr ⟨g,b,c,hv,aG i j,h⟩
theorem WsAt.grown {w w':World} {B k:Nat} {v u:Value} {J:List Value} {ls:List (List Int)} (h:WsAt w k 56 u ls) (F:PRow w B 22 v J) (D:Keep w w') (z:w.grownBy w' v.ownBlock):WsAt w' k 56 u ls:=by
 have o:∀(b:Nat) (n:Array Value) (t:TypeId),w.heap[b]? =some (Obj.cells n t (0,0))->t≠22->w'.heap[b]? =w.heap[b]? :=fun b n t a G=>by
  refine z.block b (Array.getElem?_eq_some_iff.1 a).1 (fun e=> ?_);rcases F with ⟨rfl,_⟩|⟨g,m,f,rfl,_,d,_⟩
  ·simp[Value.ownBlock] at e
  ·simp[Value.ownBlock] at e;subst e;rw[d] at a;injection a with a;injection a with _ a;exact G a.symm
 obtain⟨us,q,r,s⟩:=h;refine⟨us,?_,r,fun i x l H E=> ?_⟩
 ·rcases q with h|⟨g,m,f,hv,a,d,h⟩
  ·exact .inl h
  ·exact .inr ⟨g,m,f,hv,a,(o g f 56 d (by decide)).trans d,h⟩
 ·obtain⟨A,c,e,y,h⟩:=s i x l H E;refine⟨A,c,e,y,?_⟩;rcases h with h|⟨b,I,p,j,C⟩
  ·exact .inl h
  ·exact .inr ⟨b,I,p,⟨(o b _ 59 j.1 (by decide)).trans j.1,j.2⟩,C.keep D⟩
theorem WsAt.one {w:World} {B:Nat} {A:Option Addr} {k c:Nat} {l:List Int} (h:WholeAt w (.slice A k c) l) (d:B<=w.heap.size):WsAt (w.alloc (.cells #[.slice A k c] 56)) B 56 (.slice (some ⟨w.heap.size,0,none⟩) 1 1) [l]:=by
 refine⟨[.slice A k c],.inr ⟨w.heap.size,1,#[.slice A k c],rfl,d,heap_alloc_new w _,aE,by decide,rfl,rfl,fun u a=> ?_⟩,rfl,fun i u e a b=> ?_⟩
 ·exact⟨A,k,c,by simpa using a⟩
 ·cases i with
  |zero=>
   injection a with a;injection b with b;subst a b;exact h.below ((aH _ _).alloc aE _)
  |succ i=>simp at a
def uJ (w:World) (s:List Int) (e:Ending) (w':World):Prop:=∃a c,e= .returned a∧WsAt w' w.heap.size 56 a (s :: c)∧StT 35080695 s (aQ (bA s)) c∧Below w.heap.size w w'
theorem UC {P:List Int} (h:aO P):aX aW (P.map (·*(-1)))=P.map (·*(-1)):=mL (iX _) (tU (by decide) h) (fun i=>iY _ i)
theorem G3 (s:List Int) (v:Value) (w:World) (N:Glob w) (hv:WholeAt w v s) (ts:aO s) (y:s≠[]) (hs:Sz s):
  Calls Tryz.prog 83 #[v] w (uJ w s):=by
 obtain⟨A,c,rfl,hc⟩:=hv.form;obtain⟨K,hK,b1,b2,a5⟩:=hs.ex;have hl:=hs.1;have R:=List.length_pos_iff.2 y;have ba:=fun W h=>yD s (.slice A s.length c) W h K hK (by unfold aI;omega) (by omega);have td:=jW ts;have kd:=o6 hK (by omega);have ld:=jF s;have ad:=fun W u N h=>mV (bA s) u W N h td (K+1) kd (by unfold aI;omega) (by omega);have tp:=fK td;have kp:=fG kd;have lp:=cS (bA s);have ks:∀n∈s,nl n.natAbs<=K+1:=fun n hn=>aG (hK n hn) (Nat.le_succ _);unfold uJ;generalize aQ (bA s)=d at *;generalize bA s=ds at *;have bt:d.length=s.length-1:=by omega
 have a7:d.length≠0->(K+1+1)*(s.length-d.length+2)*3^(d.length-1)<=35080695:=fun h=>by
  rw[show s.length-d.length+2=3 by omega,show d.length-1=s.length-2 by omega];exact a5
 have a0:=aB a7;obtain⟨w0,e0,g,X⟩:=bB w [.slice A s.length c] 56;have i:=WsAt.one hv aE;have aq:w.alloc (.cells #[.slice A s.length c] 56)=w0:=e0;rw[aq] at i;replace hv:=hv.below g;have bb:d.length<=s.length:=by omega
 have bu:d.length+1<=8:=by omega
 clear a7 a5 hs y X hK kd ld lp bt;go_enter Tryz.func83,Tryz.ntmps83;go_wp2_with fail;(try rw[aq]);clear e0 aq;refine(ba _ hv).mono ?_;rintro e1 w1 ⟨v1,rfl,h1,au⟩;obtain⟨A1,c1,rfl,bq⟩:=h1.form;replace hv:=hv.below au;replace i:=i.below au;replace g:=aC g au;clear ba;go_wp2_with fail;refine(ad _ _ (N.below g) h1).mono ?_;rintro e2 w2 ⟨v2,rfl,h2,av⟩;obtain⟨A2,c2,rfl,bs⟩:=h2.form;replace hv:=hv.below av;replace i:=i.below av;replace g:=aC g av;clear ad h1;go_wp2_with fail
 go_loopg [3,4,5] d.length (fun k vc vb vl wr=>∃a b Aa ca p x o B,Hid (b.length=k)∧vb= .slice Aa a.length ca∧vl= .slice p b.length x∧WholeAt wr (.slice Aa a.length ca) a∧WholeAt wr (.slice p b.length x) b∧WsAt wr w.heap.size 56 vc B∧Hid (aO a)∧Hid (aO b)∧Hid (∃C,B=s :: C∧∀c,StT 35080695 a b c->StT 35080695 s d (C++c))∧
  (∀n∈a,nl n.natAbs<=o)∧(∀n∈b,nl n.natAbs<=o)∧1<=o∧b.length<=a.length∧a.length<=7∧B.length+b.length<=8∧Hid (b.length≠0->(o+1)*(a.length-b.length+2)*3^(b.length-1)<=35080695)∧Below w.heap.size w wr)
 case atStart=>exact⟨s,d,A,c,A2,c2,K+1,[s],rfl,rfl,rfl,hv,h2,i,ts,tp,⟨[],rfl,fun c h=>h⟩,ks,kp,by omega,bb,hl,by rw[List.length_singleton];omega,a0,g⟩
 case round=>
  clear h2 hv i g a0 tp kp ks ts R hl hc bq bs bb bu;obtain⟨a,b,Aa,ca,p,x,o,B,HL,rfl,rfl,O,H,i,bp,ap,HE,ka,kb,a4,a8,b9,cc,HP,g⟩:=hrel;generalize wr=T at *;obtain⟨Af,b0,rfl,b7⟩:=i.form;by_cases y:b.length=0
  ·have q0:¬(0:Int)<(b.length:Int):=by omega
   have Q:b=[]:=bM y;obtain⟨C,R,E⟩:=HE.out;have E:=E [] (by rw[Q];exact .done a);rw[List.append_nil] at E;have J:=aB (And.intro R E);clear Q y E R;go_wp2_with fail;go_ret
   first
    |exact⟨_,C,rfl,by rw[J.out.1] at i;rw[J.out.1];exact i,J.out.2,g⟩
    |exact⟨_,rfl,C,by rw[J.out.1] at i;rw[J.out.1];exact i,J.out.2,g⟩
  ·have q0:(0:Int)<(b.length:Int):=by omega
   have Q:b≠[]:=fun e=>y (by rw[e];rfl);have b3:=G2 (HP.out y) a8;have pq:=fun W O H=>tM a b (.slice Aa a.length ca) (.slice p b.length x) W O H Q bp.out ap.out o _ ka kb a4 aE (by unfold aI;omega) (by omega) (by omega);unfold qR at pq;have Z:Below T.heap.size T (T.alloc (.cells #[.slice p b.length x] 56)):=(aH _ _).alloc aE _;have X:=Bx.new T [.slice p b.length x] 56;replace O:=O.below Z;replace H:=H.below Z;replace i:=i.below Z;have cd:w.heap.size<=T.heap.size:=g.size;replace g:=aC g Z;have a1:=X.cell 0 rfl;obtain⟨bz,S,an,bn⟩:=id i;go_wp2_with (at_builtin;refine r8 rfl rfl 56 24 Tryz.underlying135 TE w.heap.size _ bz rfl S T.heap.size (.slice p b.length x) rfl a1 ⟨_,_,_,rfl⟩ (by rw[an];omega) (by rw[an];unfold maxLen;omega) g.size ?_;intro v8 w8 bi ak ab);have l:=WsAt.push S an bn H bi ak ab;have za:=O.grown S ak ab;have f:=rA g ab S aE;have j:=H.grown S ak ab;obtain⟨A8,c8,rfl,b5⟩:=l.form;have a2:∃U,B++[b]=s :: U∧∀q r m c,PQRes a b 35080695 m q r->StT 35080695 b (if 0<m then (aQ r).map (·*(-1)) else aQ r) c->StT 35080695 s d (U++c):=by
    obtain⟨C,R,E⟩:=HE.out;exact⟨C++[b],by rw[R];rfl,fun q r m c h t=>by rw[List.append_assoc];exact E _ (.step Q h t)⟩
   have ay:=aB a2;have a6:(B++[b]).length=B.length+1:=by rw[aY];rfl
   have az:=aB a6;clear a6 a2 O H i X a1 Z bi ak ab S an bn g HE;generalize B++[b]=LS at *;go_wp2_with fail;refine(pq _ za j).mono ?_;rintro e3 w3 ⟨vq,vr,vm,q,r,m,rfl,hq,hr,I,z,aw⟩;obtain⟨Aq,cq,rfl, -⟩:=hq.form;obtain⟨Ar,cr,rfl,b8⟩:=hr.form;obtain⟨s3,A3,k3,c3,rfl⟩:=I.form;have bw:=z.r_lt;have ad:=fun W N h=>mV r (.slice Ar r.length cr) W N h z.r_trim _ z.br (by unfold aI;omega) (by omega);have bk:=fun W h=>pZ m (.agg #[.bool s3,.slice A3 k3 c3]) W h (aG z.bm (by omega));have am:=fK z.r_trim;have al:=fG z.br;have bc:=cS r;have bf:=z.m0;have ah:=ay.out;obtain⟨U,a9,ah⟩:=ah;have a3:=fun c=>ah q r m c (z.mono (by omega));have bh:r.length≠0->(o+(a.length+1-b.length)*(o+1)+1)*(b.length-r.length+2)*3^(r.length-1)<=35080695:=fun h=>G1 (HP.out y) bw a8 h;have bo:∀n∈b,nl n.natAbs<=o+(a.length+1-b.length)*(o+1):=fun n hn=>aG (kb n hn) (Nat.le_add_right _ _);have ar:1<=o+(a.length+1-b.length)*(o+1):=aG a4 (Nat.le_add_right _ _);have HH:=aB (And.intro a9 bh);have af:=aB a3;have L:=aB bc;clear ah a3 ay a9 bh HP Q y z pq hq za bc;generalize aQ r=P at *;generalize o+(a.length+1-b.length)*(o+1)=KK at *;replace j:=j.below aw;replace l:=l.below aw;replace f:=aC f aw;obtain⟨w4,e4,V,F⟩:=bB w3 [.bool s3,.slice A3 k3 c3] 59;replace j:=j.below V;replace l:=l.below V;replace hr:=hr.below V;replace I:=I.below V;replace f:=aC f V;have cF:=F.k2;go_wp2_with fail;(try rw[e4]);clear e4;refine(ad _ (N.below f) hr).mono ?_;rintro e5 w5 ⟨v5,rfl,D,Y⟩;obtain⟨A5,c5,rfl,b4⟩:=D.form;replace j:=j.below Y;replace l:=l.below Y;replace I:=I.below Y;replace F:=F.below Y;replace f:=aC f Y;replace cF:=F.k2;clear ad hr;go_wp2_with fail;refine(bk _ I).mono ?_;rintro e6 w6 ⟨rfl,ai⟩;replace j:=j.below ai;replace l:=l.below ai;replace D:=D.below ai;replace f:=aC f ai;clear bk cF F I;by_cases ac:0<m
   ·have ae:m.sign=1:=Int.sign_eq_one_of_pos ac;rw[ae];have G:=af.out;rw[if_pos ac] at G;have ao:=aB G;have bg:=UC am;have bj:=fun W u h h'=>JX P (-1) (.slice A5 P.length c5) u W h h' KK al (aG (bW (m:=1) (by unfold BN;decide)) ar) (by omega) (by have:=L.out;omega);rw[bg] at bj;have bx:=tU (show(-1:Int)≠0 by decide) am;have bv:∀n∈P.map (·*(-1)),nl n.natAbs<=KK:=fun n hn=>by
     obtain⟨k,hk,rfl⟩:=List.mem_map.1 hn;rw[Int.natAbs_mul];simpa using al k hk
    have ag:Hid ((P.map (·*(-1))).length=r.length):=by unfold Hid;rw[bK];exact L.out
    clear G af bg am al ae ac bf;generalize P.map (·*(-1))=M at *;go_wp2_with fail;refine(iM (-1) _ (by decide) (by decide)).mono ?_;rintro e7 w7 ⟨v7,rfl,h7,aj⟩;replace j:=j.below aj;replace l:=l.below aj;replace D:=D.below aj;replace f:=aC f aj;go_wp2_with fail;refine(bj _ _ D h7).mono ?_;rintro e9 w9 ⟨v9,rfl,h9,ax⟩;obtain⟨A9,c9,rfl,b6⟩:=h9.form;replace j:=j.below ax;replace l:=l.below ax;replace f:=aC f ax;go_wp2_with fail;go_roundg M.length
    case rel=>exact⟨b,M,p,x,A9,c9,KK,LS,rfl,rfl,rfl,j,h9,l,ap,bx,⟨U,HH.out.1,ao.out⟩,bo,bv,ar,by have:=ag.out;omega,by omega,by have:=ag.out;have:=az.out;omega,by rw[ag.out];exact HH.out.2,f⟩
    case measure=>have:=HL.out;have:=ag.out;omega
   ·have ae:m.sign= -1:=Int.sign_eq_neg_one_of_neg (by omega);rw[ae];have G:=af.out;rw[if_neg ac] at G;have ao:=aB G;clear G af ae ac bf;go_wp2_with fail;go_roundg P.length
    case rel=>exact⟨b,P,p,x,A5,c5,KK,LS,rfl,rfl,rfl,j,D,l,ap,am,⟨U,HH.out.1,ao.out⟩,bo,al,ar,by have:=L.out;omega,by omega,by have:=L.out;have:=az.out;omega,by rw[L.out];exact HH.out.2,f⟩
    case measure=>have:=HL.out;have:=L.out;omega
theorem WsAt.up {a b:World} [u:Up a b] {B:Nat} {v:Value} {ls:List (List Int)} (h:WsAt a B 56 v ls):WsAt b B 56 v ls:=h.below u.out
theorem xJ (ls:List (List Int)) (B:Nat) (i:Int) (x:Rat) (v u:Value) (w:World) (hv:WsAt w B 56 v ls) (T:EndAt w u i x) (hi: -1<=i∧i<=1) (aj:ls.length<=1024) (K:Nat) (p:∀a∈ls,a≠[]∧a.length<=65∧∀n∈a,nl n.natAbs<=K) (kx:RL K x) (ab:140*K+10<=17592186044416):
  Calls Tryz.prog 127 #[v,u] w (dK w (cC 0 (ls.map (fun a=>bJ a i x)):Nat)):=by
 obtain⟨I,q,G,t,J,r,H,y,rfl⟩:=T.form;obtain⟨A,c,rfl,hc⟩:=hv.form;have O:=fun a W u h h' (D:a∈ls)=>PW i x a (.agg #[.bool I,.slice q G t,.bool J,.slice r H y,.int .i64 i]) u W h h' hi (p a D).1 (p a D).2.1 K (p a D).2.2 kx ab;unfold dK at O;unfold dK;obtain⟨V,z⟩:∃V,cC 0 (ls.map (fun a=>bJ a i x))=V:=⟨_,rfl⟩;rw[z];have L:Hid (0+cC 0 ((ls.drop 0).map (fun a=>bJ a i x))=V):=by unfold Hid;rw[List.drop_zero,aS];exact z
 clear z p;obtain⟨W,N,d,X⟩:=bB w [.bool I,.slice q G t,.bool J,.slice r H y,.int .i64 i] 97;have cM:=X.g5;go_enter Tryz.func127,Tryz.ntmps127;go_wp2_with fail;(try rw[N]);clear N;go_loopg [5,6,12] ls.length (fun k vc vb vi wr=>∃(j C:Nat) (b:Int),Hid (j+k=ls.length)∧vc= .int .i64 C∧vb= .int .i64 b∧vi= .int .i64 j∧C<=j∧ -1<=b∧b<=1∧Hid (C+cC b ((ls.drop j).map (fun a=>bJ a i x))=V)∧Bx wr w.heap.size [.bool I,.slice q G t,.bool J,.slice r H y,.int .i64 i] 97∧Below w.heap.size w wr)
 case atStart=>exact⟨0,0,0,by unfold Hid;omega,rfl,rfl,rfl,aE,by decide,by decide,L,X,d⟩
 case round=>
  clear L X d;obtain⟨j,C,b,g,rfl,rfl,rfl,hC,ac,ad,s,X,d⟩:=hrel;generalize wr=wy at *;have ah:(0:Int)<=(j:Int):=by omega
  cases gk with
  |zero=>
   have Q:j=ls.length:=g.out;have Z:Hid (C=V):=by
    have:=s.out;rw[Q,List.drop_length] at this;exact this
   subst Q;go_wp2_with fail;go_ret;exact⟨by rw[Z.out];rfl,d⟩
  |succ k=>
   have ae:j<ls.length:=by have:=g.out;omega
   have ai:(j:Int)<(ls.length:Int):=by omega
   obtain⟨a,o⟩:∃a,ls[j]? =some a:=⟨_,aL ae⟩;obtain⟨bb,u,rfl,af,hu,P⟩:=(hv.below d).at_ o;obtain⟨Y,cu,rfl,ag⟩:=P.form;have R:cC b ((ls.drop j).map (fun a=>bJ a i x))=if bJ a i x=0 then cC b ((ls.drop (j+1)).map (fun a=>bJ a i x)) else (if b≠0∧bJ a i x≠b then 1 else 0)+cC (bJ a i x) ((ls.drop (j+1)).map (fun a=>bJ a i x)):=G0 (fun a=>bJ a i x) o b;have m:=UA a i x;have F:=O a wy (.slice Y a.length cu) (T.below d) P (cH o);have e:=s.out;rw[R] at e;clear R o s;generalize bJ a i x=S at *;have cX:=X.k5;have hw:IntKind.i64.wrap (-S)= -S:=IntWalk.i64_in _ ⟨by omega,by omega⟩;by_cases l:S=0
   ·subst l;rw[if_pos rfl] at e;replace e:=aB e;go_wp2_with fail;refine F.mono ?_;rintro M U ⟨rfl,f⟩;replace X:=X.below f;replace d:=aC d f;go_wp2_with fail;go_roundg k
    case rel=>exact⟨j+1,C,b,by have:=g.out;unfold Hid;omega,rfl,rfl,by go_num,by omega,ac,ad,e.out,X,d⟩
    case measure=>omega
   ·rw[if_neg l] at e;have q0:(S==0)=false:=by simpa using l
    by_cases E:b= -S
    ·subst E;rw[if_pos (by omega)] at e;replace e:=aB e;clear l;go_wp2_with fail;refine F.mono ?_;rintro M U ⟨rfl,f⟩;replace X:=X.below f;replace d:=aC d f;go_wp2_with fail;go_roundg k
     case rel=>exact⟨j+1,C+1,S,by have:=g.out;unfold Hid;omega,by go_num,rfl,by go_num,by omega,m.1,m.2,by have:=e.out;unfold Hid;omega,X,d⟩
     case measure=>omega
    ·rw[if_neg (by omega),aS] at e;replace e:=aB e;have q1:(b== -S)=false:=by simpa using E
     clear l E;go_wp2_with fail;refine F.mono ?_;rintro M U ⟨rfl,f⟩;replace X:=X.below f;replace d:=aC d f;go_wp2_with fail;go_roundg k
     case rel=>exact⟨j+1,C,S,by have:=g.out;unfold Hid;omega,rfl,rfl,by go_num,by omega,m.1,m.2,e.out,X,d⟩
     case measure=>omega
def xK (w:World) (s:List Int) (i:Int) (x:Rat) (j:Int) (y:Rat) (e:Ending) (w':World):Prop:=∃n:Int,e= .returned (.int .i64 n)∧ -1024<=n∧n<=1024∧(gN i x j y=false->n=0)∧(gN i x j y=true->∃c,StT 35080695 s (aQ (bA s)) c∧n=jG s c i x j y)∧Below w.heap.size w w'
theorem PT (s:List Int) (i j:Int) (x y:Rat) (v u1 u2:Value) (w:World) (J:Glob w) (hv:WholeAt w v s) (ts:aO s) (h0:s≠[]) (f:Sz s) (g:EndAt w u1 i x) (k:EndAt w u2 j y) (hi: -1<=i∧i<=1) (hj: -1<=j∧j<=1) (kx:RL 35080695 x) (ky:RL 35080695 y):
  Calls Tryz.prog 60 #[v,u1,u2] w (xK w s i x j y):=by
 obtain⟨F,l,B,q,G,m,C,r,rfl⟩:=g.form;obtain⟨H,o,D,t,I,p,E,u,rfl⟩:=k.form;have z:=fun W h e=>PV i j x y (.agg #[.bool F,.slice l B q,.bool G,.slice m C r,.int .i64 i]) (.agg #[.bool H,.slice o D t,.bool I,.slice p E u,.int .i64 j]) W h e hi hj 35080695 kx ky (by omega);have A:=fun W J h=>G3 s v W J h ts h0 f;have td:=fK (jW ts);have kd:∀n∈aQ (bA s),nl n.natAbs<=35080695:=fun n hn=>by
  obtain⟨K,hK,af,ag, -⟩:=f.ex;exact aG (fG (o6 hK (by have:=f.1;omega)) n hn) (by omega)
 have ld:(aQ (bA s)).length=s.length-1:=by rw[cS,jF]
 have Q:∀c,StT 35080695 s (aQ (bA s)) c->(s :: c).length<=8∧∀a∈s :: c,a≠[]∧a.length<=65∧∀n∈a,nl n.natAbs<=35080695:=fun c h=>by
  have h1:=h.len;have h7:=f.1;refine⟨by rw[List.length_cons];omega,fun a N=> ?_⟩;rcases List.mem_cons.1 N with rfl|N
  ·exact⟨h0,by omega,fun n hn=>aG (f.nums n hn) (by omega)⟩
  ·obtain⟨Z,e2,e3,e4⟩:=h.mem td kd a N;exact⟨Z,by omega,e4⟩
 unfold uJ at A;unfold xK;obtain⟨L,hL⟩:∃L,gN i x j y=L:=⟨_,rfl⟩;rw[hL] at z⊢;clear hL td kd ld;obtain⟨W,eW,d,X,Y⟩:=dI w [.bool F,.slice l B q,.bool G,.slice m C r,.int .i64 i] 97 [.bool H,.slice o D t,.bool I,.slice p E u,.int .i64 j] 97;have cM:=aa X.g5 Y.g5;go_enter Tryz.func60,Tryz.ntmps60;go_wp2_with fail;(try rw[eW]);clear eW;refine(z _ (g.below d) (k.below d)).mono ?_;rintro Z w1 ⟨rfl,O⟩;replace X:=X.below O;replace Y:=Y.below O;replace d:=aC d O;cases L with
 |false=>
  clear A Q z;go_wp2_with fail;go_ret
  first
   |exact⟨0,rfl,by decide,by decide,rfl,d⟩
   |exact⟨0,rfl,by decide,by decide,fun _=>rfl,(fun h=>absurd h (by decide)),d⟩
 |true=>
  clear z;go_wp2_with fail;refine(A _ (J.below d) (hv.below d)).mono ?_;rintro e2 w2 ⟨v2,c,rfl,h2,M,P⟩;replace X:=X.below P;replace Y:=Y.below P;replace d:=aC d P;obtain⟨ah,R⟩:=Q c M;have ab:=fun W h e=>xJ (s :: c) w1.heap.size i x v2 (.agg #[.bool F,.slice l B q,.bool G,.slice m C r,.int .i64 i]) W h e hi (by omega) 35080695 R kx (by omega);have ac:=fun W h e=>xJ (s :: c) w1.heap.size j y v2 (.agg #[.bool H,.slice o D t,.bool I,.slice p E u,.int .i64 j]) W h e hj (by omega) 35080695 R ky (by omega);have bx:=qX ((s :: c).map (fun a=>bJ a i x)) 0;have bY:=qX ((s :: c).map (fun a=>bJ a j y)) 0;rw[bK] at bx bY;unfold dK at ab ac;have S:Hid (jG s c i x j y=(cC 0 ((s :: c).map (fun a=>bJ a i x)):Int)-(cC 0 ((s :: c).map (fun a=>bJ a j y)):Int)):=rfl;have T:=aB M;clear A Q R M;generalize cC 0 ((s :: c).map (fun a=>bJ a i x))=U at *;generalize cC 0 ((s :: c).map (fun a=>bJ a j y))=V at *;replace g:=g.below d;replace k:=k.below d;have hw:IntKind.i64.wrap ((U:Int)-(V:Int))=(U:Int)-(V:Int):=IntWalk.i64_in _ ⟨by omega,by omega⟩;go_wp2_with fail
  go_region_held3 (fun w'=>C5 w' w.heap.size (.bool F) (.slice l B q) (.bool G) (.slice m C r) (.int .i64 i)∧C5 w' (w.heap.size+1) (.bool H) (.slice o D t) (.bool I) (.slice p E u) (.int .i64 j)) (with_reducible exact⟨X.up.k5,Y.up.k5⟩)
   (first
    |(go_at_call 127;first|(with_reducible refine(ab _ h2.up g.up).mono ?_;rintro e5 w5 ⟨rfl,ad⟩;have:=St.mk ad)|(with_reducible refine(ac _ h2.up k.up).mono ?_;rintro e6 w6 ⟨rfl,ae⟩;have:=St.mk ae)))
  all_goals (
   go_wp2_with fail;go_ret
   first
    |exact⟨_,rfl,by omega,by omega,⟨c,T.out,S.out.symm⟩,eG (b:=w5) d⟩
    |exact⟨_,rfl,by omega,by omega,⟨c,T.out,S.out.symm⟩,eG (b:=w6) d⟩)
theorem UE (x:Int) (n:Nat) (v:Value) (w:World) (hv:IntAt w v x) (hn:n<18446744073709551616) (Q:nl x.natAbs+n/64+1<=17592186044416):Calls Tryz.prog 70 #[v,.int .u64 n] w (dB w (x*2^n)):=by
 obtain⟨S,rfl,b⟩:=hv;obtain⟨k,m,rfl, -⟩:=id b;have t:(x*2^n).natAbs=x.natAbs*2^n:=by rw[Int.natAbs_mul,Int.natAbs_pow];rfl
 have A:x*2^n=if decide (x<0) then -((x.natAbs*2^n:Nat):Int) else ((x.natAbs*2^n:Nat):Int):=by
  have H:(0:Int)<2^n:=Int.pow_pos (by decide);by_cases h:x<0
  ·have:=Int.mul_neg_of_neg_of_pos h H;simp only[h,decide_true,if_true];omega
  ·have:=Int.mul_nonneg (show 0<=x by omega) (show 0<=(2:Int)^n by omega);simp only[h,decide_false];simp only[Bool.false_eq_true,if_false];omega
 have E:nl (2^n)<=n/64+1:=bW (by
  have e:BN^(n/64+1)=2^(64*(n/64+1)):=by rw[Nat.pow_mul];rfl
  rw[e];exact Nat.pow_lt_pow_right (by decide) (by omega))
 have G:=dJ x.natAbs (2^n);have z:=fun W h=>qJ x.natAbs n (.slice k (nl x.natAbs) m) W h hn (by unfold aI;omega);have y:=fun W u h=>mO (decide (x<0)) u (x.natAbs*2^n) (x*2^n) W h (by omega) A;have C:=aB t;obtain⟨f,q⟩:∃f,Hid (decide (x*2^n<0)=f):=⟨_,rfl⟩;rw[q.out] at y;unfold gS at z;clear t A E G;generalize decide (x<0)=B at *;generalize x.natAbs*2^n=P at *;obtain⟨W,r,a,X,R⟩:=dI w [.bool B,.slice k (nl x.natAbs) m] 59 [.bool false,.slice none 0 0] 59;have g:=aa X.g2 R.g2;go_enter Tryz.func70,Tryz.ntmps70;go_wp2_with fail;(try rw[r]);clear r;replace b:=b.below a;replace b:=b.drew;replace X:=X.drew;replace R:=R.drew;replace a:=a.drew;replace g:=aa X.k2 R.g2;have I:w.heap.size+1≠w.heap.size:=by omega
 go_region_held3 (fun J=>C2 J w.heap.size (.bool B) (.slice k (nl x.natAbs) m))
  (first|(with_reducible exact X.k2)|((repeat (first|with_reducible exact X.k2|with_reducible refine dW I ?_))))
  (first
   |(go_at_call 140;(with_reducible refine(z _ b).mono ?_);rintro M U ⟨T,rfl,d,O,i⟩;obtain⟨l,o,rfl, -⟩:=id d;replace X:=X.below i;replace R:=R.below i;replace g:=aa X.k2 R.g2;replace c:=Keep.below i;replace b:=b.keep c;(try replace F:=F.keep c);replace a:=aC a i)
   |(go_at_call 119;(with_reducible refine(y _ _ d).mono ?_);rintro N K ⟨rfl,j⟩;replace X:=X.below j;replace R:=R.below j;replace g:=aa X.k2 R.g2;replace c:=Keep.below j;replace b:=b.keep c;(try replace d:=d.keep c);replace a:=aC a j))
 all_goals (
  have p:IntAt K (.agg #[.bool f,.slice l (nl P) o]) (x*2^n):=⟨_,by rw[q.out],by rw[C.out];exact d⟩;go_wp2_with fail;obtain⟨L,s,R,a,c,D⟩:=R.put2 a (by omega) (.bool f) (.slice l (nl P) o) rfl rfl;replace X:=D X (by omega);replace p:=p.keep c;rw[s];clear s;replace g:=aa X.k2 R.k2;exact aK (v:= .agg #[.bool f,.slice l (nl P) o]) (by simp[results,Tryz.results70,go_sem,R.k2]) rfl ⟨_,rfl,p,a⟩
 )
end Go.Proofs.YthfnenohhindpaaGreatDoor
namespace Go.Proofs.YthfnenohhindpaaGreatDoor
open Sos
def gP (l:List Int):Int:=l.foldl (fun g c=>if g<(c.natAbs:Int) then (c.natAbs:Int) else g) 0
def fX (q:Rat):Rat:=if q.num.sign<0 then -q else q
def iV (d:Rat) (l:List Rat):Rat:=l.foldl (fun b q=>if b<fX (q/d) then fX (q/d) else b) 0
theorem G8 {α β:Type} (f:β->α->β) (b:β) (l:List α) {i:Nat} {a:α} (h:l[i]? =some a):(l.take (i+1)).foldl f b=f ((l.take i).foldl f b) a:=by
 rw[List.take_add_one,h,Option.toList_some,List.foldl_append];rfl
theorem GA {l:List Int} {i:Nat} {c:Int} (h:l[i]? =some c):gP (l.take (i+1))=if gP (l.take i)<(c.natAbs:Int) then (c.natAbs:Int) else gP (l.take i):=G8 _ _ l h
theorem GB {d:Rat} {l:List Rat} {i:Nat} {q:Rat} (h:l[i]? =some q):iV d (l.take (i+1))=if iV d (l.take i)<fX (q/d) then fX (q/d) else iV d (l.take i):=G8 _ _ l h
theorem GC {l:List Int} {K:Nat} (h:∀n∈l,nl n.natAbs<=K) (i:Nat):nl (gP (l.take i)).natAbs<=K:=by
 induction i with
 |zero=>show nl (0:Int).natAbs<=K;rw[Int.natAbs_zero,dC];omega
 |succ i b=>
  by_cases a:i<l.length
  ·rw[GA (aL a)];split
   ·rw[cI];exact h _ (List.getElem_mem a)
   ·exact b
  ·rw[cA (by omega)];rwa [cA (by omega)] at b
theorem GD {q:Rat} {K:Nat} (h:RL K q):RL K (fX q):=by
 unfold fX;split
 ·exact EU h
 ·exact h
theorem GE {d:Rat} {l:List Rat} {K L:Nat} (h:∀q∈l,RL K q) (c:RL L d) (e:1<=K) (i:Nat):RL (K+L) (iV d (l.take i)):=by
 induction i with
 |zero=>show RL (K+L) 0;exact fU (by omega)
 |succ i b=>
  by_cases a:i<l.length
  ·rw[GB (aL a)];split
   ·exact GD (uA (h _ (List.getElem_mem a)) c)
   ·exact b
  ·rw[cA (by omega)];rwa [cA (by omega)] at b
theorem UF (n:Int):((n.natAbs:Int):Rat)=fX (n:Rat):=by
 unfold fX;rw[xX];by_cases h:n<0
 ·rw[if_pos (by rw[Int.sign_eq_neg_one_of_neg h];decide),show((n.natAbs:Int))= -n by omega,Rat.intCast_neg]
 ·have:¬n.sign<0:=by rcases Int.lt_or_eq_of_le (Int.not_lt.1 h) with h|h
                     ·rw[Int.sign_eq_one_of_pos h];decide
                     ·rw[<-h];decide
  rw[if_neg this,show((n.natAbs:Int))=n by omega]
theorem GF (q:Rat):fX q=q∧0<=q∨fX q= -q∧q<0:=by
 unfold fX;rcases jU q with h|h|h
 ·rw[if_pos (by rw[(fJ q).2 h];decide)];exact .inr ⟨rfl,h⟩
 ·rw[h];exact .inl ⟨by decide,by decide⟩
 ·rw[if_neg (by rw[(fJ q).1 h];decide)];exact .inl ⟨rfl,by grind⟩
theorem GG {c:Rat} (a:0<c) (q:Rat):fX (c*q)=c*fX q:=by
 unfold fX;rw[qU a];split
 ·grind
 ·rfl
theorem UG {L:Int} {D:Rat} (j:L≠0) (u:D≠0) (l:List Int):iV ((L:Rat)/D) (l.map (fun n:Int=>(n:Rat)/D))=((gP l:Int):Rat)/((L.natAbs:Int):Rat):=by
 have v:=eV j;have t:0<((L.natAbs:Int):Rat):=by
  have:(0:Int)<(L.natAbs:Int):=by omega
  exact_mod_cast this
 have i:0<((L.natAbs:Int):Rat)⁻¹:=Rat.inv_pos.2 t;have e:∀n:Int,fX ((n:Rat)/D/((L:Rat)/D))=((n.natAbs:Int):Rat)/((L.natAbs:Int):Rat):=fun n=>by
  have d:(n:Rat)/D/((L:Rat)/D)=(n:Rat)/L:=by grind
  rw[d,UF n];rcases Int.lt_or_lt_of_ne j with h|h
  ·have a:((L.natAbs:Int):Rat)= -(L:Rat):=by rw[show(L.natAbs:Int)= -L by omega,Rat.intCast_neg]
   have f:(n:Rat)/L=(((L.natAbs:Int):Rat)⁻¹)*(-(n:Rat)):=by rw[a];grind
   rw[f,GG i,Rat.div_def,Rat.mul_comm];congr 1;rcases GF (n:Rat) with ⟨m,o⟩|⟨m,o⟩<;>rcases GF (-(n:Rat)) with ⟨p,r⟩|⟨p,r⟩<;>grind
  ·have a:((L.natAbs:Int):Rat)=(L:Rat):=by rw[show(L.natAbs:Int)=L by omega]
   have f:(n:Rat)/L=(((L.natAbs:Int):Rat)⁻¹)*(n:Rat):=by rw[a];grind
   rw[f,GG i,Rat.div_def,Rat.mul_comm]
 unfold iV gP;suffices h:∀(l:List Int) (g:Int),(l.map (fun n:Int=>(n:Rat)/D)).foldl (fun b q=>if b<fX (q/((L:Rat)/D)) then fX (q/((L:Rat)/D)) else b) ((g:Rat)/((L.natAbs:Int):Rat))=((l.foldl (fun g c=>if g<(c.natAbs:Int) then (c.natAbs:Int) else g) g:Int):Rat)/((L.natAbs:Int):Rat) by
  have:=h l 0;have z:((0:Int):Rat)/((L.natAbs:Int):Rat)=0:=by rw[Rat.intCast_zero,Rat.div_def,Rat.zero_mul]
  rwa [z] at this
 intro l;induction l with
 |nil=>intro g;rfl
 |cons n l k=>
  intro g;rw[List.map_cons,List.foldl_cons,List.foldl_cons,e];have d:((g:Rat)/((L.natAbs:Int):Rat)<((n.natAbs:Int):Rat)/((L.natAbs:Int):Rat))↔g<(n.natAbs:Int):=by
   rw[Rat.div_def,Rat.div_def];constructor
   ·intro h;have:(g:Rat)<((n.natAbs:Int):Rat):=by
     by_cases a:(g:Rat)<((n.natAbs:Int):Rat)
     ·exact a
     ·have f:((n.natAbs:Int):Rat)*(((L.natAbs:Int):Rat))⁻¹<=(g:Rat)*(((L.natAbs:Int):Rat))⁻¹:=Rat.mul_le_mul_of_nonneg_right (by grind) (Rat.le_of_lt i);grind
    exact_mod_cast this
   ·intro h;have a:(g:Rat)<((n.natAbs:Int):Rat):=by exact_mod_cast h
    exact Rat.mul_lt_mul_of_pos_right a i
  by_cases h:g<(n.natAbs:Int)
  ·rw[if_pos (d.2 h),if_pos h];exact k _
  ·rw[if_neg (fun s=>h (d.1 s)),if_neg h];exact k _
theorem yV {xs ys q r:List Int} {m:Int} (h:TU q ys r xs m 4=true) (g:xs.length<=4∧r.length<=4∧q.length+ys.length<=5) (b:m=1) (d:r.length<ys.length) (e:aO q) (f:aO r) (c:q.length<=xs.length) (k:∀n∈q++r,nl n.natAbs<=1):PQRes xs ys 1 m q r:=by
 subst b;refine⟨fun i=> ?_,by decide,d,e,f,c,⟨0,Nat.zero_le _,by rw[Int.pow_zero]⟩,fun n hn=>k n (List.mem_append_left _ hn),fun n hn=>k n (List.mem_append_right _ hn),bW (m:=1) (by unfold BN;decide)⟩;by_cases a:i<4
 ·exact of_decide_eq_true ((List.all_eq_true.1 h) i (List.mem_range.2 a))
 ·rw[bZ (by omega),bZ (l:=r) (by omega),pT (m:=q.length) (n:=ys.length) (fun i a=>bZ a) (fun i a=>bZ a) (by omega)];rfl
theorem yW {n:Nat} (h:n<4):nl n<=1:=bW (m:=1) (by unfold BN;omega)
theorem UI:Sqp 1 [-2,0,1] [-2,0,1]:=by
 refine⟨⟨[1],?_,by simp,lP rfl,rfl,rfl,fun i=>by rw[yI]⟩,by simp,lP rfl⟩;have e:aQ (bA [-2,0,1])=[0,1]:=by decide
 rw[e]
 refine .step (q:=[0,1]) (r:=[-2]) (m:=1) (by decide) (yV (by decide) (by decide) rfl (by decide) (lP rfl) (lP rfl) (by decide) (fun n hn=>by
  simp at hn;rcases hn with rfl|rfl|rfl<;>exact yW (by decide))) (.one (by decide))
theorem GH:Cn 1 [-2,0,1] [-2,0,1] [[0,1],[1]]:=by
 refine⟨UI,?_⟩;have e:aQ (bA [-2,0,1])=[0,1]:=by decide
 rw[e]
 refine .step (q:=[0,1]) (r:=[-2]) (m:=1) (by decide) (yV (by decide) (by decide) rfl (by decide) (lP rfl) (lP rfl) (by decide) (fun n hn=>by
  simp at hn;rcases hn with rfl|rfl|rfl<;>exact yW (by decide))) ?_
 have a:(if (0:Int)<1 then (aQ [-2]).map (·*(-1)) else aQ [-2])=[1]:=by decide
 rw[a]
 refine .step (q:=[0,1]) (r:=[]) (m:=1) (by decide) (yV (by decide) (by decide) rfl (by decide) (lP rfl) (fun x c=>by cases c) (by decide) (fun n hn=>by
  simp at hn;rcases hn with rfl|rfl<;>exact yW (by decide))) ?_
 have b:(if (0:Int)<1 then (aQ []).map (·*(-1)) else aQ [])=[]:=by decide
 rw[b];exact .done _
theorem UJ:jG [-2,0,1] [[0,1],[1]] (-1) 0 1 0=2:=by decide
theorem UK:cC 0 (([-2,0,1] :: [[0,1],[1]]).map (fun a=>bJ a 0 (-4)))=2∧cC 0 (([-2,0,1] :: [[0,1],[1]]).map (fun a=>bJ a 0 0))=1∧cC 0 (([-2,0,1] :: [[0,1],[1]]).map (fun a=>bJ a 0 4))=0:=by decide
theorem UL:bJ [-2,0,1] 0 (-4)=1∧bJ [-2,0,1] 0 0= -1∧bJ [-2,0,1] 0 4=1:=by decide
inductive ExK (K:Nat) (D:Rat->Rat->Prop) (V:Rat->Nat) (s:Rat->Int):Rat->Rat->List (Rat×Rat)->Prop
 |none {a b:Rat} (h:V a<=V b):ExK K D V s a b []
 |hit {a b:Rat} (h:V a=V b+1) (hb:s b=0):ExK K D V s a b [(b,b)]
 |one {a b:Rat} (h:V a=V b+1) (hb:s b≠0) (ha:s a≠0):ExK K D V s a b [(a,b)]
 |split {a b:Rat} {l m:List (Rat×Rat)} (h:V b<V a) (h':V a=V b+1->s b≠0∧s a=0) (hd:D a b) (hk:RL K ((a+b)/2)) (hl:ExK K D V s a ((a+b)/2) l) (hm:ExK K D V s ((a+b)/2) b m):ExK K D V s a b (l++m)
def Pw (b:Rat) (n:Nat):Prop:=b<=(((2:Int)^n:Int):Rat)∧∀m,m<n->(((2:Int)^m:Int):Rat)<b
theorem ExK.mono {K d:Nat} {D:Rat->Rat->Prop} {V:Rat->Nat} {s:Rat->Int} {a b:Rat} {l:List (Rat×Rat)} (h:ExK K D V s a b l) (f:K<=d):ExK d D V s a b l:=by
 induction h with
 |none h=>exact .none h
 |hit h c=>exact .hit h c
 |one h c g=>exact .one h c g
 |split h e i j _ _ k m=>exact .split h e i (bU j f) k m
def uK (x y:Rat):Prop:=x.den=1∧y.den=1
theorem UH {V:Rat->Nat} {s:Rat->Int} (h:V (-4)=2∧V 0=1∧V 4=0) (a:s (-4)≠0∧s 0≠0∧s 4≠0):ExK 1 uK V s (-4) 4 [(-4,0),(0,4)]:=by
 have e:((-4:Rat)+4)/2=0:=by grind
 refine .split (l:=[(-4,0)]) (m:=[(0,4)]) (by omega) (fun b=>by omega) ⟨rfl,rfl⟩ (by rw[e];exact fU (by decide)) ?_ ?_
 ·rw[e];exact .one (by omega) a.2.1 a.1
 ·rw[e];exact .one (by omega) a.2.2 a.2.1
end Go.Proofs.YthfnenohhindpaaGreatDoor
namespace Go.Proofs.YthfnenohhindpaaGreatDoor
open Go.RowKit Sos
theorem p9:RL 1 (1:Rat):=⟨bW (m:=1) (by unfold BN;decide),bW (m:=1) (by unfold BN;decide)⟩
def pC (ns:List Int):Rat:=((gP (ns.take (ns.length-1)):Int):Rat)/(((cf ns (ns.length-1)).natAbs:Int):Rat)+1
theorem xI {ns:List Int} {K:Nat} (b:∀n∈ns,nl n.natAbs<=K) (a:1<=K):RL (2*K+2) (pC ns)∧RL K (((gP (ns.take (ns.length-1)):Int):Rat)/(((cf ns (ns.length-1)).natAbs:Int):Rat)):=by
 have h:=jC (GC b (ns.length-1)) (show nl (((cf ns (ns.length-1)).natAbs:Int)).natAbs<=K by rw[cI];exact gF b _) a;exact⟨bU (xE h (bU p9 a)) (by omega),h⟩
theorem EK (x y:Rat) (a b:Value) (w:World) (_:Glob w) (f:RatAt w a x) (g:RatAt w b y) (i:y.den=1) (K:Nat) (d:RL K x) (c:RL K y) (e:10*K+40<=aI):Calls Tryz.prog 91 #[a,b] w (eP w (x+y)):=by
 by_cases h:x.den=1
 ·exact QB x y a b w f g h i K d c e
 ·exact QC x y a b w f g h i K d c e
theorem EL (ns:List Int) (v:Value) (w:World) (o:Glob w) (hv:WholeAt w v ns) (Q:ns≠[]) (ht:aO ns) (K:Nat) (y:∀n∈ns,nl n.natAbs<=K) (hl:ns.length<=65) (h1:1<=K) (an:K<=1073741824):
  Calls Tryz.prog 38 #[v] w (eP w (pC ns)):=by
 obtain⟨A,c,rfl,hc⟩:=hv.form;have aw:=List.length_pos_iff.2 Q;obtain⟨m,hm⟩:∃m,ns.length-1=m:=⟨_,rfl⟩;have al:(ns.length:Int)-1=(m:Int):=by omega
 have Z:=fun W=>FD ns.length c A W (by omega);simp only[al] at Z;have H:=fun W h=>tI ns (.slice A ns.length c) W h Q (by omega);have bl:=gF y m;obtain⟨-,J⟩:=xI y h1;have ak:cf ns m≠0:=by rw[<-hm];exact(fV Q).1 ht
 have bG:=fun j=>GC y j;unfold pC;rw[hm] at H J⊢;have S:=fun W v h=>EO (cf ns m) v W h;have ab:=fun W u v o h p=>tF (gP (ns.take m)) ((cf ns m).natAbs:Int) u v W o h p K (bG m) (by rw[cI];exact bl) (by unfold aI;omega);have ac:=fun W=>Q4 1 W (by decide) (by decide);have U:=fun W u v o h p=>EK (((gP (ns.take m):Int):Rat)/(((cf ns m).natAbs:Int):Rat)) ((1:Int):Rat) u v W o h p rfl K J (bU p9 h1) (by unfold aI;omega);have M:(1:Rat)=((1:Int):Rat):=rfl;rw[M];have ay:(0:Int)<=(m:Int):=by omega
 have az:(m:Int)<=(c:Int):=by omega
 unfold dB at H S;unfold eP at ab ac U;unfold eP;generalize (((gP (ns.take m):Int):Rat)/(((cf ns m).natAbs:Int):Rat))=F at *;generalize ((1:Int):Rat)=a1 at *;generalize cf ns m=cl at *;clear J bl M ak;obtain⟨W,eW,a,R,G⟩:=dI w [.bool false,.slice none 0 0,.bool false,.slice none 0 0] 66 [.bool false,.slice none 0 0] 59;have cM:=aa R.g4 G.g2;go_enter Tryz.func38,Tryz.ntmps38;go_wp2_with fail;(try rw[eW]);clear eW;refine(Z _).mono ?_;rintro M w1 ⟨rfl,rfl⟩;have ae:IntBx w1 (w.heap.size+1) (gP (ns.take 0)):=⟨_,_,_,_,G,IntAt.zero _⟩;clear G;go_wp2_with fail;go_loopg [12] m (fun k i wr=>∃j,Hid (j+k=m)∧i= .int .i64 j∧IntBx wr (w.heap.size+1) (gP (ns.take j))∧Bx wr w.heap.size [.bool false,.slice none 0 0,.bool false,.slice none 0 0] 66∧Below w.heap.size w wr)
 case atStart=>exact⟨0,by unfold Hid;omega,rfl,ae,R,a⟩
 case round=>
  clear ae R a;obtain⟨j,t,rfl,⟨s,B,l,d,G,f⟩,R,a⟩:=hrel;generalize wr=wy at *;have ar:(0:Int)<=(j:Int):=by omega
  cases gk with
  |zero=>
   obtain rfl:j=m:=t.out;have cG:=G.g2;go_wp2_with fail
   go_region_held3 (fun w'=>C2 w' (w.heap.size+1) (.bool s) (.slice B l d))
    (first|(with_reducible exact G.up.k2)|(with_reducible exact dW (by omega) (dW (by omega) (dW (by omega) (dW (by omega) G.up.k2)))))
    (first
     |(go_at_call 66;(with_reducible refine(H _ (hv.below a).up).mono ?_);rintro e3 w3 ⟨v3,rfl,e,z⟩;obtain⟨s3,I,k3,L,rfl⟩:=e.form;have:=St.mk z)
     |(go_at_call 67;(with_reducible refine(S _ _ e.up).mono ?_);rintro N w4 ⟨v4,rfl,h4,C⟩;obtain⟨s4,A4,k4,c4,rfl⟩:=h4.form;have:=St.mk C)
     |(go_at_call 68;(with_reducible refine(ab _ _ _ (o.below a).up f.up h4.up).mono ?_);rintro e5 w5 ⟨v5,rfl,h5,g⟩;obtain⟨s5,A5,k5,c5,s6,A6,k6,c6,rfl⟩:=h5.form;have:=St.mk g)
     |(go_at_call 92;(with_reducible refine(ac _).mono ?_);rintro e7 w7 ⟨v7,rfl,h7,ai⟩;obtain⟨s7,A7,k7,c7,s8,A8,k8,c8,rfl⟩:=h7.form;have:=St.mk ai)
     |(go_at_call 91;(with_reducible refine(U _ _ _ (o.below a).up h5.up h7.up).mono ?_);rintro e9 w9 ⟨v9,rfl,h9,aj⟩;obtain⟨s1,A1,k1,c1,s2,A2,k2,c2,rfl⟩:=h9.form;have:=St.mk aj;have R9:=R.up (b:=w9);have am:=R9.g4))
   all_goals (
    go_wp2_with fail;obtain⟨W6,x,R6,V,hk,ff⟩:=R9.put4 (eG (b:=w9) a) aE (.bool s1) (.slice A1 k1 c1) (.bool s2) (.slice A2 k2 c2) rfl rfl;rw[x];exact aK (v:= .agg #[.bool s1,.slice A1 k1 c1,.bool s2,.slice A2 k2 c2]) (by simp[results,Tryz.results38,go_sem,R6.k4]) rfl ⟨_,rfl,h9.keep hk,V⟩)
  |succ k=>
   have av:j<m:=by have:=t.out;omega
   have au:(j:Int)<(m:Int):=by omega
   obtain⟨n,hn⟩:∃n,ns[j]? =some n:=⟨_,aL (by omega)⟩;have af:=GA hn;have kn:=y n (cH hn);obtain⟨b,s',B',l',d',ag,aq,g0,g1,E⟩:=(hv.below a).at_ hn;subst ag;have T:=fun W v h=>EO n v W h;have D:=fun W u v h p=>xL (n.natAbs:Int) (gP (ns.take j)) u v W h p (by rw[cI];omega) (aG (bG j) (by omega));have ad:=aB af;unfold dB at T;unfold dK at D;obtain⟨P,hP⟩:∃P,bN (n.natAbs:Int) (gP (ns.take j))=P:=⟨_,rfl⟩;have ah:=iH (n.natAbs:Int) (gP (ns.take j));rw[hP] at D ah;clear af hn H S ab ac U Z hP;generalize gP (ns.take j)=O at *;obtain⟨w2,e2,r,X⟩:=bB wy [.bool s',.slice B' l' d'] 59;replace G:=G.below r;replace R:=R.below r;replace f:=f.below r;replace E:=E.below r;replace a:=aC a r;have cX:=X.k2;go_wp2_with fail;(try rw[e2]);(try clear e2);refine(T _ _ E).mono ?_;rintro e3 w3 ⟨v3,rfl,e,z⟩;obtain⟨s3,I,k3,L,rfl⟩:=e.form;obtain⟨w4,N,C,Y⟩:=bB w3 [.bool s3,.slice I k3 L] 59;have q:=aC z C;replace G:=G.below q;replace R:=R.below q;replace f:=f.below q;replace e:=e.below C;replace a:=aC a q;have cY:=aa Y.k2 G.k2;clear cX X E g0 g1;go_wp2_with fail;(try rw[N]);(try clear N);refine(D _ _ _ e f).mono ?_;rintro e5 w5 ⟨rfl,g⟩;replace Y:=Y.below g;replace G:=G.below g;replace R:=R.below g;replace f:=f.below g;replace e:=e.below g;replace a:=aC a g;have ap:=Y.lt;have a0:=q.size;have cY:=aa Y.k2 G.g2;clear T D;by_cases ax:O<(n.natAbs:Int)
   ·obtain rfl:P=1:=by omega
    go_wp2_with fail;obtain⟨W6,x,G6,V,hk,ff⟩:=G.put2 a (by omega) (.bool s3) (.slice I k3 L) rfl rfl;rw[x];clear x;go_roundg k
    case rel=>exact⟨j+1,by have:=t.out;unfold Hid;omega,by go_num,⟨_,_,_,_,G6,by rw[ad.out,if_pos (show O<(n.natAbs:Int) by omega)];exact e.keep hk⟩,ff R (by omega),V⟩
    case measure=>omega
   ·have ao:¬(0:Int)<P:=by omega
    go_wp2_with fail;go_roundg k
    case rel=>exact⟨j+1,by have:=t.out;unfold Hid;omega,by go_num,⟨_,_,_,_,G,by rw[ad.out,if_neg (show¬O<(n.natAbs:Int) by omega)];exact f⟩,R,a⟩
    case measure=>omega
def d8 (ls:List (List UInt8)):Int:=if vl ls=true then (if ls=[] then 5 else 0) else 1
def UM (v:Value):Prop:=∃s A k c,v= .agg #[.bool s,.slice A k c]
def UN (w':World) (ls:List (List UInt8)) (E:Int) (v a:Value):Prop:=E=0->∃D,vl ls=true∧ls≠[]∧ComDen (aN ls) D 8∧WholeAt w' v (bE (aN ls) D)∧IntAt w' a D
def pJ (w:World) (ls:List (List UInt8)) (e:Ending) (w':World):Prop:=∃A k c a,e= .returned (.tuple #[.slice A k c,a,.int .i64 (d8 ls)])∧UM a∧UN w' ls (d8 ls) (.slice A k c) a∧Below w.heap.size w w'
theorem pK (ls:List (List UInt8)):d8 ls=0∧vl ls=true∧ls≠[]∨d8 ls=1∧vl ls=false∨d8 ls=5∧vl ls=true∧ls=[]:=by
 unfold d8;cases vl ls with
 |false=>exact .inr (.inl ⟨rfl,rfl⟩)
 |true=>
  by_cases h:ls=[]
  ·exact .inr (.inr ⟨by rw[if_pos rfl,if_pos h],rfl,h⟩)
  ·exact .inl ⟨by rw[if_pos rfl,if_neg h],rfl,h⟩
theorem NatAt.uniqI {w:World} {u:Value} {a b:Nat} (m:NatAt w u a) (n:NatAt w u b):a=b:=by
 obtain⟨A,c,rfl,_,r,_⟩:=m;obtain⟨t,v,e,_,s,_⟩:=n;simp only[Value.slice.injEq] at e;obtain⟨rfl,x,_⟩:=e;have q:dg a=dg b:=by
  refine List.ext_getElem? (fun i=> ?_);by_cases f:i<nl a
  ·have j:i<nl b:=by omega
   rcases r with h|⟨g,z,rfl,_,o⟩
   ·rw[<-aJ,h] at f;simp at f
   ·rcases s with h|⟨y,B,l,_,p⟩
    ·rw[<-aJ,h] at j;simp at j
    ·simp only[Option.some.injEq,Addr.mk.injEq] at l;obtain⟨rfl,rfl,_⟩:=l;have k:=o i (by rw[aJ];exact f);have d:=p i (by rw[aJ];exact j);rw[k] at d;simp only[Option.some.injEq,Value.int.injEq,true_and] at d;rw[aL (by rw[aJ];exact f),aL (by rw[aJ];exact j)];rw[dF,dF,aL (by rw[aJ];exact f),aL (by rw[aJ];exact j)] at d;exact congrArg some d
  ·rw[eF (by rw[aJ];omega),eF (by rw[aJ];omega)]
 have k:=cB a;have d:=cB b;rw[q,d] at k;omega
theorem IntAt.uniqI {w:World} {v:Value} {x y:Int} (c:IntAt w v x) (d:IntAt w v y):x=y:=by
 obtain⟨u,rfl,a⟩:=c;obtain⟨g,e,b⟩:=d;simp at e;obtain⟨f,rfl⟩:=e;have:=a.uniqI b;omega
theorem WholeAt.offI {w:World} {A:Option Addr} {l c g:Nat} {x m:Int} {ns:List Int} (h:WholeAt w (.slice A l c) (x :: ns)) (q:IntBx w g m) (t:x≠m):∀b,A=some ⟨b,0,none⟩->b≠g:=fun b e p=>by
 subst p;obtain⟨v,s,B,z,d,j,_,k,o,hi⟩:=h.at_ (i:=0) (n:=x) rfl;rw[e] at j;simp only[Option.some.injEq,Addr.mk.injEq] at j;obtain⟨rfl,_⟩:=j;obtain⟨D,u,y,c',C,r⟩:=q;have a:=C.cell 0 rfl;have f:=C.cell 1 rfl;rw[Nat.zero_mul] at k o;rw[k] at a;rw[o] at f;injection a with a;injection f with f;rw[a,f] at hi;exact t (hi.uniqI r)
theorem WholeAt.apart {w:World} {A B:Option Addr} {l c g k d:Nat} {s:Bool} {ns:List Int} (h:WholeAt w (.slice A l c) ns) (o:ns≠[]) (p:aO ns) (j:Bx w g [.bool s,.slice B k d] 59) (q:IntAt w (.agg #[.bool s,.slice B k d]) 0):∀b,A=some ⟨b,0,none⟩->b≠g:=fun b e m=>by
 subst m;cases ns with
 |nil=>exact o rfl
 |cons x ns=>
  cases ns with
  |nil=>exact h.offI ⟨_,_,_,_,j,q⟩ (p x rfl) b e rfl
  |cons y ns=>
   obtain⟨t,C,r,z,u,a,_,f,v,hi⟩:=h.at_ (i:=1) (n:=y) rfl;rw[e] at a;simp only[Option.some.injEq,Addr.mk.injEq] at a;obtain⟨rfl,_⟩:=a;rw[cell_of_row w b _ _ _ _ j] at f;simp at f
theorem uL (ls:List (List UInt8)) (v:Value) (w:World) (B:Glob w) (hv:StrsAt w v ls) (t:ls.length<=7) (S:∀l∈ls,l.length<=6):Calls Tryz.prog 35 #[v] w (pJ w ls):=by
 obtain⟨A,c,rfl,hc⟩:=hv.form;have M:∀q∈aN ls,RL 1 q:=mC (fun l t=>aG (S l t) (by decide));have V:=fun W B hv=>QI ls (.slice A ls.length c) W B hv (by omega) (fun _ l t=>aG (S l t) (by decide)) 1 8 7 (fun _=>M) (fun _=>t) (by decide) (by decide) (by unfold aI;decide);have Q:(aN ls).length=ls.length:=bK _;unfold pJ;have O:=pK ls;obtain⟨E,L⟩:∃E,d8 ls=E:=⟨_,rfl⟩;rw[L] at O⊢;clear L M;obtain⟨W,J,a,R⟩:=bB w [.bool false,.slice none 0 0] 59;have cM:=R.g2;go_enter Tryz.func35,Tryz.ntmps35;go_wp2_with fail;(try rw[J]);clear J;refine(V _ (B.below a) (hv.below a)).mono ?_;rintro e1 w1 ⟨v1,ae,xs,D,rfl,r,s,u,N⟩;obtain⟨Y,c1,rfl,ad⟩:=r.form;obtain⟨j,f,i,g,rfl⟩:=s.form;replace R:=R.below N;replace a:=aC a N;have ac:=R.lt;obtain⟨w2,k,x,F⟩:=bB w1 [.bool j,.slice f i g] 59;replace R:=R.below x;replace r:=r.below x;replace s:=s.below x;replace a:=aC a x;have cF:=F.k2;have cM:=aa R.g2 F.k2;clear V;rcases O with ⟨rfl,d,o⟩|⟨rfl,d⟩|⟨rfl,d,o⟩
 ·obtain⟨rfl,p⟩:=u d;have y:(bE (aN ls) D).length=ls.length:=by rw[kQ,Q]
  have P:(bE (aN ls) D).length≠0:=fun e=>o (bM (by omega));have U:=kR p.pos p.dvd (lJ d).2.2;have ab:=r.apart (fun e=>P (by rw[e];rfl)) U R (IntAt.zero _);have q0:(((bE (aN ls) D).length:Int)==0)=false:=by rw[beq_eq_false_iff_ne];omega
  have z:=aB (And.intro d (And.intro o p));rw[d];clear u d o p y P U;obtain⟨H,G⟩:∃H,bE (aN ls) D=H:=⟨_,rfl⟩;have Z:=aB G;rw[G] at r q0⊢;clear G;go_wp2_with fail;(try rw[k]);(try clear k);go_region
  all_goals (
   go_wp2_with fail;obtain⟨-,T⟩:=IntBx.stored (w:=w2) (b:=w.heap.size) (m:=0) ⟨_,_,_,_,R,IntAt.zero _⟩ s;have X:=r.step T ab;clear T;obtain⟨I,n,R,a,C,K⟩:=R.put2 a (by omega) (.bool j) (.slice f i g) rfl rfl;rw[n] at X;have zD:=s.keep C;rw[n];exact aK (v:= .tuple #[.slice Y H.length c1,.agg #[.bool j,.slice f i g],.int .i64 0]) (by simp[results,Tryz.results35,go_sem,R.k2]) rfl ⟨_,_,_,_,rfl,⟨_,_,_,_,rfl⟩,(fun _=>⟨D,z.out.1,z.out.2.1,z.out.2.2,by rw[Z.out];exact X.drew,zD.drew⟩),a.drew⟩)
 ·rw[d];clear u d;go_wp2_with fail;(try rw[k]);(try clear k);go_region
  all_goals (
   go_wp2_with fail;obtain⟨I,n,R,a,C,K⟩:=R.put2 a (by omega) (.bool j) (.slice f i g) rfl rfl;rw[n];exact aK (v:= .tuple #[.slice none 0 0,.agg #[.bool j,.slice f i g],.int .i64 1]) (by simp[results,Tryz.results35,go_sem,R.k2]) rfl ⟨_,_,_,_,rfl,⟨_,_,_,_,rfl⟩,(fun h=>absurd h (by decide)),a.drew⟩)
 ·obtain⟨rfl,p⟩:=u d;have y:(bE (aN ls) D).length=0:=by rw[kQ,Q,o];rfl
  rw[d,y];clear u d o p y;go_wp2_with fail;(try rw[k]);(try clear k);go_region
  all_goals (
   go_wp2_with fail;obtain⟨I,n,R,a,C,K⟩:=R.put2 a (by omega) (.bool j) (.slice f i g) rfl rfl;rw[n];exact aK (v:= .tuple #[.slice none 0 0,.agg #[.bool j,.slice f i g],.int .i64 5]) (by simp[results,Tryz.results35,go_sem,R.k2]) rfl ⟨_,_,_,_,rfl,⟨_,_,_,_,rfl⟩,(fun h=>absurd h (by decide)),a.drew⟩)
theorem Euc.mono {B d:Nat} {a b g:List Int} (h:Euc B a b g) (e:B<=d):Euc d a b g:=by
 induction h with
 |done a=>exact .done a
 |one c=>exact .one c
 |step c h t f=>exact .step c (h.mono e) f
theorem Sqp.mono {B a:Nat} {w s:List Int} (h:Sqp B w s) (d:B<=a):Sqp a w s:=by
 obtain⟨g,b,c⟩:=h.out;exact⟨⟨g,b.mono d,c⟩,h.ne,h.ts⟩
theorem uM {l:List UInt8} (h:l.length<=18):RL 1 (fL l):=by
 unfold fL;split
 ·exact fU (jX 1)
 ·cases hr:d7 l with
  |none=>exact fU (jX 1)
  |some q=>exact EW hr h
theorem GI (l:List UInt8) {d:Int} (h: -1<=d∧d<=1): -1<=gB l d∧gB l d<=1:=by
 unfold gB;split
 ·exact h
 ·decide
def iC (ls:List (List UInt8)) (a b:List UInt8):Int:=if d8 ls=1∨gC a=false∨gC b=false then 1 else d8 ls
def uN (A:List Rat) (i:Int) (x:Rat) (j:Int) (y:Rat) (E n:Int):Prop:=(E≠0->n=0)∧(E=0->CntR A i x j y n)
def pL (w:World) (ls:List (List UInt8)) (a b:List UInt8) (e:Ending) (w':World):Prop:=∃n:Int,e= .returned (.tuple #[.int .i64 n,.int .i64 (iC ls a b)])∧ -1024<=n∧n<=1024∧uN (aN ls) (gB a (-1)) (fL a) (gB b 1) (fL b) (iC ls a b) n∧Below w.heap.size w w'
theorem GJ (ls:List (List UInt8)) (a b:List UInt8) (v:Value) (w:World) (i:Glob w) (hv:StrsAt w v ls) (x:ls.length<=7) (hs:∀l∈ls,l.length<=6) (ha:a.length<=12) (az:b.length<=12):
  Calls Tryz.prog 22 #[v,.string ⟨a.toArray⟩,.string ⟨b.toArray⟩] w (pL w ls a b):=by
 obtain⟨A,c,rfl,hc⟩:=hv.form;have ai:=fun W i h=>uL ls (.slice A ls.length c) W i h x hs;have af:=fun W i=>EN a (-1) W i (by omega);have ag:=fun W i=>EN b 1 W i (by omega);have ra:=bU (uM (l:=a) (by omega)) (show 1<=35080695 by decide);have rb:=bU (uM (l:=b) (by omega)) (show 1<=35080695 by decide);have ia:=GI a (d:= -1) (by decide);have ib:=GI b (d:=1) (by decide);have an:∀q∈aN ls,RL 1 q:=mC (fun l x=>aG (hs l x) (by decide));have au:(aN ls).length=ls.length:=bK _;unfold pJ at ai;unfold EM at af ag;unfold pL;have g:iC ls a b=if d8 ls=1∨gC a=false∨gC b=false then 1 else d8 ls:=rfl;have hR:=pK ls;obtain⟨E,am⟩:∃E,iC ls a b=E:=⟨_,rfl⟩;rw[am] at g⊢;clear am;generalize d8 ls=R at *;generalize gC a=oa at *;generalize gC b=y at *;generalize gB a (-1)=I at *;generalize gB b 1=J at *;generalize fL a=z at *;generalize fL b=B at *;go_enter Tryz.func22,Tryz.ntmps22;go_wp2_with fail;refine(ai _ i hv).mono ?_;rintro e1 w1 ⟨A1,k1,c1,a0,rfl,⟨s2,A2,k2,c2,rfl⟩,G,f⟩;obtain⟨w2,e2,Z,F⟩:=bB w1 [.bool s2,.slice A2 k2 c2] 59;replace f:=aC f Z;replace G:R=0->∃D,vl ls=true∧ls≠[]∧ComDen (aN ls) D 8∧WholeAt w2 (.slice A1 k1 c1) (bE (aN ls) D):=fun h=>by
  obtain⟨D,T,U,k,V,o⟩:=G h;exact⟨D,T,U,k,V.below Z⟩
 have ak:=aB G;clear G ai;have cF:=F.k2;go_wp2_with fail;(try rw[e2]);(try clear e2);refine(af _ (i.below f)).mono ?_;rintro e3 w3 ⟨v3,rfl,k,ab⟩;obtain⟨s4,K,k4,O,s5,L,k5,P,rfl⟩:=k.form;obtain⟨w4,e4,ac,X⟩:=bB w3 [.bool s4,.slice K k4 O,.bool s5,.slice L k5 P,.int .i64 I] 97;replace k:=k.below ac;have C:=aC ab ac;replace f:=aC f C;have cX:=X.k5;clear af;go_wp2_with fail;(try rw[e4]);(try clear e4);refine(ag _ (i.below f)).mono ?_;rintro e5 w5 ⟨v5,rfl,o,ad⟩;obtain⟨s6,M,k6,Q,s7,N,k7,S,rfl⟩:=o.form;obtain⟨w6,j,ae,Y⟩:=bB w5 [.bool s6,.slice M k6 Q,.bool s7,.slice N k7 S,.int .i64 J] 97;replace o:=o.below ae;have r:=aC ad ae;replace k:=k.below r;replace X:=X.below r;replace f:=aC f r;have al:=aC C r;have cX:=X.k5;have cY:=Y.k5;clear ag;rcases hR with ⟨rfl, -, -⟩|⟨rfl, -⟩|⟨rfl, -, -⟩
 ·cases oa with
  |false=>
   obtain rfl:E=1:=by rw[g];rfl
   clear g;cases y
   all_goals (
    go_wp2_with fail;all_goals (try rw[j])
    all_goals (try clear j)
    all_goals go_ret2
    all_goals exact⟨0,rfl,by decide,by decide,⟨fun _=>rfl,(fun h=>absurd h (by decide))⟩,f⟩
   )
  |true=>
   cases y with
   |false=>
    obtain rfl:E=1:=by rw[g];rfl
    clear g;go_wp2_with fail;all_goals (try rw[j])
    all_goals (try clear j)
    all_goals go_ret2
    all_goals exact⟨0,rfl,by decide,by decide,⟨fun _=>rfl,(fun h=>absurd h (by decide))⟩,f⟩
   |true=>
    obtain rfl:E=0:=by rw[g];rfl
    clear g;obtain⟨D,aj,h0,t,H⟩:=ak.out rfl;replace H:=H.below al;have ap:(bE (aN ls) D).length=ls.length:=by rw[kQ,au]
    have aq:bE (aN ls) D≠[]:=fun e=>h0 (bM (by rw[<-ap,e];rfl));have av:=kR t.pos t.dvd (lJ aj).2.2;have ah:=nZ _ D 1 _ an t.nl_;have ar:=lM (qZ t (lJ aj).2.2);obtain⟨A8,c8,e8, -⟩:=H.form;simp only[Value.slice.injEq] at e8;obtain⟨rfl,rfl,rfl⟩:=e8;have ay:=fun W i h=>G4 (bE (aN ls) D) (.slice A1 (bE (aN ls) D).length c1) W i h av aq (by omega) ah;have ao:=fun s W u i h (m:Sqp 24057 (aQ (bE (aN ls) D)) s) (p:Sz s) k o=>PT s I J z B u (.agg #[.bool s4,.slice K k4 O,.bool s5,.slice L k5 P,.int .i64 I]) (.agg #[.bool s6,.slice M k6 Q,.bool s7,.slice N k7 S,.int .i64 J]) W i h m.ts m.ne p k o ia ib ra rb;unfold xK at ao
    have HF:Hid (∀s n,Sqp 24057 (aQ (bE (aN ls) D)) s->Sz s->(gN I z J B=false->n=0)->(gN I z J B=true->∃c,StT 35080695 s (aQ (bA s)) c∧n=jG s c I z J B)->CntR (aN ls) I z J B n):=fun s n m p T U=>⟨T,fun x=>by
     obtain⟨c,k,V⟩:=U x;exact⟨_,s,c,ar,⟨⟨m.mono (by decide),k⟩,m,p,by rw[cS];omega,fG ah⟩,V⟩⟩
    clear ak aj h0 t ap aq av ah ar an au C r al Z ab ac ad ae;generalize bE (aN ls) D=ns at *;go_wp2_with fail;(try rw[j]);(try clear j)
    go_region_held3 (fun w'=>C5 w' w3.heap.size (.bool s4) (.slice K k4 O) (.bool s5) (.slice L k5 P) (.int .i64 I)∧C5 w' w5.heap.size (.bool s6) (.slice M k6 Q) (.bool s7) (.slice N k7 S) (.int .i64 J)) (with_reducible exact⟨X.up.k5,Y.up.k5⟩)
     (first
      |(go_at_call 37;(with_reducible refine(ay _ (i.below f).up H.up).mono ?_);rintro e7 w7 ⟨v7,s,rfl,h7,m,p,aw⟩;have:=St.mk aw)
      |(go_at_call 60;(with_reducible refine(ao s _ _ (i.below f).up h7.up m p k.up o.up).mono ?_);rintro e9 w9 ⟨n,rfl,n1,n2,n3,n4,ax⟩;have:=St.mk ax))
    all_goals (
     go_wp2_with fail;go_ret2;exact⟨n,rfl,n1,n2,⟨(fun h=>absurd rfl h),(fun _=>HF.out s n m p n3 n4)⟩,eG (b:=w9) f⟩)
 ·obtain rfl:E=1:=by rw[g,if_pos (.inl rfl)]
  clear g;cases oa<;>cases y
  all_goals (
   go_wp2_with fail;all_goals (try rw[j])
   all_goals (try clear j)
   all_goals go_ret2
   all_goals exact⟨0,rfl,by decide,by decide,⟨fun _=>rfl,(fun h=>absurd h (by decide))⟩,f⟩
  )
 ·cases oa with
  |false=>
   obtain rfl:E=1:=by rw[g];rfl
   clear g;cases y
   all_goals (
    go_wp2_with fail;all_goals (try rw[j])
    all_goals (try clear j)
    all_goals go_ret2
    all_goals exact⟨0,rfl,by decide,by decide,⟨fun _=>rfl,(fun h=>absurd h (by decide))⟩,f⟩
   )
  |true=>
   cases y with
   |false=>
    obtain rfl:E=1:=by rw[g];rfl
    clear g;go_wp2_with fail;all_goals (try rw[j])
    all_goals (try clear j)
    all_goals go_ret2
    all_goals exact⟨0,rfl,by decide,by decide,⟨fun _=>rfl,(fun h=>absurd h (by decide))⟩,f⟩
   |true=>
    obtain rfl:E=5:=by rw[g];rfl
    clear g;go_wp2_with fail;all_goals (try rw[j])
    all_goals (try clear j)
    all_goals go_ret2
    all_goals exact⟨0,rfl,by decide,by decide,⟨fun _=>rfl,(fun h=>absurd h (by decide))⟩,f⟩
theorem GK (ls:List (List UInt8)) (v:Value) (w:World) (b:Glob w) (hv:StrsAt w v ls) (d:ls.length<=7) (e:∀l∈ls,l.length<=6):
  Calls Tryz.prog 25 #[v] w (pL w ls [] []):=by
 obtain⟨A,c,rfl,g⟩:=hv.form;have h:=GJ ls [] [] (.slice A ls.length c) w b hv d e (by decide) (by decide);unfold pL at *;generalize iC ls [] []=E at *;go_enter Tryz.func25,Tryz.ntmps25;go_wp2_with fail;refine h.mono ?_;rintro f i ⟨n,rfl,a⟩;go_wp2_with fail;go_ret2;exact⟨n,rfl,a⟩
end Go.Proofs.YthfnenohhindpaaGreatDoor
namespace Go.Proofs.YthfnenohhindpaaGreatDoor
open Sos
def gQ (A:List Rat):Rat:=iV (cf A (A.length-1)) (A.take (A.length-1))+1
theorem yX {A:List Rat} {a:List Int} (h:Prp A a) (l:aO a) (i:a≠[]):pC a=gQ A:=by
 obtain⟨c,j,rfl⟩:=h.eq_smul;have f:=(fV i).1 l;have k:(1:Rat)/c≠0:=by
  intro e;have:(1:Rat)/c*c=1:=by rw[Rat.div_mul_cancel j]
  rw[e,Rat.zero_mul] at this;exact absurd this (by decide)
 have g:=UG f k (a.take (a.length-1));have b:∀n:Int,(n:Rat)/(1/c)=c*(n:Rat):=fun n=>by grind
 have d:(a.take (a.length-1)).map (fun n:Int=>(n:Rat)/(1/c))=(aV c a).take (a.length-1):=by
  unfold aV;rw[<-List.map_take];exact List.map_congr_left (fun n _=>b n)
 rw[b,d] at g;unfold pC gQ;rw[eE,eH,g]
theorem UO:aV 1 [-2,0,1]=[-2,0,1]:=by
 unfold aV;simp only[List.map_cons,List.map_nil,Rat.one_mul];rfl
theorem yY:Prp [-2,0,1] [-2,0,1]:=by
 have h:=iB (c:=1) (l:=[-2,0,1]) (by decide) (lP rfl);rw[show([-2,0,1]:List Int).map (fun n:Int=>(1:Rat)*(n:Rat))=[-2,0,1] from UO] at h;exact h
theorem UP:gQ [-2,0,1]=3:=by
 rw[<-yX yY (lP rfl) (by simp)];have a:gP (([-2,0,1]:List Int).take (([-2,0,1]:List Int).length-1))=2:=by decide
 have b:((cf ([-2,0,1]:List Int) (([-2,0,1]:List Int).length-1)).natAbs:Int)=1:=by decide
 unfold pC;rw[a,b];have c:((2:Int):Rat)=2:=rfl;have d:((1:Int):Rat)=1:=rfl;rw[c,d];grind
theorem UQ:Pw 3 2:=by
 refine⟨by decide,fun m a=> ?_⟩;rcases(show m=0∨m=1 by omega) with rfl|rfl<;>decide
theorem UR {w s:List Int} {c:List (List Int)} (f:Prp [-2,0,1] w) (h:Cn 35080695 w s c):ExK 35080695 uK (fun x=>cC 0 ((s :: c).map (fun a=>bJ a 0 x))) (fun x=>bJ s 0 x) (((-((2:Int)^2):Int)):Rat) ((((2:Int)^2:Int)):Rat) [(-4,0),(0,4)]:=by
 have b:(((-((2:Int)^2):Int)):Rat)= -4:=by decide
 have d:((((2:Int)^2:Int)):Rat)=4:=by decide
 rw[b,d];have k:=fun x=>h.same GH (by decide) (by decide) f yY 0 x;obtain⟨l,m,n⟩:=UK;obtain⟨g,i,j⟩:=UL;refine(UH ⟨?_,?_,?_⟩ ⟨fun e=> ?_,fun e=> ?_,fun e=> ?_⟩).mono (by decide)
 ·exact(k (-4)).1.trans l
 ·exact(k 0).1.trans m
 ·exact(k 4).1.trans n
 ·rw[(k (-4)).2,g] at e;exact absurd e (by decide)
 ·rw[(k 0).2,i] at e;exact absurd e (by decide)
 ·rw[(k 4).2,j] at e;exact absurd e (by decide)
end Go.Proofs.YthfnenohhindpaaGreatDoor
namespace Go.Proofs.YthfnenohhindpaaGreatDoor
open Go.RowKit Sos
def nW (ls:List (List UInt8)):List UInt8:=if d8 ls=0 then bD (gQ (aN ls)) else []
theorem PS (ls:List (List UInt8)) (v:Value) (w:World) (b:Glob w) (hv:StrsAt w v ls) (p:ls.length<=7) (J:∀l∈ls,l.length<=6):
  Calls Tryz.prog 27 #[v] w fun e w'=>e= .returned (.tuple #[.string ⟨(nW ls).toArray⟩,.int .i64 (d8 ls)])∧Below w.heap.size w w':=by
 obtain⟨A,c,rfl,hc⟩:=hv.form;have g:=fun W b h=>uL ls (.slice A ls.length c) W b h p J;have B:∀q∈aN ls,RL 1 q:=mC (fun l p=>aG (J l p) (by decide));have I:(aN ls).length=ls.length:=bK _;have d:nW ls=if d8 ls=0 then bD (gQ (aN ls)) else []:=rfl;have G:=pK ls;unfold pJ at g;obtain⟨T,C⟩:∃T,nW ls=T:=⟨_,rfl⟩;rw[C] at d⊢;obtain⟨E,z⟩:∃E,d8 ls=E:=⟨_,rfl⟩;rw[z] at g d G⊢;clear C z;go_enter Tryz.func27,Tryz.ntmps27;go_wp2_with fail;refine(g _ b hv).mono ?_;rintro e1 X ⟨M,k1,O,ab,rfl,⟨V,N,U,P,rfl⟩,j,a⟩;obtain⟨w2,f,m,F⟩:=bB X [.bool V,.slice N U P] 59;replace a:=aC a m;rcases G with ⟨rfl,u,y⟩|⟨rfl, -⟩|⟨rfl, -, -⟩
 ·obtain⟨D, -, -,i,k, -⟩:=j rfl;rw[if_pos rfl] at d;replace k:=k.below m;have H:(bE (aN ls) D).length=ls.length:=by rw[kQ,I]
  have r:bE (aN ls) D≠[]:=fun e=>y (bM (by rw[<-H,e];rfl));have t:=kR i.pos i.dvd (lJ u).2.2;have s:=nZ _ D 1 _ B i.nl_;have o:=yX (qZ i (lJ u).2.2) t r;have L:=(xI s (by decide)).1;obtain⟨Y,c8,x, -⟩:=k.form;simp only[Value.slice.injEq] at x;obtain⟨rfl,rfl,rfl⟩:=x;have n:=fun W b h=>EL (bE (aN ls) D) (.slice M (bE (aN ls) D).length O) W b h r t 9 s (by omega) (by decide) (by decide);have K:=fun W v b h=>tH (gQ (aN ls)) v W b h _ (by rw[<-o];exact L) (by decide);rw[o] at n;rw[<-d] at K;unfold eP at n;clear g j i H r t s o L B I y u F m d;generalize bE (aN ls) D=ns at *;generalize gQ (aN ls)=Z at *;go_wp2_with fail;(try rw[f]);(try clear f);refine(n _ (b.below a) k).mono ?_;rintro e4 w4 ⟨v4,rfl,Q,R⟩;replace a:=aC a R;go_wp2_with fail;refine(K _ _ (b.below a) Q).mono ?_;rintro e5 w5 ⟨rfl,S⟩;go_wp2_with fail;go_ret2;exact⟨rfl,aC a S⟩
 ·rw[if_neg (by decide)] at d;subst d;clear j g;go_wp2_with fail;(try rw[f]);(try clear f);go_ret2;exact⟨rfl,a⟩
 ·rw[if_neg (by decide)] at d;subst d;clear j g;go_wp2_with fail;(try rw[f]);(try clear f);go_ret2;exact⟨rfl,a⟩
theorem nY {w W:World} {b:Nat} {c d f g:Value} (e:(((w.setCell ⟨b,0,none⟩ c).setCell ⟨b,1,none⟩ d).setCell ⟨b,2,none⟩ f).setCell ⟨b,3,none⟩ g=W):∀k,k≠b->W.heap[k]? =w.heap[k]? :=fun k a=>by
 rw[<-e,Below.heap_setCell _ ⟨b,3,none⟩ _ k a,Below.heap_setCell _ ⟨b,2,none⟩ _ k a,Below.heap_setCell _ ⟨b,1,none⟩ _ k a,Below.heap_setCell _ ⟨b,0,none⟩ _ k a]
theorem WholeAt.away {w W:World} {g:Nat} {cs:List Value} {t:TypeId} {v:Value} {ns:List Int} (h:WholeAt w v ns) (R:Bx w g cs t) (q:t≠59) (o:Keep w W) (p:∀k,k≠g->W.heap[k]? =w.heap[k]?):WholeAt W v ns:=by
 obtain⟨A,c,e,m,h⟩:=h;refine⟨A,c,e,m,?_⟩;rcases h with h|⟨b,f,i,d,n⟩
 ·exact .inl h
 ·refine .inr ⟨b,f,i,⟨(p b (fun j=> ?_)).trans d.1,d.2⟩,n.keep o⟩;subst j;have a:w.heap[b]? =some (.cells f.flatten.toArray 59 (0,0)):=d.1;have l:w.heap[b]? =some (.cells cs.toArray t (0,0)):=R;rw[l] at a;injection a with a;injection a with _ a;exact q a
def tN (w:World) (ns:List Int) (f:Rat) (e:Ending) (w':World):Prop:=∃v u,e= .returned (.tuple #[v,u])∧WholeAt w' v ns∧RatAt w' u f∧Below w.heap.size w w'
theorem xH (ns:List Int) (d:Int) (v u:Value) (w:World) (e:Glob w) (hv:WholeAt w v ns) (q:IntAt w u d) (ht:aO ns) (K:Nat) (I:∀n∈ns,nl n.natAbs<=K) (kd:nl d.natAbs<=K) (J:5*K+4<=aI) (hl:ns.length<=1073741824):
  Calls Tryz.prog 52 #[v,u] w (tN w (aQ ns) (((aR ns:Int):Rat)/(d:Rat))):=by
 obtain⟨O,C,L,G,rfl⟩:=q.form;obtain⟨A,c,rfl,hc⟩:=hv.form;have af:=fun W e h=>mV ns (.slice A ns.length c) W e h ht K I J (by omega);have Z:=fun W e h=>FG ns (.slice A ns.length c) W e h K I J (by omega);have ab:=fun W v e h h'=>tF (aR ns:Int) d v (.agg #[.bool O,.slice C L G]) W e h h' K (by rw[cI];exact lL I) kd J;unfold dB at Z;unfold eP at ab;unfold tN;generalize (((aR ns:Int):Rat)/(d:Rat))=F at *;generalize aQ ns=P at *;obtain⟨W,V,Y,X,R⟩:=dI w [.bool O,.slice C L G] 59 [.bool false,.slice none 0 0,.bool false,.slice none 0 0] 66;have cM:=aa X.g2 R.g4;go_enter Tryz.func52,Tryz.ntmps52;go_wp2_with fail;(try rw[V]);clear V;replace q:=q.below Y;have t:w.heap.size+1≠w.heap.size:=by omega
 have:=St.mk Y
 go_region_held3 (fun w'=>C2 w' w.heap.size (.bool O) (.slice C L G)) (first|(with_reducible exact X.up.k2)|(with_reducible exact((((T.far 0 _ t).far 1 _ t).far 2 _ t).far 3 _ t).k2))
  (first
   |(go_at_call 86;(with_reducible refine(af _ e.up hv.up).mono ?_);rintro e5 z ⟨v5,rfl,p,ad⟩;obtain⟨S,U,rfl, -⟩:=p.form;have:=St.mk ad;have f:=R.up (b:=z);have T:=X.up (b:=z);have ac:=f.g4;have D:=Up.out (a:=w) (b:=z);have P9:=p)
   |(go_at_call 109;(with_reducible refine(Z _ e.up hv.up).mono ?_);rintro g w6 ⟨v6,rfl,h6,i⟩;have:=St.mk i)
   |(go_at_call 68;(with_reducible refine(ab _ _ e.up h6.up q.up).mono ?_);rintro e7 B ⟨v7,rfl,H,ae⟩;obtain⟨x,k,r,m,y,l,s,o,rfl⟩:=H.form;have:=St.mk ae;have f:=R.up (b:=B);have T:=X.up (b:=B);have ac:=f.g4;have D:=Up.out (a:=w) (b:=B)))
 all_goals (
  go_wp2_with fail
  first
   |(have M:=p.up (b:=B)
     have N:=H
     obtain⟨W6,g,E,i,j,ff⟩:=f.put4 D (Nat.le_succ _) (.bool x) (.slice k r m) (.bool y) (.slice l s o) rfl rfl
     have Q:=M.away f (by decide) j (nY g)
     rw[g]
     exact aK (v:= .tuple #[.slice S P.length U,.agg #[.bool x,.slice k r m,.bool y,.slice l s o]]) (by simp[results,Tryz.results52,go_sem,E.k4]) rfl ⟨_,_,rfl,Q,N.keep j,i⟩)
   |(have M:=p
     have N:=H.up (b:=z)
     obtain⟨W6,g,E,i,j,ff⟩:=f.put4 D (Nat.le_succ _) (.bool x) (.slice k r m) (.bool y) (.slice l s o) rfl rfl
     have Q:=M.away f (by decide) j (nY g)
     rw[g]
     exact aK (v:= .tuple #[.slice S P.length U,.agg #[.bool x,.slice k r m,.bool y,.slice l s o]]) (by simp[results,Tryz.results52,go_sem,E.k4]) rfl ⟨_,_,rfl,Q,N.keep j,i⟩))
