/- Laws. -/
import Derived.Test.YtapgbkldiinabaaGreatDoorN25
import Derived.Test.YtapgbkldiinabaaGreatDoorN26
set_option linter.all false
set_option maxHeartbeats 8000000
set_option maxRecDepth 99999
namespace Go.Proofs.YtapgbkldiinabaaGreatDoor
open Go.RowKit Sos Tryz
def bq8{f:Nat->Rat}{K:Nat}(h:∀k,RL (2*K) (f k))(n:Nat):RL (1+n*(2*K+1)) (bW f n):=by
 induction n with
 |zero=>exact iG (by omega)
 |succ n c=>exact bU (CI c (h n)) (by rw[Nat.succ_mul n];omega)
def bq9{x y:List Rat}{K:Nat}(e:∀q∈x,RL K q)(f:∀q∈y,RL K q)(d:1<=K):∀q∈eF x y,RL (1+(x.length+y.length)*(2*K+1)) q:=fun q c=>by
 unfold eF at c;split at c
 ·cases c
 ·obtain⟨i,hi,rfl⟩:=List.mem_map.1 c;have g:=List.mem_range.1 hi;refine bU (bq8 (K:=K) (fun k=>bU (o6 (lV e (iG d) _) (lV f (iG d) _)) (by omega)) (i+1)) ?_;have:=dK (2*K+1) (show i+1<=x.length+y.length by omega);omega
def bx6(w:World)(a b:List (List UInt8))(e:Ending)(w':World):Prop:=∃v u,e= .returned (.tuple #[v,u,.bool (vl a&&vl b)])∧QsAt w' v (oP a)∧QsAt w' u (oP b)∧Below w.heap.size w w'
section
variable (a b:List (List UInt8))(va vb:Value)(w:World)(ha:StrsAt w va a)(hb':StrsAt w vb b)(hla:a.length<=1000)(hlb:b.length<=1000)(hca:∀l∈a,l.length<=1073741824)(hcb:∀l∈b,l.length<=1073741824)(K:Nat)(hKa:∀q∈aU a,RL K q)(hKb:∀q∈aU b,RL K q)(hK1:1<=K)(hK:K<=1048576)
include ha hb' hla hlb hca hcb hKa hKb hK1 hK
omit hK1 in
theorem bqA:Calls prog 27 #[va,vb] w (bx6 w a b):=by
 obtain⟨A,c,rfl,p⟩:=ha.form;obtain⟨k,m,rfl,r⟩:=hb'.form;go_enter func27,ntmps27;go_wp2_with fail;refine(VQ a _ _ ha (by omega) hca (fun q f=>bU (hKa q f) (by omega))).mono ?_;rintro n s ⟨i,rfl,e,d⟩;go_wp2_with fail;refine(VQ b _ _ (hb'.be d) (by omega) hcb (fun q f=>bU (hKb q f) (by omega))).mono ?_;rintro o t ⟨j,rfl,g,h⟩;replace e:=e.be h;replace d:=aC d h;unfold bx6;cases hva:vl a with
 |false=>
  go_wp2_with fail;exact aM (v:= .tuple #[i,j,.bool false]) (by simp[results,results27,go_sem]) rfl ⟨_,_,by rw[hva];rfl,e,g,d⟩
 |true=>
  go_wp2_with fail;exact aM (v:= .tuple #[i,j,.bool (vl b)]) (by simp[results,results27,go_sem]) rfl ⟨_,_,by rw[hva];rfl,e,g,d⟩
end
def fW(p:List Rat):List Rat:=(List.range (p.length-1)).map (fun i=>cf p (i+1)*((i+1:Nat):Rat))
def qO(p:List Rat):(fW p).length=p.length-1:=by unfold fW;rw[cH,List.length_range]
def VP{p:List Rat}{m:Nat}{q:Rat}(a:1<=m)(h:p[m]? =some q):(fW p).take m=(fW p).take (m-1)++[q*(m:Rat)]:=by
 obtain⟨i,rfl⟩:∃i,m=i+1:=⟨m-1,by omega⟩;have b:=(List.getElem?_eq_some_iff.1 h).1;have e:(fW p)[i]? =some (q*((i+1:Nat):Rat)):=by
  unfold fW;rw[iK,List.getElem?_range (by omega),<-rD h];rfl
 rw[BA,e,mD];rfl
def JE{p:List Rat}{K:Nat}(b:∀q∈p,RL K q)(d:p.length<=1024)(a:1<=K):∀q∈fW p,RL (K+1) q:=fun q c=>by
 obtain⟨i,hi,rfl⟩:=List.mem_map.1 c;exact o6 (lV b (iG a) _) (az3 (by have:=List.mem_range.1 hi;omega))
def JF(p:List Rat)(v:Value)(w:World)(hv:QsAt w v p)(K:Nat)(r:∀q∈p,RL K q)(R:p.length<=1024)(f:1<=K)(J:2*K<=549755813888):
  Calls prog 65 #[v] w (C8 w (aW aV (fW p))):=by
 obtain⟨A,c,rfl,hc⟩:=hv.form;go_enter func65,ntmps65;go_wp2_with fail;go_loopg [3,4] (p.length-1) (fun k Y Z wr=>∃m,Hid (m+k=p.length-1+1)∧1<=m∧Z= .int .i64 (m:Int)∧GrowQ wr w.heap.size Y ((fW p).take (m-1))∧Below w.heap.size w wr)
 case atStart=>exact⟨1,by unfold Hid;omega,aE,rfl,by simpa using GrowQ.nil _,aG _ _⟩
 case round=>
  obtain⟨m,e,S,rfl,j,l⟩:=hrel;generalize wr=B at *;have ad:(0:Int)<=(m:Int):=by omega
  cases gk with
  |zero=>
   have ac:¬(m:Int)<(p.length:Int):=by have:=e.out;omega
   have s:=j.nums;rw[cZ (by rw[qO];have:=e.out;omega)] at s;have U:=tZ (fW p) _ B s (fun q d=>aH (JE r R f q d).1 (by omega)) (by rw[qO];omega);clear j e;go_wp2_with fail;refine U.mono ?_;rintro e1 w1 ⟨v1,rfl,f,L⟩;go_wp2;go_ret;exact⟨_,rfl,f,aC l L⟩
  |succ k=>
   have T:m<p.length:=by have:=e.out;omega
   have ae:(m:Int)<(p.length:Int):=by omega
   obtain⟨q,d⟩:∃q,p[m]? =some q:=⟨_,aR T⟩;obtain⟨b,s5,C,V,F,s6,D,X,G,rfl,g,i,Q⟩:=hv.at_ d;have z:=VP S d;have t:=fun W=>r7 m W (by omega);have x:=fun W u v h H=>cxY q (m:Rat) u v W h H K (r q (dG d)) (bU (az3 (by omega)) f) J;have P:((fW p).take (m-1)).length<=1073741824:=by rw[bK,qO];omega
   have E:=aB z;unfold eS at x t;clear z d;have:=St.mk l;generalize q*(m:Rat)=y at *;generalize (m:Rat)=mr at *;have gx:=i.up (b:=B) g;go_wp2_with fail
   go_region_held3 (fun w'=>R4 w' b (m*4) (.bool s5) (.slice C V F) (.bool s6) (.slice D X G))
    (first|(with_reducible exact i.up g)|(with_reducible exact R4.old (i.up g) (by assumption) g))
    (first
     |(go_at_call 57;refine(t _).mono ?_;rintro e7 w7 ⟨v7,rfl,n,N⟩;obtain⟨s7,A7,k7,c7,s8,A8,k8,c8,rfl⟩:=n.form;have:=St.mk N)
     |(go_at_call 94;refine(x _ _ _ Q.up n.up).mono ?_;rintro e9 w9 ⟨v9,rfl,o,O⟩;obtain⟨s9,A9,k9,c9,s0,A0,k0,c0,rfl⟩:=o.form;have:=St.mk O)
     |((refine MP (by rfl) (by rfl) (by rfl) j.up (by rfl) (Bx.new _ _ _) o.up P (Up.out (a:=w)).size ?_;intro v4 w4 I M)))
   all_goals (
    go_wp2;go_roundg k
    case rel=>exact⟨m+1,by have:=e.out;unfold Hid;omega,by omega,by go_num,by rw[mD,E.out];exact I,(Up.out (a:=w)).trans M⟩
    case measure=>omega)
def cy0(w:World)(a:List (List UInt8))(e:Ending)(w':World):Prop:=if vl a=true then G8 w ((aW aV (fW (aU a))).map cW) 0 e w' else G8 w [] 1 e w'
end Go.Proofs.YtapgbkldiinabaaGreatDoor
namespace Go.Proofs.YtapgbkldiinabaaGreatDoor
open Sos
def Prp(A:List Rat)(a:List Int):Prop:=A.length=a.length∧aN a∧∃c:Rat,c≠0∧∀i,cf A i=c*cf a i
def gJ{n:Int}(h:n≠0):(n:Rat)≠0:=fun e=>h (Rat.intCast_inj.1 e)
def qS(c:Rat)(l:List Int)(i:Nat):cf (l.map (fun n:Int=>c*(n:Rat))) i=c*cf l i:=mG (fun n:Int=>c*(n:Rat)) (by show c*((0:Int):Rat)=0;rw[Rat.intCast_zero,gX]) l i
def jY{c:Rat}{l:List Int}(a:c≠0)(h:aN l):Prp (l.map (fun n:Int=>c*(n:Rat))) l:=⟨cH _,h,c,a,qS c l⟩
def Prp.ne{A:List Rat}{a:List Int}(h:Prp A a)(b:a≠[]):cf A (A.length-1)≠0:=by
 obtain⟨g,i,c,f,d⟩:=h;rw[d,g];have:=gJ ((eI b).1 i);intro e;rcases Rat.mul_eq_zero.1 e with e|e
 ·exact f e
 ·exact this e
def Prp.trim{A:List Rat}{a:List Int}(h:Prp A a):aN A:=by
 by_cases b:a=[]
 ·have:A=[]:=cG (by rw[h.1,b];rfl);rw[this];intro x c;simp at c
 ·exact(eI (fun e=>b (cG (by rw[<-h.1,e];rfl)))).2 (h.ne b)
def Prp.none{A:List Rat}(h:Prp A []):A=[]:=cG h.1
def CT{A g Q R:List Rat}{a b q r:List Int}{KB:Nat}{m:Int}(j:Prp A a)(f:Prp g b)(s:b≠[])(h:PQRes a b KB m q r)(y:DivQ A g Q R):Prp R r:=by
 obtain⟨E, -,c,B,j⟩:=j;have x:=f.ne s;obtain⟨p, -,d,t,f⟩:=f;have u:=gJ h.m0;have l:c/m≠0:=by
  rw[Rat.div_def];intro e;rcases Rat.mul_eq_zero.1 e with e|e
  ·exact B e
  ·exact u (by have:=Rat.inv_inv (m:Rat);rw[e,Rat.inv_zero] at this;exact this.symm)
 have C:DivQ A g (q.map (fun n:Int=>(c/m/d)*(n:Rat))) (r.map (fun n:Int=>(c/m)*(n:Rat))):=by
  have D:aN (q.map (fun n:Int=>(c/m/d)*(n:Rat))):=by
   refine(jY ?_ h.q_trim).trim;rw[Rat.div_def];intro e;rcases Rat.mul_eq_zero.1 e with e|e
   ·exact l e
   ·exact t (by have:=Rat.inv_inv d;rw[e,Rat.inv_zero] at this;exact this.symm)
  refine⟨fun i=> ?_,D,(jY l h.r_trim).trim,by rw[cH,p];exact h.r_lt⟩;rw[gL (qS _ q) f i,t6,rF,qS,j];have o:((m*cf a i:Int):Rat)=((conv (cf q) (cf b) i+cf r i:Int):Rat):=by rw[h.id_ i]
  rw[eJ,Rat.intCast_add,oD] at o;generalize conv (fun k=>((cf q k:Int):Rat)) (fun k=>((cf b k:Int):Rat)) i=z at *
  have v:c/m/d*(d*z)=c/m*z:=by rw[<-Rat.mul_assoc,gW t]
  rw[v];have w:c/m*z+c/m*((cf r i:Int):Rat)=c/m*(m*cf a i):=by rw[o];grind
  rw[w,<-Rat.mul_assoc,gW u]
 obtain⟨-,rfl⟩:=y.unique C x (by rw[p];exact List.length_pos_iff.2 s);exact jY l h.r_trim
def nM{R:List Rat}{r:List Int}(h:Prp R r):Prp R (aS r):=by
 obtain⟨g,a,c,f,d⟩:=h;by_cases b:r=[]
 ·subst b;exact⟨g,gV a,c,f,fun i=>by rw[d,eR];have:aS []=[]:=cG (dF []);rw[this,eR]⟩
 ·refine⟨by rw[dF];exact g,gV a,c*((bN r:Int):Rat),fun e=> ?_,fun i=> ?_⟩
  ·rcases Rat.mul_eq_zero.1 e with e|e
   ·exact f e
   ·exact gJ (nI a b) e
  ·rw[d,<-lW r i,eJ];grind
def b6(g:List Int):List Rat:=eQ g (cf g (g.length-1))
def oQ(p:List Rat):List Rat:=aW aV (oA [] (1/cf p (p.length-1)) p)
def qT{p:List Rat}{e:List Int}(h:Prp p e):oQ p=b6 e:=by
 by_cases a:e=[]
 ·subst a;rw[h.none];rfl
 ·have hn:=h.ne a;obtain⟨d,g,c,k,b⟩:=h;have f:=(eI a).1 g;refine oZ (jS _) (VN f g) (fun i=> ?_);unfold oQ b6;rw[iS,xW,eR,xN,b,b,d];have j:=gJ f;rw[b,d] at hn;grind
def uD{e:List Int}(a:aN e):Prp (b6 e) e:=by
 by_cases b:e=[]
 ·subst b;exact⟨rfl,a,1,by decide,fun i=>by rw[eR];show cf [] i=_;rw[eR,Rat.intCast_zero,gX]⟩
 ·have d:=gJ ((eI b).1 a);refine⟨cH _,a,1/((cf e (e.length-1):Int):Rat),fun h=> ?_,fun i=>by unfold b6;rw[xN];grind⟩;have:(1:Rat)=0:=by
   have c:1/((cf e (e.length-1):Int):Rat)*((cf e (e.length-1):Int):Rat)=1:=gW d;rw[<-c,h,Rat.zero_mul]
  exact absurd this (by decide)
def CU{e:List Int}{K:Nat}(h:∀n∈e,nl n.natAbs<=K)(b:1<=K):∀q∈b6 e,RL K q:=fun q a=>by
 unfold b6 eQ at a;obtain⟨n,hn,rfl⟩:=List.mem_map.1 a;exact CA n _ K (h n hn) (iU h _) b
def XM{e:List Int}(h:e.length=1)(c:aN e):b6 e=b6 [1]:=by
 obtain⟨x,rfl⟩:∃x,e=[x]:=List.length_eq_one_iff.1 h;have d:=c x rfl;have:=gJ d;show[(x:Rat)/(x:Rat)]=[((1:Int):Rat)/((1:Int):Rat)]
 have a:(x:Rat)/x=1:=by grind
 have b:((1:Int):Rat)/((1:Int):Rat)=1:=by rw[Rat.intCast_one];grind
 rw[a,b]
def Trc(B:Nat)(a b g:List Int):Prop:=Euc B a b g∨(b=[]∧a.length=1∧g=[1])∨a.length<b.length∧Euc B b a g∧∀n∈a,nl n.natAbs<=B
def Trc.done{B:Nat}{a g:List Int}(h:Trc B a [] g)(c:aN a):b6 a=b6 g:=by
 rcases h with h|⟨-,h,rfl⟩|⟨h, -⟩
 ·cases h with
  |done=>rfl
  |one b=>cases b
  |step b=>simp at b
 ·exact XM h c
 ·simp at h
def XN{B:Nat}{A j Q R:List Rat}{a b g:List Int}(d:Prp A a)(e:Prp j b)(f:b≠[])(h:Trc B a b g)(m:DivQ A j Q R):∃c,Prp R c∧Trc B b c g∧(∀n∈c,nl n.natAbs<=B)∧c.length<b.length:=by
 rcases h with h|⟨h, -⟩|⟨o,p,hn⟩
 ·cases h with
  |done=>exact absurd rfl f
  |one k=>
   have r:=m.r_lt;rw[e.1] at r;have:R=[]:=cG (by omega);subst this;exact⟨[],⟨rfl,(fun x s=>by simp at s),1,by decide,fun i=>by rw[eR,eR,Rat.intCast_zero,gX]⟩,.inr (.inl ⟨rfl,k,rfl⟩),(fun n hn=>by cases hn),by rw[k];exact Nat.zero_lt_one⟩
  |step k l t=>exact⟨_,nM (CT d e f l m),.inl t,gU l.br,by rw[dF];exact l.r_lt⟩
 ·exact absurd h f
 ·have q:A.length<j.length:=by rw[d.1,e.1];exact o
  obtain⟨-,rfl⟩:=m.unique (DivQ.short q) (e.ne f) (by omega);rw[qB d.trim];exact⟨a,d,.inl p,hn,o⟩
def uE{A:List Rat}{D:Int}{K:Nat}(h:ComDen A D K)(t:aN A):Prp A (cC A D):=by
 have b:=gJ (show D≠0 by have:=h.pos;omega);refine⟨(oN A D).symm,oO h.pos h.dvd t,1/(D:Rat),fun e=> ?_,fun i=> ?_⟩
 ·have a:1/(D:Rat)*D=1:=gW b;rw[e,Rat.zero_mul] at a;exact absurd a (by decide)
 ·rw[JC A D h.dvd];grind
end Go.Proofs.YtapgbkldiinabaaGreatDoor
namespace Go.Proofs.YtapgbkldiinabaaGreatDoor
open Go.RowKit Sos Tryz
def DB(p:List Rat)(v:Value)(w:World)(hv:QsAt w v p)(K:Nat)(t:∀q∈p,RL K q)(i:1<=K)(L:p≠[]->cf p (p.length-1)≠0)(S:p.length<=1024)(ac:K<=60000000000):
  Calls prog 63 #[v] w (C8 w (oQ p)):=by
 obtain⟨A,c,rfl,hc⟩:=hv.form;go_enter func63,ntmps63;by_cases d:p.length=0
 ·have f:Hid (oQ p=[]):=by
   have:p=[]:=cG d;rw[this];rfl
  have Y:((p.length:Int)==0)=true:=by rw[d];rfl
  clear d;go_wp2;go_ret;exact⟨_,rfl,by rw[f.out];exact QsAt.nil _,aG _ _⟩
 ·have Y:((p.length:Int)==0)=false:=by simpa using d
  obtain⟨l,k⟩:∃l,p.length-1=l:=⟨_,rfl⟩;have af:(p.length:Int)-1=(l:Int):=by omega
  have T:l<p.length:=by omega
  have ad:(0:Int)<=(l:Int):=by omega
  have ae:(l:Int)<(p.length:Int):=by omega
  have ag:IntKind.i64.wrap (l:Int)=(l:Int):=IntWalk.i64_in _ ⟨by omega,by omega⟩;have m:=L (fun e=>d (by rw[e];rfl));obtain⟨F,Z,D,V,G,s4,E,X,H,rfl,Q,I,R⟩:=hv.cell T;have f:Hid (aW aV (oA [] (1/cf p l) p)=oQ p):=by unfold Hid oQ;rw[k]
  rw[k] at m;have o:RL K (cf p l):=lV t (iG i) l;have j:RL K 1:=bU (az3 (n:=1) (by decide)) i;have C:∀W,Calls prog 57 #[.int .i64 1] W (eS W 1):=fun W=>r7 1 W (by decide);have z:=fun W u v h g=>vD 1 (cf p l) u v W h g K j o (by omega) m;have B:=fun W u v x h g J=>KX [] (1/cf p l) p u v x W h g J K (K+K) (fun q U=>by cases U) t (xS j o) i (by simp) S (by omega);rw[f.out] at B;unfold eS at C z;clear m o d k j;generalize cf p l=x at *;generalize 1/x=y at *;go_wp2_with fail
  go_region_held3 (fun w'=>R4 w' F (l*4) (.bool Z) (.slice D V G) (.bool s4) (.slice E X H))
   (with_reducible exact I.up Q)
   (first
    |(go_at_call 57;refine(C _).mono ?_;rintro e5 w5 ⟨v5,rfl,r,N⟩;obtain⟨s5,A5,k5,c5,s6,A6,k6,c6,rfl⟩:=r.form;have:=St.mk N)
    |(go_at_call 101;refine(z _ _ _ r.up R.up).mono ?_;rintro e7 w7 ⟨v7,rfl,s,O⟩;obtain⟨s7,A7,k7,c7,s8,A8,k8,c8,rfl⟩:=s.form;have:=St.mk O)
    |(go_at_call 55;refine(B _ _ _ _ (QsAt.nil _) s.up hv.up).mono ?_;rintro e9 w9 ⟨v9,rfl,M,P⟩;have:=St.mk P))
  all_goals (
   go_wp2;go_ret;exact⟨_,rfl,M,Up.out (a:=w) (b:=w9)⟩)
def ZI(m:List Int->List Int->List Int->Prop)(z:Nat)(aj:∀{a g:List Int},m a [] g->aN a->b6 a=b6 g)(am:∀{A c Q R:List Rat} {a b g:List Int},Prp A a->Prp c b->b≠[]->m a b g->DivQ A c Q R->∃d,Prp R d∧m b d g∧(∀n∈d,nl n.natAbs<=z)∧d.length<b.length)(A c:List Rat)(a b g:List Int)(va vb:Value)(w:World)(l:QsAt w va A)(i:QsAt w vb c)(Y:Prp A a)(Z:Prp c b)(T:m a b g)(K:Nat)(G:∀q∈A,RL K q)(H:∀q∈c,RL K q)(ad:z<=K)(an:1<=z)(x:A.length<=8)(y:c.length<=8)(hK:K<=10000000):
  Calls prog 64 #[va,vb] w (C8 w (b6 g)):=by
 go_enter func64,ntmps64;go_wp2_with fail;go_loopg [0,1] c.length (fun k v0 v1 wr=>∃(A c:List Rat) (a b:List Int),Hid (c.length=k)∧QsAt wr v0 A∧QsAt wr v1 c∧Hid (Prp A a∧Prp c b∧m a b g)∧Hid ((∀q∈A,RL K q)∧∀q∈c,RL K q)∧A.length<=8∧c.length<=8∧Below w.heap.size w wr)
 case atStart=>exact⟨A,c,a,b,rfl,l,i,⟨Y,Z,T⟩,⟨G,H⟩,x,y,aG _ _⟩
 case round=>
  clear l i Y Z T G H x y;clear A c a b;obtain⟨A,c,a,b,s,l,i,f,p,x,y,j⟩:=hrel;generalize wr=wx at *;obtain⟨A1,c1,rfl,aq⟩:=l.form;obtain⟨A2,c2,rfl,ar⟩:=i.form;cases gk with
  |zero=>
   have q0:¬(0:Int)<(c.length:Int):=by have:=s.out;omega
   have B:Hid (oQ A=b6 g):=by
    have ah:b=[]:=cG (by rw[<-f.out.2.1.1];exact s.out);have t:=f.out.2.2;rw[ah] at t;exact(qT f.out.1).trans (aj t f.out.1.2.1)
   have r:=fun W h=>DB A (.slice A1 A.length c1) W h K p.out.1 (by omega) (fun e=>f.out.1.ne (fun C=>e (cG (by rw[f.out.1.1,C];rfl)))) (by omega) (by omega);rw[B.out] at r;go_wp2_with fail;refine(r _ l).mono ?_;rintro e3 w3 ⟨v3,rfl,t,ag⟩;go_wp2;go_ret;exact⟨_,rfl,t,aC j ag⟩
  |succ k=>
   have q0:(0:Int)<(c.length:Int):=by have:=s.out;omega
   have ae:1<=c.length:=by omega
   have M:b≠[]:=fun e=>by
    have h:=f.out.2.1.1;rw[e] at h;have D:c.length=0:=h;omega
   have ai:=JY K A.length;have V:2^A.length<=2^8:=cO (by decide) x;have al:=Nat.mul_le_mul V (show 3*K+1<=30000001 by omega);have P:=fun W u v h D=>L3 A c u v W h D K p.out.1 p.out.2 (by omega) (by omega) ae (f.out.2.1.ne M) 16000000000 (by omega) (by decide);have r:=fun (R:List Rat) W v h hR hl h0=>DB R v W h 16000000000 hR (by decide) h0 hl (by decide);clear ai V al;go_wp2_with fail;refine(P _ _ _ l i).mono ?_;rintro e4 w4 ⟨v4,u4,Q,R,rfl,h4,X,F,af,J,ao,ap,N⟩;obtain⟨d,o,L,U,S⟩:=am f.out.1 f.out.2.1 M f.out.2.2 F;have I:R≠[]->cf R (R.length-1)≠0:=fun e=>o.ne (fun C=>e (cG (by rw[o.1,C];rfl)));replace i:=i.be N;replace j:=aC j N;have B:=aB (qT o);have HN:Hid (Prp c b∧Prp (b6 d) d∧m b d g):=⟨f.out.2.1,uD o.2.1,L⟩;have ak:(b6 d).length=d.length:=(uD o.2.1).1;have au:d.length<c.length:=by rw[f.out.2.1.1];exact S
   have ac:Hid ((∀q∈c,RL K q)∧∀q∈b6 d,RL K q):=⟨p.out.2,CU (fun n hn=>aH (U n hn) ad) (by omega)⟩;clear P F af l o L U S f p h4;go_wp2_with fail;refine(r R _ _ X J (by omega) I).mono ?_;rintro e5 w5 ⟨v5,rfl,E,O⟩;rw[B.out] at E;replace i:=i.be O;replace j:=aC j O;clear r X J I;go_wp2;go_roundg d.length
   case rel=>exact⟨c,b6 d,b,d,by unfold Hid;exact ak,i,E,HN,ac,y,by omega,j⟩
   case measure=>have:=s.out;omega
def ZJ(c:Nat)(A d:List Rat)(a b g:List Int)(i j:Value)(w:World)(e:QsAt w i A)(f:QsAt w j d)(v:Prp A a)(x:Prp d b)(T:Trc c a b g)(K:Nat)(o:∀q∈A,RL K q)(p:∀q∈d,RL K q)(k:c<=K)(l:1<=c)(s:A.length<=8)(u:d.length<=8)(n:K<=10000000):
  Calls prog 64 #[i,j] w (C8 w (b6 g)):=
 ZI (Trc c) c (fun h t=>h.done t) (fun e f r h m=>XN e f r h m) A d a b g i j w e f v x T K o p k l s u n
def TsAt.up{a b:World}[u:Up a b]{B:Nat}{v:Value}{c:List (List (List UInt8))}(h:TsAt a B 22 v c):TsAt b B 22 v c:=h.be u.out
def bqO(a:List (List (List UInt8)))(B u:Nat)(s t:Value)(w:World)(h:TsAt w B 22 s a)(m:TsAt w u 22 t a)(X:a.length<=1024)(q:∀l∈a,l.length<=1024):
  Calls prog 12 #[s,t] w fun e w'=>e= .returned (.bool true)∧Below w.heap.size w w':=by
 obtain⟨A,c,rfl,S⟩:=h.form;obtain⟨H,M,rfl,T⟩:=m.form;go_enter func12,ntmps12;go_wp2_with fail;go_loopg [5] a.length (fun k i wr=>∃j,Hid (j+k=a.length)∧i= .int .i64 j∧Below w.heap.size w wr)
 case atStart=>exact⟨0,by unfold Hid;omega,rfl,aG _ _⟩
 case round=>
  obtain⟨j,g,rfl,d⟩:=hrel;generalize wr=wy at *;have U:(0:Int)<=(j:Int):=by omega
  cases gk with
  |zero=>
   have z:j=a.length:=g.out;subst z;go_wp2;go_ret;exact⟨rfl,d⟩
  |succ k=>
   have C:j<a.length:=by have:=g.out;omega
   have V:(j:Int)<(a.length:Int):=by omega
   obtain⟨p,f⟩:∃p,a[j]? =some p:=⟨_,aR C⟩;obtain⟨K,ua,rfl,Z,N,n⟩:=(h.be d).at_ f;obtain⟨L,F,rfl,lb,O,o⟩:=(m.be d).at_ f;have Y:=q p (dG f);have r:=fun W v x=>aqV p p ua F W v x (by omega) (by omega);have D:decide (p=p)=true:=by simp
   rw[D] at r;obtain⟨I,P,rfl, -⟩:=n.form;obtain⟨J,Q,rfl, -⟩:=o.form;clear f q h m;go_wp2_with fail
   go_region_with (first
    |(go_at_call 11;refine(r _ n.up o.up).mono ?_;rintro R G ⟨rfl,y⟩;have:=St.mk y))
   all_goals (
    have E:=bJ (b:=G) d;go_wp2;go_roundg k
    case rel=>exact⟨j+1,by have:=g.out;unfold Hid;omega,by go_num,E⟩
    case measure=>omega)
def PRow.typ{w:World}{B:Nat}{e:TypeId}{v:Value}{f:List Value}(d:PRow w B e v f){b:Nat}(a:v.ownBlock=some b):∃cur,w.heap[b]? =some (.cells cur e (0,0)):=by
 rcases d with ⟨rfl,_⟩|⟨g,h,cur,rfl,_,c,_⟩
 ·simp[Value.ownBlock] at a
 ·simp[Value.ownBlock] at a;subst a;exact⟨cur,c⟩
def PRow.km{w w':World}{B:Nat}{e:TypeId}{v:Value}{i:List Value}(h:PRow w B e v i)(c:w.grownBy w' v.ownBlock):KM w w':=⟨c.size,fun p k x a=>by
 refine(World.cell?_of_block (c.block p.block (block_lt_of_cell a) (fun b=> ?_))).trans a;rcases h with ⟨rfl,_⟩|⟨g,l,cur,rfl,_,f,_,_,_,_,hn⟩
 ·simp[Value.ownBlock] at b
 ·simp[Value.ownBlock] at b;unfold World.cell? at a;rw[b,f] at a;simp only at a;split at a
  ·cases a
  ·rw[<-Array.getElem?_toList] at a;obtain⟨j,m,c',d⟩:=hn _ (dG a);cases d⟩
def QsAt.grown{w w':World}{B:Nat}{e:TypeId}{v u:Value}{r:List Value}{l:List Rat}(h:QsAt w u l)(i:PRow w B e v r)(o:e≠95)(g:w.grownBy w' v.ownBlock):QsAt w' u l:=by
 obtain⟨A,c,f,n,h⟩:=h;refine⟨A,c,f,n,?_⟩;rcases h with h|⟨b,j,f,d,q,p⟩
 ·exact .inl h
 ·refine .inr ⟨b,j,f,⟨(g.block b d.lt (fun m=> ?_)).trans d.1,d.2⟩,q,p.ke (i.km g)⟩;obtain⟨s,k⟩:=i.typ m.symm;have a:w.heap[b]? =some (.cells j.flatten.toArray 95 (0,0)):=d.1;rw[k] at a;injection a with a;injection a with _ a;exact o a
abbrev QQs:=RowsAt QsAt
def QQs.be{w w':World}{B:Nat}{v:Value}{b:List (List Rat)}(h:QQs w B 54 v b)(a:Below w.heap.size w w'):QQs w' B 54 v b:=by
 obtain⟨j,c,d,e⟩:=h;exact⟨j,c.be a,d,fun i u l g f=>(e i u l g f).be a⟩
def QQs.up{a b:World}[u:Up a b]{B:Nat}{v:Value}{c:List (List Rat)}(h:QQs a B 54 v c):QQs b B 54 v c:=QQs.be h u.out
def QQs.push{w w':World}{B:Nat}{v j u:Value}{c:List Value}{e:List (List Rat)}{l:List Rat}(f:PRow w B 54 v c)(g:c.length=e.length)(m:∀(i:Nat) (u:Value) (l:List Rat),c[i]? =some u->e[i]? =some l->QsAt w u l)(o:QsAt w u l)
  (n:PRow w' B 54 j (c++[u]))(h:w.grownBy w' v.ownBlock):QQs w' B 54 j (e++[l]):=by
 refine⟨_,n,by rw[cY,cY,g];rfl,fun i x y a b=> ?_⟩;rcases dE i c.length with d|d
 ·rw[gA d] at a;rw[gA (by omega)] at b;exact(m i x y a b).grown f (by decide) h
 ·rw[fK d] at a;rw[fK (by omega),<-g] at b;have k:i-c.length=0:=by
   have:=(List.getElem?_eq_some_iff.1 a).1;simp at this;omega
  rw[k] at a b;simp at a b;subst a;subst b;exact o.grown f (by decide) h
def ML:(Tryz.prog.info? 54).map (fun i=>(i.zero,i.size,i.bytes))=some (some (.slice none 0 0),1,24):=by kernel_rfl
def cy1(w:World)(L:List (List Rat))(e:Ending)(w':World):Prop:=∃a,e= .returned a∧QQs w' w.heap.size 54 a L∧Below w.heap.size w w'
def QQs.one{w:World}{B:Nat}{A:Option Addr}{k c:Nat}{l:List Rat}(h:QsAt w (.slice A k c) l)(d:B<=w.heap.size):QQs (w.alloc (.cells #[.slice A k c] 54)) B 54 (.slice (some ⟨w.heap.size,0,none⟩) 1 1) [l]:=by
 refine⟨[.slice A k c],.inr ⟨w.heap.size,1,#[.slice A k c],rfl,d,heap_alloc_new w _,aE,by decide,rfl,rfl,fun u a=> ?_⟩,rfl,fun i u e a b=> ?_⟩
 ·exact⟨A,k,c,by simpa using a⟩
 ·cases i with
  |zero=>
   injection a with a;injection b with b;subst a b;exact h.be ((aG _ _).alloc aE _)
  |succ i=>simp at a
def tG(l:List (List Rat)):List (List (List UInt8)):=l.map (fun A=>A.map cW)
def TsAt.mono'{w:World}{B a:Nat}{v:Value}{b:List (List (List UInt8))}(h:TsAt w B 22 v b)(j:a<=B):TsAt w a 22 v b:=by
 obtain⟨l,e,f,i⟩:=h;refine⟨l,?_,f,i⟩;rcases e with h|⟨g,c,d,hv,k,h⟩
 ·exact .inl h
 ·exact .inr ⟨g,c,d,hv,aH j k,h⟩
def bqP{L:List (List Rat)}{j:Nat}{a:List Rat}(h:L[j]? =some a):tG (L.take (j+1))=tG (L.take j)++[a.map cW]:=by
 rw[BA,h,Option.toList_some];unfold tG;rw[List.map_append];rfl
def K1(s0 s1 q:List Int)(m:Int):List Int:=aW aV (uG (aW aV (s0.map (·*m))) (kC q s1) (-1))
inductive Ext(B:Nat):List Int->List Int->List Int->List Int->List Int->List Int->Prop
 |done (a s0 s1:List Int):Ext B a [] s0 s1 a s0
 |step {a b s0 s1 q r g s:List Int} {m c:Int} (hb:b≠[]) (h:PQRes a b B m q r) (hc:c≠0) (hr:∀n∈r,c∣n) (hn:∀n∈K1 s0 s1 q m,c∣n) (t:Ext B b (jX r c) s1 (jX (K1 s0 s1 q m) c) g s):Ext B a b s0 s1 g s
end Go.Proofs.YtapgbkldiinabaaGreatDoor
namespace Go.Proofs.YtapgbkldiinabaaGreatDoor
open Sos
section
variable {R:Type}[Add R][Mul R][Sub R][OfNat R 0][CR R]
def XW(p q:Nat->R){n i:Nat}(h:i<=n):conv p q i=bW (fun k=>p k*(if k<=i then q (i-k) else 0)) (n+1):=by
 obtain⟨d,rfl⟩:∃d,n=i+d:=⟨n-i,by omega⟩;rw[show i+d+1=i+1+d by omega,AA,qC (n:=d) (fun k _=>by rw[if_neg (by omega),CR.mul_zero]),CR.add_zero];exact mH (fun k a=>by rw[if_pos (by omega)])
def XX(p q r:Nat->R)(i:Nat):conv (conv p q) r i=conv p (conv q r) i:=by
 have b:conv (conv p q) r i=bW (fun k=>bW (fun j=>p j*((if j<=k then q (k-j) else 0)*r (i-k))) (i+1)) (i+1):=by
  refine mH (fun k a=> ?_);rw[XW p q (show k<=i by omega),CR.mul_comm,<-zZ];refine mH (fun j _=> ?_);rw[CR.mul_comm (r (i-k)),CR.mul_assoc]
 rw[b,O5];refine mH (fun j l=> ?_);rw[zZ];congr 1;obtain⟨d,h⟩:∃d,i+1=j+d:=⟨i+1-j,by omega⟩;rw[h,AA,qC (n:=j) (fun k a=>by rw[if_neg (by omega),rE]),zY];have c:d=i-j+1:=by omega
 rw[c];refine mH (fun k a=> ?_);rw[if_pos (by omega),show j+k-j=k by omega,show i-(j+k)=i-j-k by omega]
end
def XY(xs ys:List Int)(y:Int)(i:Nat):cf (uG xs ys y) i=cf xs i+cf ys i*y:=by
 unfold uG;rw[qA];split
 ·rfl
 ·rw[bV (show xs.length<=i by omega),bV (show ys.length<=i by omega)];simp
def Dv(f:Nat->Int)(d:List Int):Prop:=∃(k:Int) (u:List Int),k≠0∧∀i,k*f i=conv (cf u) (cf d) i
section
variable {f g:Nat->Int}{d e:List Int}
def Dv.congr(h:Dv f d)(a:∀i,g i=f i):Dv g d:=by
 obtain⟨k,u,b,c⟩:=h;exact⟨k,u,b,fun i=>by rw[a,c]⟩
def Dv.self(d:List Int)(c:Int):Dv (fun i=>c*cf d i) d:=⟨1,[c],by decide,fun i=>by
 have h:∀k,cf [c] k=if k=0 then c else 0:=fun k=>by
  cases k with
  |zero=>rfl
  |succ k=>rw[bV (by simp)];rfl
 rw[gL h (fun _=>rfl),qE,if_pos (dC _),Int.one_mul];rfl⟩
def Dv.zero(d:List Int):Dv (fun _=>0) d:=⟨1,[],by decide,fun i=>by rw[lK (fun k=>eR k)];simp⟩
def Dv.lin(h:Dv f d)(a:Dv g d)(q:List Int)(c c':Int):Dv (fun i=>c*f i+c'*conv (cf q) g i) d:=by
 obtain⟨k,u,b,n⟩:=h;obtain⟨l,v,m,hv⟩:=a;refine⟨k*l,uG (u.map (·*(l*c))) (kC q v) (k*c'),Int.mul_ne_zero b m,fun i=> ?_⟩;have e:∀j,cf (uG (u.map (·*(l*c))) (kC q v) (k*c')) j=(l*c)*cf u j+(k*c')*conv (cf q) (cf v) j:=fun j=>by
  rw[XY,CC,NZ,fD (cf u j),fD (conv _ _ _)]
 rw[gL e (fun _=>rfl),qD,t6,t6,<-n,XX,gL (fun _=>rfl) (fun j=>(hv j).symm),rF];grind
def Dv.cancel{c:Int}(a:c≠0)(h:Dv (fun i=>c*f i) d):Dv f d:=by
 obtain⟨k,u,b,j⟩:=h;exact⟨k*c,u,Int.mul_ne_zero b a,fun i=>by rw[Int.mul_assoc];exact j i⟩
def Dv.none{r y:List Int}(h:Dv (cf r) y)(j:r.length<y.length)(o:aN y):∀i,cf r i=0:=by
 obtain⟨k,u,m,l⟩:=h;have p:y≠[]:=fun e=>by rw[e] at j;simp at j
 have n:=YJ (d:=cf u) (L:=u.length) p o (fun i c=>bV c) (fun i c=>by rw[<-l,bV (by omega)];simp);intro i;have b:=l i;rw[lK n] at b;rcases Int.mul_eq_zero.1 b with a|a
 ·exact absurd a m
 ·exact a
end
structure ExtI(x y:List Int)(D:Int)(a b s0 s1:List Int):Prop where
 c0:Dv (fun i=>D*cf a i+ -1*conv (cf s0) (cf x) i) y
 c1:Dv (fun i=>D*cf b i+ -1*conv (cf s1) (cf x) i) y
 dv:∀d,Dv (cf a) d->Dv (cf b) d->Dv (cf x) d∧Dv (cf y) d
 ne:a≠[]∨b≠[]
 ta:aN a
 tb:aN b
 t0:aN s0
 t1:aN s1
 len:(s1=[]∧a=x∧b=y∧s0.length<=1)∨(s1.length+a.length<=y.length+1∧s0.length+a.length<=y.length∧b.length<a.length)
structure ExtR(x y:List Int)(D:Int)(g s:List Int):Prop where
 c:Dv (fun i=>D*cf g i+ -1*conv (cf s) (cf x) i) y
 dx:Dv (cf x) g
 dy:Dv (cf y) g
 ne:g≠[]
 tg:aN g
 ts:aN s
 len:s.length+g.length<=y.length
structure BezRes(A B G S T:List Rat)(Kg K:Nat):Prop where
 id_:∀i,conv (cf S) (cf A) i+conv (cf T) (cf B) i=cf G i
 da:∃U:List Rat,∀i,cf A i=conv (cf U) (cf G) i
 db:∃U:List Rat,∀i,cf B i=conv (cf U) (cf G) i
 ne:G≠[]
 tg:aN G
 ts:aN S
 tt:aN T
 last:cf G (G.length-1)=1
 len:B=[]∨S.length+G.length<=B.length
 lg:G.length<=max A.length B.length
 ls:S.length<=B.length+1
 lt:T.length<=A.length+B.length
 bg:∀q∈G,RL Kg q
 bs:∀q∈S,RL K q
 bt:∀q∈T,RL K q
 bsa:∀i,i<=1000->RL K (conv (cf S) (cf A) i)
 btb:∀i,i<=1000->RL K (conv (cf T) (cf B) i)
def bxG{Q B:List Rat}:(aW aV (eF Q B)).length<=Q.length+B.length:=by
 refine aH (oY _ _) ?_;unfold eF;split
 ·simp
 ·rw[cH,List.length_range];omega
def XL{c:Rat}(h:c≠0):c⁻¹≠0:=fun e=>h (by have:=Rat.inv_inv c;rw[e,Rat.inv_zero] at this;exact this.symm)
def m6{c d:Rat}(h:c≠0)(k:d≠0):c*d≠0:=fun e=>(Rat.mul_eq_zero.1 e).elim h k
def uC{c d:Rat}(h:c≠0)(k:d≠0):c/d≠0:=by rw[Rat.div_def];exact m6 h (XL k)
structure Rl(G:List Rat)(c:Rat)(r:List Rat)(e:List Int):Prop where
 c0:c≠0
 r_:∀i,conv (cf r) (cf G) i=c*cf e i
 tr:aN r
 te:aN e
def Rl.len{G r:List Rat}{c:Rat}{e:List Int}(h:Rl G c r e)(s:cf G (G.length-1)≠0)(hn:1<=G.length):(r=[]->e=[])∧(r≠[]->r.length+G.length=e.length+1):=by
 constructor
 ·rintro rfl;refine YK h.te (fun i=> ?_);have:=h.r_ i;rw[lK (fun k=>eR k)] at this;rcases Rat.mul_eq_zero.1 this.symm with a|a
  ·exact absurd a h.c0
  ·exact Rat.intCast_inj.1 a
 ·intro g;have w:=List.length_pos_iff.2 g;have u:=(eI g).1 h.tr;have f:=p5 (p:=cf r) (q:=cf G) (m:=r.length-1) (n:=G.length-1) (fun i b=>bV (by omega)) (fun i b=>bV (by omega));rw[h.r_] at f;have v:cf e (r.length-1+(G.length-1))≠0:=fun d=>by
   rw[d,Rat.intCast_zero,gX] at f;exact m6 u s f.symm
  have l:r.length-1+(G.length-1)<e.length:=by
   rcases dE (r.length-1+(G.length-1)) e.length with a|a
   ·exact a
   ·exact absurd (bV a) v
  have t:e≠[]:=fun d=>by rw[d] at l;simp at l
  have x:¬r.length+(G.length-1)<e.length:=fun a=>by
   have o:=(eI t).1 h.te;have j:=rG (p:=cf r) (q:=cf G) (m:=r.length) (n:=G.length) (fun i b=>bV b) (fun i b=>bV b) (i:=e.length-1) (by omega);rw[h.r_] at j;exact m6 h.c0 (gJ o) j
  omega
def pK{x:Rat}(h:0<x):0<x.num:=by
 have a:=Rat.num_nonneg.2 (Rat.le_of_lt h);have b:x.num≠0:=fun e=>by rw[Rat.num_eq_zero.1 e] at h;exact absurd h (by decide)
 omega
def iY(x:Rat):x<0∨x=0∨0<x:=by
 by_cases a:x=0
 ·exact .inr (.inl a)
 ·by_cases b:0<x
  ·exact .inr (.inr b)
  ·exact .inl (by grind)
def fS(x:Rat):(0<x->x.num.sign=1)∧(x<0->x.num.sign= -1):=⟨fun h=>Int.sign_eq_one_of_pos (pK h),fun h=>Int.sign_eq_neg_one_of_neg (by have:=pK (show 0< -x by grind);rw[Rat.neg_num] at this;omega)⟩
def tU{f:Rat}(a:0<f)(x:Rat):(f*x).num.sign=x.num.sign:=by
 rcases iY x with h|h|h
 ·have:f*x<0:=by have:=Rat.mul_pos a (show 0< -x by grind);grind
  rw[(fS _).2 this,(fS _).2 h]
 ·rw[h,gX]
 ·rw[(fS _).1 (Rat.mul_pos a h),(fS _).1 h]
def xJ(n:Int):((n:Rat)).num.sign=n.sign:=by rw[Rat.num_intCast]
def aT(f:Rat)(b:List Int):List Rat:=b.map (fun n:Int=>f*(n:Rat))
def fX(f:Rat)(b:List Int):(aT f b).length=b.length:=cH _
def dS(f:Rat)(b:List Int)(i:Nat):cf (aT f b) i=f*cf b i:=qS f b i
def CQ{f:Rat}{b:List Int}(h:f≠0∨b=[])(c:aN b):aN (aT f b):=by
 rcases h with h|rfl
 ·exact(jY h c).trim
 ·intro x a;cases a
def XI{A f Q R:List Rat}{a b q r:List Int}{KB:Nat}{m:Int}{c:Rat}(v:∀i,cf A i=c*cf a i)(y:c≠0)(e:Prp f b)(l:b≠[])(h:PQRes a b KB m q r)(x:DivQ A f Q R):R.length=r.length∧∀i,cf R i=c/m*cf r i:=by
 have w:=e.ne l;obtain⟨j, -,d,p,e⟩:=e;have s:=gJ h.m0;have o:c/m≠0:=uC y s;have B:DivQ A f (q.map (fun n:Int=>(c/m/d)*(n:Rat))) (r.map (fun n:Int=>(c/m)*(n:Rat))):=by
  refine⟨fun i=> ?_,(jY (uC o p) h.q_trim).trim,(jY o h.r_trim).trim,by rw[cH,j];exact h.r_lt⟩;rw[gL (qS _ q) e i,t6,rF,qS,v];have g:((m*cf a i:Int):Rat)=((conv (cf q) (cf b) i+cf r i:Int):Rat):=by rw[h.id_ i]
  rw[eJ,Rat.intCast_add,oD] at g;generalize conv (fun k=>((cf q k:Int):Rat)) (fun k=>((cf b k:Int):Rat)) i=z at *
  have t:c/m/d*(d*z)=c/m*z:=by rw[<-Rat.mul_assoc,gW p]
  rw[t];have u:c/m*z+c/m*((cf r i:Int):Rat)=c/m*(m*cf a i):=by rw[g];grind
  rw[u,<-Rat.mul_assoc,gW s]
 obtain⟨-,rfl⟩:=x.unique B w (by rw[j];exact List.length_pos_iff.2 l);exact⟨cH _,qS _ r⟩
inductive ChT(B:Nat):List Int->Rat->List Int->Rat->List (List Rat)->Prop
 |done (a:List Int) (fa fb:Rat):ChT B a fa [] fb []
 |step {a b q r r':List Int} {fa fb f':Rat} {m:Int} {C:List (List Rat)} (hb:b≠[]) (h:PQRes a b B m q r) (h0:fa≠0∧fb≠0∧aN b) (ht:aN r') (hl:r'.length=r.length) (hf:f'≠0∨r'=[]) (he:∀i,f'*cf r' i= -(fa/m)*cf r i)
   (hR:∀F,RL F fa->RL (F+B) f') (hn:∀n∈r',nl n.natAbs<=B) (t:ChT B b fb r' f' C):ChT B a fa b fb (aT fb b :: C)
def CS{a b q r r':List Int}{c f d:Rat}{m:Int}{B:Nat}{Q R:List Rat}(k:b≠[])(h:PQRes a b B m q r)(e:c≠0∧f≠0∧aN b)(o:aN r')(n:d≠0∨r'=[])(l:∀i,d*cf r' i= -(c/m)*cf r i)(j:DivQ (aT c a) (aT f b) Q R):
  aW aV (oA [] (-1) R)=aT d r':=by
 obtain⟨-,g⟩:=XI (dS c a) e.1 (jY e.2.1 e.2.2) k h j;refine oZ (jS _) (CQ n o) (fun i=> ?_);rw[iS,xW,eR,g,dS,l];grind
def ChT.len{B:Nat}{a b:List Int}{c d:Rat}{C:List (List Rat)}(h:ChT B a c b d C):C.length<=b.length:=by
 induction h with
 |done a c d=>exact mC 0
 |step g h e l k j i f hn t m=>
  have:=h.r_lt;rw[eG];omega
def JT{a b q r:List Int}{B:Nat}{m:Int}{c d:Rat}(h:PQRes a b B m q r)(e:c≠0∧d≠0):∃Q R,DivQ (aT c a) (aT d b) Q R:=by
 have f:=gJ h.m0;refine⟨aT (c/m/d) q,aT (c/m) r,fun i=> ?_,(jY (uC (uC e.1 f) e.2) h.q_trim).trim,(jY (uC e.1 f) h.r_trim).trim,by rw[fX,fX];exact h.r_lt⟩;rw[gL (dS _ q) (dS _ b) i,t6,rF,dS,dS];have g:((m*cf a i:Int):Rat)=((conv (cf q) (cf b) i+cf r i:Int):Rat):=by rw[h.id_ i]
 rw[eJ,Rat.intCast_add,oD] at g;generalize conv (fun k=>((cf q k:Int):Rat)) (fun k=>((cf b k:Int):Rat)) i=z at *
 have j:c/m/d*(d*z)=c/m*z:=by rw[<-Rat.mul_assoc,gW e.2]
 rw[j];have l:c/m*z+c/m*((cf r i:Int):Rat)=c/m*(m*cf a i):=by rw[g];grind
 rw[l,<-Rat.mul_assoc,gW f]
def ChT.unique{B:Nat}{a b:List Int}{n o:Rat}{C:List (List Rat)}(h:ChT B a n b o C):∀{m:Nat} {g i:List Int} {k c:Rat} {f:List (List Rat)},ChT m g k i c f->aT n a=aT k g->aT o b=aT c i->C=f:=by
 induction h with
 |done a n o=>
  intro m g i k c f d _ e;cases d with
  |done=>rfl
  |step l=>exact absurd (cG (by rw[<-fX c,<-e];rfl)) l
 |step l h p z J x v H hn t D=>
  intro m g i k c f d r j;cases d with
  |done=>exact absurd (cG (by rw[<-fX,j];rfl)) l
  |step u d s A K y w I L G=>
   obtain⟨Q,R,q⟩:=JT h ⟨p.1,p.2.1⟩;have E:=CS l h p z x v q;rw[r,j] at q;have F:=CS u d s A y w q;rw[j,D G j (E.symm.trans F)]
inductive StT(B:Nat):List Int->List Int->List (List Int)->Prop
 |done (a:List Int):StT B a [] []
 |step {a b q r:List Int} {m:Int} {c:List (List Int)} (hb:b≠[]) (h:PQRes a b B m q r) (t:StT B b (if 0<m then (aS r).map (·*(-1)) else aS r) c):StT B a b (b :: c)
inductive All2{α β:Type}(P:α->β->Prop):List α->List β->Prop
 |nil:All2 P [] []
 |cons {a:α} {b:β} {l:List α} {m:List β} (h:P a b) (t:All2 P l m):All2 P (a :: l) (b :: m)
def Sg(e:Rat)(A:List Rat)(a:List Int):Prop:=a≠[]∧aN a∧∃f,0<e*f∧A=aT f a
def nK{e f:Rat}(h:0<e*f):f≠0:=fun a=>by rw[a,gX] at h;exact absurd h (by decide)
def XJ{K:Nat}{a b:List Int}{c:List (List Int)}(h:StT K a b c)(e:Rat)(G:1<=K):∀f d:Rat,0<e*f->(b≠[]->0<e*d)->aN b->∃C,ChT K a f b d C∧All2 (Sg e) C c:=by
 induction h with
 |done a=>exact fun f d _ _ _=>⟨[],.done a f d,.nil⟩
 | @step a b q r m c j h t o=>
  intro f d y H p;have g:=H j;have Q:=gJ h.m0;have B:=gV h.r_trim;by_cases v:r=[]
  ·have O:(if 0<m then (aS r).map (·*(-1)) else aS r)=[]:=by
    have:aS r=[]:=cG (by rw[dF,v];rfl);rw[this];split<;>rfl
   rw[O] at t o;obtain⟨C,s,u⟩:=o d f g (fun e=>absurd rfl e) (fun x A=>by cases A);exact⟨_,.step j h ⟨nK y,nK g,p⟩ (fun x A=>by cases A) (by rw[v]) (.inr rfl) (fun i=>by rw[v,eR,Rat.intCast_zero,gX,gX]) (fun F hF=>bU hF (by omega)) (fun n hn=>by cases hn) s,.cons ⟨j,p,d,g,rfl⟩ u⟩
  ·have P:=nI h.r_trim v;have I:0<((bN r:Int):Rat):=by
    have:(0:Int)<(bN r:Int):=by omega
    exact_mod_cast this
   have J:nl (bN r:Int).natAbs<=K:=by rw[dD];exact az4 h.br
   have M:(0:Int)<(m.natAbs:Int):=by have:=h.m0;omega
   have N:0<((m.natAbs:Int):Rat):=by exact_mod_cast M
   have l:0<e*(f*(((bN r:Int):Rat)/((m.natAbs:Int):Rat))):=by
    rw[<-Rat.mul_assoc,Rat.div_def];exact Rat.mul_pos y (Rat.mul_pos I (Rat.inv_pos.2 N))
   have w:∀F,RL F f->RL (F+K) (f*(((bN r:Int):Rat)/((m.natAbs:Int):Rat))):=fun F hF=>o6 hF (pM J (by rw[dD];exact h.bm) G);have R:((m.natAbs:Int):Rat)≠0:=gJ (by omega);by_cases D:0<m
   ·rw[if_pos D] at t o;have z:(m.natAbs:Int)=m:=by omega
    rw[z] at w l;have E:aN ((aS r).map (·*(-1))):=xM (by decide) B;obtain⟨C,s,u⟩:=o d _ g (fun _=>l) E;refine⟨_,.step j h ⟨nK y,nK g,p⟩ E (by rw[cH,dF]) (.inl (nK l)) (fun i=> ?_) w (fun n hn=> ?_) s,.cons ⟨j,p,d,g,rfl⟩ u⟩
    ·rw[CC,<-lW r i,eJ,eJ];have:((-1:Int):Rat)= -1:=rfl;rw[this];grind
    ·obtain⟨k,L,rfl⟩:=List.mem_map.1 hn;rw[fL];simpa using gU h.br k L
   ·rw[if_neg D] at t o;have z:(m.natAbs:Int)= -m:=by omega
    rw[z,Rat.intCast_neg] at w l;obtain⟨C,s,u⟩:=o d _ g (fun _=>l) B;refine⟨_,.step j h ⟨nK y,nK g,p⟩ B (by rw[dF]) (.inl (nK l)) (fun i=> ?_) w (gU h.br) s,.cons ⟨j,p,d,g,rfl⟩ u⟩;rw[<-lW r i,eJ];grind
def aY:Int->List Int->Nat
 |_,[]=>0
 |l,s :: t=>if s=0 then aY l t else (if l≠0∧s≠l then 1 else 0)+aY s t
def XK(t:List Int):∀l,aY (-l) (t.map (fun s=> -s))=aY l t:=by
 induction t with
 |nil=>intro l;rfl
 |cons s t c=>
  intro l;show(if -s=0 then aY (-l) (t.map (fun s=> -s)) else (if -l≠0∧ -s≠ -l then 1 else 0)+aY (-s) (t.map (fun s=> -s)))=if s=0 then aY l t else (if l≠0∧s≠l then 1 else 0)+aY s t
  rw[c l,c s];by_cases a:s=0
  ·rw[if_pos a,if_pos (by omega)]
  ·rw[if_neg a,if_neg (by omega)];congr 1;by_cases b:l≠0∧s≠l
   ·rw[if_pos b,if_pos (by omega)]
   ·rw[if_neg b,if_neg (by omega)]
def eT(A:List Rat)(i:Int)(x:Rat):Int:=if i=0 then (aI A x).num.sign else if i<0∧A.length%2=0 then -(cf A (A.length-1)).num.sign else (cf A (A.length-1)).num.sign
def aP(a:List Int)(i:Int)(x:Rat):Int:=if i=0 then (fE a x.num x.den).sign else if i<0∧a.length%2=0 then -(cf a (a.length-1)).sign else (cf a (a.length-1)).sign
def uA(f:Rat)(a:List Int)(x:Rat):aI (aT f a) x=f*aI (a.map (fun n:Int=>(n:Rat))) x:=by
 induction a with
 |nil=>show(0:Rat)=f*0;rw[gX]
 |cons n a b=>
  show aI (aT f a) x*x+f*n=f*(aI (a.map (fun n:Int=>(n:Rat))) x*x+n)
  rw[b];grind
def JU(a:List Int)(x:Rat):(fE a x.num x.den).sign=(aI (a.map (fun n:Int=>(n:Rat))) x).num.sign:=by
 have b:(x.den:Int)≠0:=by have:=x.den_nz;omega
 have c:0<((x.den:Int):Rat):=by
  have:(0:Int)<(x.den:Int):=by omega
  exact_mod_cast this
 have h:=WR a x.num x.den b;have e:((x.num:Int):Rat)/((x.den:Int):Rat)=x:=by rw[Rat.intCast_natCast,<-oU]
 rw[e] at h;have d:0<((iZ a x.num x.den:Int):Rat):=by
  rw[WQ];have:(0:Int)<(x.den:Int)^a.length:=Int.pow_pos (by omega);exact_mod_cast this
 rw[<-xJ,<-tU c,Rat.mul_comm,h,tU d]
def uB{f:Rat}(b:0<f)(a:List Int)(i:Int)(x:Rat):eT (aT f a) i x=aP a i x:=by
 unfold eT aP;rw[fX,dS,tU b,xJ,uA,tU b,JU]
def xU{f:Rat}(d:f<0)(a:List Int)(i:Int)(x:Rat):eT (aT f a) i x= -aP a i x:=by
 have h:=uB (f:= -f) (by grind) a i x;have e:∀y:Rat,(-f*y).num.sign= -(f*y).num.sign:=fun y=>by
  have: -f*y= -(f*y):=by grind
  rw[this,Rat.neg_num,Int.sign_neg]
 unfold eT aP at *;rw[fX,dS,e,uA,e] at h;rw[fX,dS,uA];by_cases b:i=0
 ·simp only[if_pos b] at h⊢;omega
 ·simp only[if_neg b] at h⊢;by_cases c:i<0∧a.length%2=0
  ·simp only[if_pos c] at h⊢;omega
  ·simp only[if_neg c] at h⊢;omega
def All2.map_eq{α β γ:Type}{P:α->β->Prop}{l:List α}{m:List β}(h:All2 P l m){f:α->γ}{g:β->γ}(c:∀a b,P a b->f a=g b):l.map f=m.map g:=by
 induction h with
 |nil=>rfl
 |cons h t d=>rw[fM,fM,c _ _ h,d]
def xV{e:Rat}{C:List (List Rat)}{c:List (List Int)}(h:All2 (Sg e) C c)(i:Int)(x:Rat):aY 0 (C.map (fun A=>eT A i x))=aY 0 (c.map (fun a=>aP a i x)):=by
 by_cases l:0<e
 ·rw[h.map_eq (g:=fun a=>aP a i x) (fun A a j=>by
   obtain⟨-, -,f,b,rfl⟩:=j
   exact uB (by rcases iY f with k|k|k
                ·have:=Rat.mul_pos l (show 0< -f by grind);grind
                ·exact absurd k (nK b)
                ·exact k) a i x)]
 ·rw[h.map_eq (g:=fun a=> -aP a i x) (fun A a j=>by
   obtain⟨-, -,f,b,rfl⟩:=j
   exact xU (by rcases iY f with k|k|k
                ·exact k
                ·exact absurd k (nK b)
                ·rcases iY e with d|d|d
                 ·have:=Rat.mul_pos k (show 0< -e by grind);grind
                 ·rw[d,Rat.zero_mul] at b;exact absurd b (by decide)
                 ·exact absurd d l) a i x)]
  have:=XK (c.map (fun a=>aP a i x)) 0;rw[List.map_map] at this;exact this
def K8{P:Nat->Prop}(h:∃n,P n):∃n,P n∧∀m,P m->n<=m:=by
 obtain⟨n,hn⟩:=h;induction n using Nat.strongRecOn with
 |ind n e=>
  by_cases h:∃m,m<n∧P m
  ·obtain⟨m,a,b⟩:=h;exact e m a b
  ·exact⟨n,hn,fun m d=>Nat.le_of_not_lt (fun c=>h ⟨m,c,d⟩)⟩
def Pm(p:Nat):Prop:=1<p∧∀a b:Int,(p:Int)∣a*b->(p:Int)∣a∨(p:Int)∣b
def K9{n:Nat}(h:1<n):∃p,Pm p∧p∣n:=by
 obtain⟨d,⟨j,f⟩,k⟩:=K8 (P:=fun d=>1<d∧d∣n) ⟨n,h,Nat.dvd_refl n⟩;refine⟨d,⟨j,fun a b m=> ?_⟩,f⟩;have g:=Nat.gcd_dvd_left d a.natAbs;have o:=Nat.gcd_pos_of_pos_left a.natAbs (show 0<d by omega);rcases dE 1 (Nat.gcd d a.natAbs) with i|i
 ·left;have l:=k _ ⟨i,Nat.dvd_trans g f⟩;have e:Nat.gcd d a.natAbs=d:=Nat.le_antisymm (Nat.le_of_dvd (by omega) g) l;have c:=Nat.gcd_dvd_right d a.natAbs;rw[e] at c;exact Int.ofNat_dvd_left.2 c
 ·right;have e:Nat.Coprime d a.natAbs:=by unfold Nat.Coprime;omega
  have c:=Int.ofNat_dvd_left.1 m;rw[fL] at c;exact Int.ofNat_dvd_left.2 (e.dvd_of_dvd_mul_left c)
def YN{p:Int}{t:Nat->Int}{n:Nat}(h:∀k,k<n->p∣t k):p∣bW t n:=by
 induction n with
 |zero=>exact Int.dvd_zero p
 |succ n a=>exact Int.dvd_add (a (fun k b=>h k (by omega))) (h n (by omega))
def YO{p:Int}{t:Nat->Int}{n j:Nat}(g:j<n)(h:∀k,k<n->k≠j->p∣t k):p∣bW t n-t j:=by
 induction n with
 |zero=>omega
 |succ n f=>
  rw[bW];by_cases e:j=n
  ·subst e;have:=YN (p:=p) (t:=t) (n:=j) (fun k d=>h k (by omega) (by omega));rw[show bW t j+t j-t j=bW t j by omega];exact this
  ·have b:=f (by omega) (fun k d=>h k (by omega));have c:=h n (by omega) (fun a=>e a.symm);rw[show bW t n+t n-t j=bW t n-t j+t n by omega];exact Int.dvd_add b c
def YP{p:Nat}(q:Pm p){f g:Nat->Int}{i j:Nat}(hi:¬(p:Int)∣f i)(l:∀k,k<i->(p:Int)∣f k)(m:¬(p:Int)∣g j)(o:∀k,k<j->(p:Int)∣g k):¬(p:Int)∣conv f g (i+j):=fun h=>by
 have d:=YO (p:=(p:Int)) (t:=fun k=>f k*g (i+j-k)) (n:=i+j+1) (j:=i) (by omega) (fun k r s=>by
  rcases dE k i with c|c
  ·exact Int.dvd_trans (l k c) (Int.dvd_mul_right _ _)
  ·exact Int.dvd_trans (o (i+j-k) (by omega)) (Int.dvd_mul_left _ _))
 have b:(p:Int)∣f i*g (i+j-i):=by
  have a:=Int.dvd_sub h d;have e:conv f g (i+j)-(bW (fun k=>f k*g (i+j-k)) (i+j+1)-f i*g (i+j-i))=f i*g (i+j-i):=by
   show bW (fun k=>f k*g (i+j-k)) (i+j+1)-_=_
   omega
  rw[e] at a;exact a
 rw[Nat.add_sub_cancel_left] at b;rcases q.2 _ _ b with a|a
 ·exact hi a
 ·exact m a
def KC{p:Nat}(j:1<p){f:List Int}(d:bN f=1):∃i,¬(p:Int)∣cf f i∧∀k,k<i->(p:Int)∣cf f k:=by
 obtain⟨i,a,c⟩:=K8 (P:=fun i=>¬(p:Int)∣cf f i) (by
  by_cases h:∃i,¬(p:Int)∣cf f i
  ·exact h
  ·exfalso
   have a:p∣bN f:=CM (fun n hn=>by
    obtain⟨i,e,rfl⟩:=List.mem_iff_getElem.1 hn;rw[<-fZ e];by_cases b:(p:Int)∣cf f i
    ·exact b
    ·exact absurd ⟨i,b⟩ h)
   rw[d] at a;have:=Nat.le_of_dvd (by decide) a;omega)
 refine⟨i,a,fun k g=> ?_⟩;by_cases h:(p:Int)∣cf f k
 ·exact h
 ·have:=c k h;omega
def YQ{f g:List Int}(e:bN f=1)(k:bN g=1){d:Nat}(h:∀i,(d:Int)∣conv (cf f) (cf g) i):d=1:=by
 by_cases c:d=1
 ·exact c
 ·exfalso;obtain⟨p,a,l⟩:∃p,Pm p∧p∣d:=by
   rcases iB d with b|b
   ·obtain⟨p,a, -⟩:=K9 (n:=2) (by decide);exact⟨p,a,by rw[b];exact Nat.dvd_zero p⟩
   ·exact K9 (by omega)
  obtain⟨i,m,o⟩:=KC a.1 e;obtain⟨j,q,r⟩:=KC a.1 k;exact YP a m o q r (Int.dvd_trans (Int.ofNat_dvd.2 l) (h (i+j)))
def xZ{a:List Int}(h:(bN a:Int)≠0):bN (aS a)=1:=by
 have g:bN (aS a)*bN a∣bN a:=CM (fun n hn=>by
  obtain⟨i,b,rfl⟩:=List.mem_iff_getElem.1 hn;rw[<-fZ b,<-lW a i,Int.natCast_mul];refine Int.mul_dvd_mul ?_ (Int.dvd_refl _);have f:i<(aS a).length:=by rw[dF];exact b
  rw[fZ f];exact CL (List.getElem_mem f))
 have c:0<bN a:=by omega
 have l:=Nat.le_of_dvd c g;rcases dE 1 (bN (aS a)) with d|d
 ·have:=dK (bN a) d;omega
 ·rcases iB (bN (aS a)) with e|e
  ·exfalso;have j:∀i,cf a i=0:=fun i=>by
    rw[<-lW a i];by_cases b:i<(aS a).length
    ·rw[fZ b,JQ e _ (List.getElem_mem b),Int.zero_mul]
    ·rw[bV (by omega),Int.zero_mul]
   have k:∀n∈a,((bN a+bN a:Nat):Int)∣n:=fun n hn=>by
    obtain⟨i,b,rfl⟩:=List.mem_iff_getElem.1 hn;rw[<-fZ b,j];exact Int.dvd_zero _
   have m:=Nat.le_of_dvd c (CM k);omega
  ·omega
def YR(Q:List Rat):∃D:Nat,0<D∧∀q∈Q,(q.den:Int)∣(D:Int):=by
 induction Q with
 |nil=>exact⟨1,by decide,fun q b=>by cases b⟩
 |cons a Q e=>
  obtain⟨D,c,d⟩:=e;refine⟨a.den*D,Nat.mul_pos a.den_pos c,fun q b=> ?_⟩;rw[Int.natCast_mul];rcases List.mem_cons.1 b with rfl|b
  ·exact Int.dvd_mul_right _ _
  ·exact Int.dvd_trans (d q b) (Int.dvd_mul_left _ _)
def YS{xs g:List Int}{Q:List Rat}(B:bN g=1)(h:∀i,((cf xs i:Int):Rat)=conv (cf Q) (fun k=>((cf g k:Int):Rat)) i):∃q:List Int,q.length=Q.length∧∀i,cf Q i=((cf q i:Int):Rat):=by
 obtain⟨D,w,A⟩:=YR Q;have hn:=JC Q (D:Int) A;have p:((D:Int):Rat)≠0:=gJ (by omega);have t:=oN Q (D:Int);generalize G:cC Q (D:Int)=N at *;by_cases s:(bN N:Int)=0
 ·refine⟨N,t,fun i=> ?_⟩;have e:cf N i=0:=by
   rw[<-lW N i,s,Int.mul_zero]
  have c:=hn i;rw[e] at c⊢;have f:cf Q i*((D:Int):Rat)=0:=by rw[<-c,Rat.intCast_zero]
  rcases Rat.mul_eq_zero.1 f with d|d
  ·rw[d,Rat.intCast_zero]
  ·exact absurd d p
 ·have E:=xZ s;have F:∀i,(D:Int)*cf xs i=(bN N:Int)*conv (cf (aS N)) (cf g) i:=fun i=>by
   have e:(((D:Int)*cf xs i:Int):Rat)=(((bN N:Int)*conv (cf (aS N)) (cf g) i:Int):Rat):=by
    rw[eJ,eJ,oD,h i,<-t6,<-t6];refine gL (fun k=> ?_) (fun _=>rfl) i;have c:=hn k;rw[<-lW N k,eJ] at c;grind
   exact Rat.intCast_inj.1 e
  have x:D∣bN N:=by
   have u:=Nat.gcd_dvd_left D (bN N);have v:=Nat.gcd_dvd_right D (bN N);have l:=Nat.gcd_pos_of_pos_left (bN N) w;obtain⟨a,j⟩:=u;obtain⟨b,r⟩:=v;have z:Nat.Coprime a b:=by
    have:=Nat.coprime_div_gcd_div_gcd (m:=D) (n:=bN N) l;rwa [Nat.div_eq_of_eq_mul_right l j,Nat.div_eq_of_eq_mul_right l r] at this
   have y:a=1:=YQ E B (fun i=>by
    have e:=F i;have c:((Nat.gcd D (bN N):Nat):Int)*((a:Int)*cf xs i)=((Nat.gcd D (bN N):Nat):Int)*((b:Int)*conv (cf (aS N)) (cf g) i):=by
     rw[<-Int.mul_assoc,<-Int.mul_assoc,<-Int.natCast_mul,<-Int.natCast_mul,<-j,<-r];exact e
    have f:=Int.eq_of_mul_eq_mul_left (by omega) c;have d:(a:Int)∣(b:Int)*conv (cf (aS N)) (cf g) i:=⟨_,f.symm⟩
    have o:=Int.ofNat_dvd_left.1 d;rw[fL,dD] at o;exact Int.ofNat_dvd_left.2 (z.dvd_of_dvd_mul_left o))
   rw[y,Nat.mul_one] at j;rw[j];exact Nat.gcd_dvd_right _ _
  obtain⟨k,C⟩:=x;refine⟨(aS N).map (·*(k:Int)),by rw[cH,dF];exact t,fun i=> ?_⟩;rw[CC,eJ];have c:=hn i;rw[<-lW N i,C,Int.natCast_mul,eJ,eJ] at c;have f:(((cf (aS N) i:Int):Rat)*((k:Int):Rat)-cf Q i)*((D:Int):Rat)=0:=by grind
  rcases Rat.mul_eq_zero.1 f with d|d
  ·grind
  ·exact absurd d p
end Go.Proofs.YtapgbkldiinabaaGreatDoor
namespace Go.Proofs.YtapgbkldiinabaaGreatDoor
open Go.RowKit Sos
def y5{B:Nat}{a b g:List Int}(h:Euc B a b g)(i:1<=B):aN a->aN b->(∀n∈a,nl n.natAbs<=B)->(∀n∈b,nl n.natAbs<=B)->aN g∧(∀n∈g,nl n.natAbs<=B)∧g.length<=max a.length b.length:=by
 induction h with
 |done a=>exact fun p _ k _=>⟨p,k,Nat.le_max_left _ _⟩
 |one c=>exact fun _ _ _ _=>⟨oB rfl,fun n hn=>by rw[List.mem_singleton.1 hn];exact aH (cJ (m:=1) (by unfold BN;decide)) i,by rw[c];exact Nat.le_max_right _ _⟩
 |step c h t j=>
  intro _ q _ o;obtain⟨d,e,f⟩:=j q (gV h.r_trim) o (gU h.br);rw[dF] at f;have:=h.r_lt;exact⟨d,e,by omega⟩
def GcT(A B:List Rat)(g:List Int):Prop:=∃D E,ComDen A D 8∧ComDen B E 8∧pO 43740 (cC A D) (cC B E) g
def GcT.ok{A B:List Rat}{g:List Int}(h:GcT A B g)(p:aN A)(r:aN B)(v:∀q∈A,RL 1 q)(x:∀q∈B,RL 1 q)(y:A.length<=7)(z:B.length<=7):(∃a b,Prp A a∧Prp B b∧Trc 43740 a b g)∧aN g∧(∀n∈g,nl n.natAbs<=43740)∧g.length<=7:=by
 obtain⟨D,E,c,d,h⟩:=h;have s:=oO c.pos c.dvd p;have t:=oO d.pos d.dvd r;have j:=gU (K:=43740) (fun n hn=>aH (sA _ D 1 _ v c.nl_ n hn) (by decide));have k:=gU (K:=43740) (fun n hn=>aH (sA _ E 1 _ x d.nl_ n hn) (by decide));have m:=nM (uE c p);have o:=nM (uE d r);have C:=oN A D;have F:=oN B E;unfold pO at h;split at h
 ·rename_i u;obtain⟨e,f,i⟩:=y5 h (by decide) (gV t) (gV s) k j;rw[dF,dF] at i;exact⟨⟨_,_,m,o,.inr (.inr ⟨by rw[dF,dF];exact u,h,j⟩)⟩,e,f,by omega⟩
 ·obtain⟨e,f,i⟩:=y5 h (by decide) (gV s) (gV t) j k;rw[dF,dF] at i;exact⟨⟨_,_,m,o,.inl h⟩,e,f,by omega⟩
section
variable (a b:List (List UInt8))(va vb:Value)(w:World)(hG:Glob w)(ha:StrsAt w va a)(hb':StrsAt w vb b)(hla:a.length<=7)(hlb:b.length<=7)(hsa:∀l∈a,l.length<=6)(hsb:∀l∈b,l.length<=6)
include hG ha hb' hla hlb hsa hsb
end
end Go.Proofs.YtapgbkldiinabaaGreatDoor
namespace Go.Proofs.YtapgbkldiinabaaGreatDoor
open Sos
def CO(f:Nat->Int)(i:Nat):conv f (cf [1]) i=f i:=by
 have h:∀k,cf [(1:Int)] k=if k=0 then 1 else 0:=fun k=>by
  cases k with
  |zero=>rfl
  |succ k=>rw[bV (by simp)];rfl
 rw[sO,gL h (fun _=>rfl),qE,if_pos (dC _),Int.one_mul];rfl
def JS{B:Nat}{a b g:List Int}(h:Euc B a b g):Dv (cf a) g∧Dv (cf b) g:=by
 induction h with
 |done a=>exact⟨(Dv.self a 1).congr (fun i=>(Int.one_mul _).symm),(Dv.zero a).congr (fun i=>eR i)⟩
 | @one a b d=>exact⟨⟨1,a,by decide,fun i=>by rw[CO,Int.one_mul]⟩,⟨1,b,by decide,fun i=>by rw[CO,Int.one_mul]⟩⟩
 | @step a b q r g m d h t c=>
  refine⟨Dv.cancel h.m0 ((c.2.lin c.1 q (bN r:Int) 1).congr (fun i=> ?_)),c.1⟩;rw[h.id_ i,fD (bN r:Int),lW r i];omega
def XA{B:Nat}{a b g:List Int}(h:Euc B a b g):bN a=1->(b=[]∨bN b=1)->bN g=1:=by
 induction h with
 |done a=>exact fun h _=>h
 |one c=>exact fun _ _=>rfl
 | @step a b q r g m c h t j=>
  intro _ f;have i:b≠[]:=fun e=>by rw[e] at c;simp at c
  refine j (f.resolve_left i) ?_;by_cases d:r=[]
  ·exact .inl (cG (by rw[dF,d];rfl))
  ·exact .inr (xZ (nI h.r_trim d))
def XC{w:List Int}(h:bN w=1):aS w=w:=by
 refine List.ext_getElem (dF w) (fun i a b=> ?_);have:=lW w i;rw[h,fZ a,fZ b] at this;simpa using this
def lE{w:List Int}(h:aN w):aN (bB w):=by
 by_cases b:bB w=[]
 ·rw[b];exact fun a c=>by simp at c
 ·have f:=lZ w;have g:(bB w).length≠0:=fun e=>b (cG e);have d:w≠[]:=fun e=>b (by rw[e];rfl);rw[eI b,sB,show(bB w).length-1+1=w.length-1 by omega];exact Int.mul_ne_zero ((eI d).1 h) (by omega)
structure Sqp(B:Nat)(w s:List Int):Prop where
 out:∃g,Euc B w (aS (bB w)) g∧g≠[]∧aN g∧bN g=1∧s.length+g.length=w.length+1∧∀i,cf w i=conv (cf s) (cf g) i
 ne:s≠[]
 ts:aN s
def XF{B:Nat}{a b g:List Int}(h:Euc B a b g):∀{v:Nat} {p f g':List Int},Euc v p f g'->∀{A k:List Rat},Prp A a->Prp A p->Prp k b->Prp k f->b6 g=b6 g':=by
 induction h with
 |done a=>
  intro v p f g' l A k s w j n;have o:f=[]:=cG (by rw[<-n.1,j.1];rfl);subst o;rw[YM l,<-qT s,<-qT w]
 | @one a b o=>
  intro v p f g' l A k s w j n;have u:f.length=1:=by rw[<-n.1,j.1,o]
  cases l with
  |done=>simp at u
  |one=>rfl
  |step h=>omega
 | @step a b q r g m o h t G=>
  intro v p f g' l A k s w j n;have u:1<f.length:=by rw[<-n.1,j.1];exact o
  have C:b≠[]:=fun e=>by rw[e] at o;simp at o
  cases l with
  |done=>simp at u
  |one h=>omega
  | @step _ _ L M _ K _ l J=>
   obtain⟨Q,R,x⟩:∃Q R,DivQ A k Q R:=by
    obtain⟨H, -,c,E,y⟩:=s;obtain⟨I, -,d,F,z⟩:=j;have:A=aT c a:=oR (by rw[fX];exact H) (fun i=>by rw[y,dS]);rw[this];have:k=aT d b:=oR (by rw[fX];exact I) (fun i=>by rw[z,dS]);rw[this];exact JT h ⟨E,F⟩
   have D:f≠[]:=fun e=>by rw[e] at u;simp at u
   exact G J j n (nM (CT s j C h x)) (nM (CT w n D l x))
def Prp.eq_smul{A:List Rat}{a:List Int}(h:Prp A a):∃c,c≠0∧A=aT c a:=by
 obtain⟨e, -,c,d,b⟩:=h;exact⟨c,d,oR (by rw[fX];exact e) (fun i=>by rw[b,dS])⟩
def XG{c c':Rat}{w w':List Int}(h:aT c w=aT c' w'):aT c (bB w)=aT c' (bB w'):=by
 have b:w.length=w'.length:=by rw[<-fX c w,h,fX]
 refine oR (by rw[fX,fX,lZ,lZ,b]) (fun i=> ?_);have a:cf (aT c w) (i+1)=cf (aT c' w') (i+1):=by rw[h]
 rw[dS,dS] at a;rw[dS,dS,sB,sB,eJ,eJ,<-Rat.mul_assoc,<-Rat.mul_assoc,a]
def CP{s g w:List Int}{c:Rat}(b:c≠0)(ts:aN s)(j:aN g)(d:g≠[])(m:∀i,cf w i=conv (cf s) (cf g) i):∃f,f≠0∧DivQ (aT c w) (b6 g) (aT f s) []:=by
 have h:=gJ ((eI d).1 j);refine⟨c*((cf g (g.length-1):Int):Rat),m6 b h,fun i=> ?_,CQ (.inl (m6 b h)) ts,(fun a l=>by simp at l),by rw[(uD j).1];exact List.length_pos_iff.2 d⟩;have e:∀k,cf (b6 g) k=(1/((cf g (g.length-1):Int):Rat))*cf g k:=fun k=>by unfold b6;rw[xN];grind
 rw[eR,Rat.add_zero,gL (dS _ s) e,t6,rF,dS,<-oD,<-m i];grind
def Sqp.unique{B r:Nat}{w w' s p:List Int}(h:Sqp B w s)(a:Sqp r w' p){A:List Rat}(b:Prp A w)(d:Prp A w'):b6 s=b6 p:=by
 obtain⟨g,u,i,q, -, -,D⟩:=h.out;obtain⟨N,v,C,K, -, -,E⟩:=a.out;obtain⟨c,m,e⟩:=b.eq_smul;obtain⟨L,n,l⟩:=d.eq_smul;have x:=XG (e.symm.trans l);have I:Prp (aT c (bB w)) (bB w):=jY m (lE b.2.1);have J:Prp (aT c (bB w)) (bB w'):=by rw[x];exact jY n (lE d.2.1)
 have F:=XF u v b d (nM I) (nM J);obtain⟨f,y,j⟩:=CP m h.ts q i D;obtain⟨M,z,k⟩:=CP n a.ts K C E;rw[<-e] at j;rw[<-l,<-F] at k;have o:=uD q;obtain⟨t, -⟩:=j.unique k (o.ne i) (by rw[o.1];exact List.length_pos_iff.2 i);have G:=qT (jY y h.ts);have H:=qT (jY z a.ts);rw[<-G,<-H];exact congrArg oQ t
end Go.Proofs.YtapgbkldiinabaaGreatDoor
namespace Go.Proofs.YtapgbkldiinabaaGreatDoor
open Go.RowKit Sos Tryz
def tV(p:List Rat)(i:Nat):cf (fW p) i=cf p (i+1)*((i+1:Nat):Rat):=by
 unfold fW;rw[qA];split
 ·rfl
 ·rw[bV (l:=p) (by omega),Rat.zero_mul]
def cyW{p:List Rat}(h:aN p):aN (fW p):=by
 by_cases b:fW p=[]
 ·rw[b];exact fun a f=>by simp at f
 ·have i:=qO p;have j:(fW p).length≠0:=fun e=>b (cG e);have g:p≠[]:=fun e=>b (by rw[e];rfl);rw[eI b,tV,show(fW p).length-1+1=p.length-1 by omega];have d:=(eI g).1 h;intro e;rcases Rat.mul_eq_zero.1 e with e|e
  ·exact d e
  ·have:((p.length-1:Nat):Rat)≠0:=by
    intro c;have:=Rat.natCast_inj.1 (c.trans (show(0:Rat)=((0:Nat):Rat) from rfl));omega
   exact this e
def cyX{Q:List Rat}{D:Int}(h:0<D)(g:∀q∈Q,(q.den:Int)∣D):eQ (bB (cC Q D)) D=fW Q:=by
 have f:(D:Rat)≠0:=by intro e;have:=Rat.intCast_inj.1 (e.trans (show(0:Rat)=((0:Int):Rat) from rfl));omega
 refine List.ext_getElem? (fun i=> ?_);have d:(eQ (bB (cC Q D)) D).length=Q.length-1:=by unfold eQ;rw[cH,lZ,oN]
 by_cases a:i<Q.length-1
 ·have b:=xN (bB (cC Q D)) D i;rw[sB,eJ,JC Q D g] at b;have c:=tV Q i;rw[fZ (by rw[d];exact a)] at b;rw[fZ (by rw[qO];exact a)] at c;rw[aR (by rw[d];exact a),aR (by rw[qO];exact a),b,c];congr 1;have:(((i:Int)+1:Int):Rat)=((i+1:Nat):Rat):=by
   rw[show((i:Int)+1)=((i+1:Nat):Int) from rfl,Rat.intCast_natCast]
  rw[this];generalize ((i+1:Nat):Rat)=z;generalize cf Q (i+1)=y;rw[Rat.div_def,show y*(D:Rat)*z*(D:Rat)⁻¹=y*z*((D:Rat)*(D:Rat)⁻¹) by grind,Rat.mul_inv_cancel _ f,Rat.mul_one]
 ·rw[fU (by omega),fU (by rw[qO];omega)]
def pL{a:List Int}{K:Nat}(b:∀n∈a,nl n.natAbs<=K)(c:a.length<=1073741824):∀n∈bB a,nl n.natAbs<=K+1:=fun n hn=>by
 unfold bB at hn;obtain⟨i,hi,rfl⟩:=List.mem_map.1 hn;have:=List.mem_range.1 hi;exact gT _ _ _ _ (iU b _) (cJ (by rw[show((i:Int)+1).natAbs=i+1 by omega];unfold BN;omega))
def cyY(a:List (List UInt8))(v:Value)(w:World)(f:Glob w)(hv:StrsAt w v a)(hl:a.length<=1024)(N:∀l∈a,l.length<=1073741824)(K:Nat)(p:∀q∈aU a,RL K q)(ac:1<=K)(ad:K<=1048576):
  Calls prog 14 #[v] w (cy0 w a):=by
 obtain⟨A,c,rfl,hc⟩:=hv.form;have O:=VS a;go_enter func14,ntmps14;go_wp2_with fail;refine(I8 a _ _ f hv (by omega) (fun _=>N) K (1+65*K) (fun _=>p) aE (by unfold aJ;omega)).mono ?_;rintro Y B ⟨v1,af,xs,D,rfl,x,o,j,d⟩;obtain⟨C,E,rfl,ae⟩:=x.form;obtain⟨z,k,y,m,rfl⟩:=o.form;cases ha:vl a with
 |false=>
  have g:Hid (¬vl a=true):=by unfold Hid;rw[ha];simp
  clear ha j;go_wp2;go_ret2;unfold cy0;rw[if_neg g.out];exact⟨_,rfl,StrsAt.nil _ _ _,d.alloc d.size _⟩
 |true=>
  have g:=aB ha;obtain⟨rfl,e⟩:=j ha;have i:=sA _ D K _ p e.nl_;have P:=oN (aU a) D;have r:(eQ (bB (cC (aU a) D)) D).map cW=(aW aV (fW (aU a))).map cW:=by rw[cyX e.pos e.dvd,qB (cyW (pJ ha).2.2)]
  have M:=fun W h=>JN (cC (aU a) D) (.slice C (cC (aU a) D).length E) W h _ i (by unfold aJ;omega) (by omega);have t:=fun W v u f h F=>X8 (bB (cC (aU a) D)) D v u W f h F (K+(1+65*K)+1) (pL i (by omega)) (aH e.nl_ (by omega)) (by omega) (by omega) (by rw[lZ];omega);rw[r] at t;obtain⟨T,n,s,X⟩:=bI B [.bool z,.slice k y m] 44;have I:=aC d s;have:=St.mk d;have:=St.mk s;have U:=X.k2;clear ha j i P r e O;generalize cC (aU a) D=Q at *;generalize bB Q=V at *;go_wp2_with fail;(try rw[n]);clear n
  go_region_held3 (fun R=>C2 R B.heap.size (.bool z) (.slice k y m)) (with_reducible exact X.up.k2)
   (first
    |(go_at_call 36;refine(M _ x.up).mono ?_;rintro Z w3 ⟨v3,rfl,G,J⟩;have:=St.mk J)
    |(go_at_call 26;refine(t _ _ _ f.up G.up o.up).mono ?_;rintro e4 S ⟨v4,rfl,H,L⟩;have:=St.mk L))
  all_goals (
   go_wp2;go_ret2;unfold cy0;rw[if_pos g.out];exact⟨_,rfl,H,bJ (b:=S) I⟩)
end Go.Proofs.YtapgbkldiinabaaGreatDoor
namespace Go.Proofs.YtapgbkldiinabaaGreatDoor
open Sos
def ab(y M:Rat):Prop:= -M<=y∧y<=M
def ab.mono{y M N:Rat}(h:ab y M)(c:M<=N):ab y N:=by have a:=h.1;have b:=h.2;constructor<;>grind
def ab.neg{y M:Rat}(h:ab y M):ab (-y) M:=by have a:=h.1;have b:=h.2;constructor<;>grind
def ab.add{x y M N:Rat}(h:ab x M)(k:ab y N):ab (x+y) (M+N):=by have a:=h.1;have b:=h.2;have c:=k.1;have d:=k.2;constructor<;>grind
def ab.mul{x y M N:Rat}(h:ab x M)(k:ab y N):ab (x*y) (M*N):=by
 have e:=h.1;have f:=h.2;have g:=k.1;have i:=k.2
 have a:=cA (show 0<=M-x by grind) (show 0<=N+y by grind);have b:=cA (show 0<=M+x by grind) (show 0<=N-y by grind);have c:=cA (show 0<=M-x by grind) (show 0<=N-y by grind);have d:=cA (show 0<=M+x by grind) (show 0<=N+y by grind);constructor<;>grind
def axN(q:Rat):∃M,0<=M∧ab q M:=by
 rcases iY q with h|h|h
 ·exact⟨-q,by grind,by constructor<;>grind⟩
 ·exact⟨0,by grind,by constructor<;>grind⟩
 ·exact⟨q,by grind,by constructor<;>grind⟩
def M2(a:Rat)(l:List Rat)(x:Rat):aI (a :: l) x=aI l x*x+a:=rfl
def LK{l:List Rat}(h:∀i,cf l i=0)(x:Rat):aI l x=0:=by
 induction l with
 |nil=>rfl
 |cons a l b=>
  rw[M2,b (fun i=>h (i+1)),show a=0 from h 0];grind
def oT{a:List Rat}:∀{b:List Rat},(∀i,cf a i=cf b i)->∀x,aI a x=aI b x:=by
 induction a with
 |nil=>intro b h x;rw[LK (fun i=>(h i).symm.trans (eR i))];rfl
 |cons p a c=>
  intro b h x;cases b with
  |nil=>rw[LK (fun i=>(h i).trans (eR i))];rfl
  |cons q b=>rw[M2,M2,c (fun i=>h (i+1)),show p=q from h 0]
def j0:List Rat->List Rat->List Rat
 |[],b=>b
 |a,[]=>a
 |p :: a,q :: b=>(p+q) :: j0 a b
def DP(a:List Rat):∀(b:List Rat) (i:Nat),cf (j0 a b) i=cf a i+cf b i:=by
 induction a with
 |nil=>intro b i;rw[eR,Rat.zero_add];rfl
 |cons p a c=>
  intro b i;cases b with
  |nil=>rw[eR,Rat.add_zero];rfl
  |cons q b=>
   cases i with
   |zero=>rfl
   |succ i=>exact c b i
def lG(a:List Rat):∀(b:List Rat) (x:Rat),aI (j0 a b) x=aI a x+aI b x:=by
 induction a with
 |nil=>intro b x;show aI b x=0+aI b x;rw[Rat.zero_add]
 |cons p a c=>
  intro b x;cases b with
  |nil=>show aI (p :: a) x=aI (p :: a) x+0;rw[Rat.add_zero]
  |cons q b=>
   show aI (j0 a b) x*x+(p+q)=(aI a x*x+p)+(aI b x*x+q)
   rw[c];grind
def iI(c:Rat)(l:List Rat)(x:Rat):aI (l.map (fun q=>c*q)) x=c*aI l x:=by
 induction l with
 |nil=>show(0:Rat)=c*0;rw[gX]
 |cons a l b=>
  show aI (l.map (fun q=>c*q)) x*x+c*a=c*(aI l x*x+a)
  rw[b];grind
def fG(q b:List Rat):List Rat:=q.foldr (fun a r=>j0 (b.map (fun y=>a*y)) (0 :: r)) []
def fY(q b:List Rat)(x:Rat):aI (fG q b) x=aI q x*aI b x:=by
 induction q with
 |nil=>show(0:Rat)=0*aI b x;rw[Rat.zero_mul]
 |cons a q c=>
  show aI (j0 (b.map (fun y=>a*y)) (0 :: fG q b)) x=(aI q x*x+a)*aI b x
  rw[lG,iI,M2,c];grind
def axO(f:Nat->Rat)(n:Nat):bW f (n+1)=f 0+bW (fun k=>f (k+1)) n:=by
 induction n with
 |zero=>show 0+f 0=f 0+0;grind
 |succ n a=>show bW f (n+1)+f (n+1)=f 0+(bW (fun k=>f (k+1)) n+f (n+1));rw[a];grind
def uU(q b:List Rat):∀i,cf (fG q b) i=conv (cf q) (cf b) i:=by
 induction q with
 |nil=>intro i;rw[lK (fun k=>eR k)];exact eR i
 |cons a q c=>
  intro i;show cf (j0 (b.map (fun y=>a*y)) (0 :: fG q b)) i=_
  rw[DP,mG (fun y=>a*y) (gX a)];unfold conv
  rw[axO];show a*cf b i+cf (0 :: fG q b) i=a*cf b (i-0)+bW (fun k=>cf q k*cf b (i-(k+1))) i
  rw[Nat.sub_zero];congr 1;cases i with
  |zero=>rfl
  |succ i=>
   show cf (fG q b) i=_
   rw[c];unfold conv
   exact mH (fun k _=>by rw[show i+1-(k+1)=i-k by omega])
def axP{A Q B C:List Rat}(h:∀i,cf A i=conv (cf Q) (cf B) i+cf C i)(x:Rat):aI A x=aI Q x*aI B x+aI C x:=by
 rw[<-fY,<-lG];exact oT (fun i=>by rw[h,DP,uU]) x
def axQ(l:List Rat){R:Rat}(d:0<=R):∃M,0<=M∧∀x,ab x R->ab (aI l x) M:=by
 induction l with
 |nil=>exact⟨0,by grind,fun x _=>by show ab 0 0;constructor<;>grind⟩
 |cons a l e=>
  obtain⟨M,c,h⟩:=e;obtain⟨N,f,k⟩:=axN a;exact⟨M*R+N,by have:=cA c d;grind,fun x b=>by rw[M2];exact((h x b).mul b).add k⟩
def eX:List Rat->Rat->Rat
 |[],_=>0
 |_ :: l,x=>eX l x*x+aI l x
def axR(l:List Rat){R:Rat}(b:0<=R):∃M,0<=M∧∀x y,ab x R->ab y R->x<=y->ab (aI l y-aI l x) (M*(y-x)):=by
 induction l with
 |nil=>exact⟨0,by grind,fun x y _ _ _=>by show ab (0-0) (0*(y-x));constructor<;>grind⟩
 |cons a l j=>
  obtain⟨M,g,h⟩:=j;obtain⟨N,o,n⟩:=axQ l b;refine⟨M*R+N,by have:=cA g b;grind,fun x y c d i=> ?_⟩;have e:aI (a :: l) y-aI (a :: l) x=(aI l y-aI l x)*y+aI l x*(y-x):=by rw[M2,M2];grind
  rw[e];have k:=(h x y c d i).mul d;have m:ab (aI l x*(y-x)) (N*(y-x)):=(n x c).mul ⟨by grind,by grind⟩;have f:(M*R+N)*(y-x)=M*(y-x)*R+N*(y-x):=by grind
  rw[f];exact k.add m
def qW(l:List Rat)(x:Rat):eX l x=aI (fW l) x:=by
 have c:∀(l:List Rat) (n:Nat),aI ((List.range l.length).map (fun i=>cf l i*((i+n:Nat):Rat))) x=eX l x*x+(n:Rat)*aI l x:=by
  intro l;induction l with
  |nil=>intro n;show(0:Rat)=0*x+(n:Rat)*0;grind
  |cons a l b=>
   intro n;rw[eG,List.range_succ_eq_map,fM,List.map_map,M2];have e:(List.range l.length).map ((fun i=>cf (a :: l) i*((i+n:Nat):Rat)) ∘ Nat.succ)=(List.range l.length).map (fun i=>cf l i*((i+(n+1):Nat):Rat)):=by
    refine List.map_congr_left (fun i _=> ?_);show cf l i*((i+1+n:Nat):Rat)=_
    rw[show i+1+n=i+(n+1) by omega]
   rw[e,b];show(eX l x*x+((n+1:Nat):Rat)*aI l x)*x+a*((0+n:Nat):Rat)=(eX l x*x+aI l x)*x+(n:Rat)*(aI l x*x+a)
   rw[bA,Rat.natCast_add];have:((1:Nat):Rat)=1:=rfl;rw[this];grind
 cases l with
 |nil=>rfl
 |cons a l=>
  have h:=c l 1;have:((1:Nat):Rat)=1:=rfl;rw[this,Rat.one_mul] at h;show eX l x*x+aI l x=_
  rw[<-h];rfl
def DQ{l:List Rat}:(∀x,aI l x=0)->∀i,cf l i=0:=by
 induction l with
 |nil=>exact fun _ i=>eR i
 |cons a l z=>
  intro h;have g:a=0:=by have:=h 0;rw[M2,gX,Rat.zero_add] at this;exact this
  have d:∀x,x≠0->aI l x=0:=fun x b=>by
   have:=h x;rw[M2,g,Rat.add_zero] at this;exact(Rat.mul_eq_zero.1 this).resolve_right b
  have o:aI l 0=0:=by
   obtain⟨M,C,q⟩:=axR l (R:=1) (by decide);have A:∀v:Rat,aI l 0=v->∀x,0<x->x<=1->ab v (M*x):=fun v hv x b c=>by
    have:=q 0 x (by constructor<;>decide) ⟨by grind,c⟩ (Rat.le_of_lt b);rw[d x (by grind),hv] at this;have e:x-0=x:=by grind
    rw[e] at this;have:=this.neg;have n: -(0-v)=v:=by grind
    rwa [n] at this
   obtain⟨v,hv⟩:∃v,aI l 0=v:=⟨_,rfl⟩;rw[hv];have k:=A v hv;have f:0<M+1:=by grind
   have m:∀u:Rat,0<u->(∀x,0<x->x<=1->u<=M*x)->False:=fun u E j=>by
    obtain⟨y,t,s⟩:∃y,0<y∧y*(M+1)=u/2:=⟨u/2/(M+1),by rw[Rat.div_def];exact Rat.mul_pos (by grind) (Rat.inv_pos.2 f),gW (by grind)⟩;by_cases w:y<=1
    ·have:=j y t w;have e:y*(M+1)=M*y+y:=by grind
     rw[e] at s;grind
    ·have B:=j 1 (by decide) (by decide);have:=cA (show 0<=y-1 by grind) (Rat.le_of_lt f);grind
   rcases iY v with D|h|r
   ·exact(m (-v) (by grind) (fun x b c=>by have:=(k x b c).1;grind)).elim
   ·exact h
   ·exact(m v r (fun x b c=>(k x b c).2)).elim
  have p:∀x,aI l x=0:=fun x=>by
   by_cases b:x=0
   ·rw[b];exact o
   ·exact d x b
  intro i;cases i with
  |zero=>exact g
  |succ i=>exact z p i
def LL{a b:List Rat}(h:∀x,aI a x=aI b x)(i:Nat):cf a i=cf b i:=by
 have:=DQ (l:=j0 a (b.map (fun q=>(-1)*q))) (fun x=>by rw[lG,iI,h];grind) i;rw[DP,mG (fun q=>(-1)*q) (gX _)] at this;generalize cf a i=p at *;generalize cf b i=q at *;clear h;grind
def axS{a b:List Rat}(h:∀i,cf a i=cf b i)(x:Rat):eX a x=eX b x:=by
 rw[qW,qW];exact oT (fun i=>by rw[tV,tV,h]) x
def axT(a:List Rat):∀(b:List Rat) (x:Rat),eX (j0 a b) x=eX a x+eX b x:=by
 induction a with
 |nil=>intro b x;show eX b x=0+eX b x;rw[Rat.zero_add]
 |cons p a c=>
  intro b x;cases b with
  |nil=>show eX (p :: a) x=eX (p :: a) x+0;rw[Rat.add_zero]
  |cons q b=>
   show eX (j0 a b) x*x+aI (j0 a b) x=(eX a x*x+aI a x)+(eX b x*x+aI b x)
   rw[c,lG];grind
def axU(c:Rat)(l:List Rat)(x:Rat):eX (l.map (fun q=>c*q)) x=c*eX l x:=by
 induction l with
 |nil=>show(0:Rat)=c*0;rw[gX]
 |cons a l b=>
  show eX (l.map (fun q=>c*q)) x*x+aI (l.map (fun q=>c*q)) x=c*(eX l x*x+aI l x)
  rw[b,iI];grind
def LM(q b:List Rat)(x:Rat):eX (fG q b) x=eX q x*aI b x+aI q x*eX b x:=by
 induction q with
 |nil=>show(0:Rat)=0*aI b x+0*eX b x;grind
 |cons a q c=>
  show eX (j0 (b.map (fun y=>a*y)) (0 :: fG q b)) x=(eX q x*x+aI q x)*aI b x+(aI q x*x+a)*eX b x
  rw[axT,axU];show a*eX b x+(eX (fG q b) x*x+aI (fG q b) x)=_
  rw[c,fY];grind
def uV{f u d:List Rat}(h:∀x,aI f x=aI u x*aI d x)(x:Rat):eX f x=eX u x*aI d x+aI u x*eX d x:=by
 rw[<-LM];exact axS (fun i=>LL (fun y=>by rw[h,fY]) i) x
def DvE(f:Rat->Rat)(d:List Rat):Prop:=∃u:List Rat,∀x,f x=aI u x*aI d x
def DvE.lin{f g:Rat->Rat}{d:List Rat}(h:DvE f d)(k:DvE g d)(c:Rat)(q:List Rat):DvE (fun x=>c*f x+aI q x*g x) d:=by
 obtain⟨u,a⟩:=h;obtain⟨v,hv⟩:=k;exact⟨j0 (u.map (fun y=>c*y)) (fG q v),fun x=>by rw[lG,iI,fY];show c*f x+aI q x*g x=_;rw[a,hv];grind⟩
def DvE.congr{f g:Rat->Rat}{d:List Rat}(h:DvE f d)(e:∀x,g x=f x):DvE g d:=by
 obtain⟨u,a⟩:=h;exact⟨u,fun x=>by rw[e,a]⟩
def aX(a:List Int)(x:Rat):Rat:=aI (aT 1 a) x
def sH{A Q B C:List Int}{m:Int}(h:∀i,m*cf A i=conv (cf Q) (cf B) i+cf C i)(x:Rat):(m:Rat)*aX A x=aX Q x*aX B x+aX C x:=by
 unfold aX;rw[<-iI];refine axP (fun i=> ?_) x;rw[mG (fun q=>(m:Rat)*q) (gX _),dS,dS,gL (dS 1 Q) (dS 1 B),t6,rF,<-oD];have:=h i;have a:((m*cf A i:Int):Rat)=((conv (cf Q) (cf B) i+cf C i:Int):Rat):=by rw[this]
 rw[eJ,Rat.intCast_add] at a;grind
def DR{a b:List Int}{c:Rat}(h:∀i,((cf a i:Int):Rat)=c*cf b i)(x:Rat):aX a x=c*aX b x:=by
 unfold aX;rw[<-iI];refine oT (fun i=> ?_) x;rw[mG (fun q=>c*q) (gX _),dS,dS,h];grind
def pR(r:List Int)(x:Rat):aX r x=((bN r:Int):Rat)*aX (aS r) x:=DR (fun i=>by rw[<-lW r i,eJ,Rat.mul_comm]) x
def DS(x:Rat):aX [] x=0:=rfl
def axV{B:Nat}{a b g:List Int}(h:Euc B a b g):aN b->∀d,DvE (aX a) d->DvE (aX b) d->DvE (aX g) d:=by
 induction h with
 |done a=>exact fun _ d h _=>h
 | @one a b i=>
  intro k d _ h;obtain⟨y,rfl⟩:=List.length_eq_one_iff.1 i;have z:=gJ (k y rfl);obtain⟨u,p⟩:=h;refine⟨u.map (fun q=>(1/(y:Rat))*q),fun x=> ?_⟩;have c:=p x;have e:aX [y] x=y:=by show(0:Rat)*x+1*(y:Rat)=y;grind
  have l:aX [1] x=1:=by show(0:Rat)*x+1*((1:Int):Rat)=1;rw[Rat.intCast_one];grind
  rw[e] at c;rw[l,iI,Rat.mul_assoc,<-c];grind
 | @step a b q r g m i h t s=>
  intro k d n j;refine s (gV h.r_trim) d j ?_;by_cases f:r=[]
  ·have o:aS r=[]:=cG (by rw[dF,f];rfl);rw[o];exact⟨[],fun x=>by show(0:Rat)=0*_;grind⟩
  ·have w:=gJ (nI h.r_trim f)
   obtain⟨v,hv⟩:=(n.lin j (m:Rat) (aT (-1) q)).congr (g:=aX r) (fun x=>by
    have:=sH h.id_ x;have e:aI (aT (-1) q) x= -aX q x:=by rw[uA,aX,uA];grind
    rw[e];grind)
   refine⟨v.map (fun q=>(1/((bN r:Int):Rat))*q),fun x=> ?_⟩;have c:=hv x;rw[pR] at c;rw[iI,Rat.mul_assoc,<-c];grind
def yM(a:List Int)(x:Rat):aX (bB a) x=eX (aT 1 a) x:=by
 rw[qW];unfold aX;refine oT (fun i=> ?_) x;rw[dS,tV,dS,sB,eJ,Rat.one_mul,Rat.one_mul];congr 1
def SP{c p q:List Rat}(j:∃x,aI c x≠0)(h:∀x,aI c x*aI p x=aI c x*aI q x)(x:Rat):aI p x=aI q x:=by
 have f:∀x,aI (j0 p (q.map (fun y=>(-1)*y))) x=aI p x-aI q x:=fun x=>by rw[lG,iI];grind
 have m:∀x,aI (fG c (j0 p (q.map (fun y=>(-1)*y)))) x=0:=fun x=>by rw[fY,f];have:=h x;grind
 generalize j0 p (q.map (fun y=>(-1)*y))=d at *;have k:=DQ m;by_cases b:aW aV d=[]
 ·have:=f x;rw[<-oT (iS d) x,b,show aI [] x=0 from rfl] at this;grind
 ·exfalso;by_cases a:aW aV c=[]
  ·obtain⟨y,g⟩:=j;rw[<-oT (iS c) y,a] at g;exact g rfl
  ·have n:=(eI a).1 (jS c);have o:=(eI b).1 (jS d);have e:conv (cf (aW aV c)) (cf (aW aV d)) ((aW aV c).length-1+((aW aV d).length-1))=0:=by
    rw[gL (iS c) (iS d),<-uU];exact k _
   rw[p5 (fun i l=>bV (by have:=List.length_pos_iff.2 a;omega)) (fun i l=>bV (by have:=List.length_pos_iff.2 b;omega))] at e;exact m6 n o e
def Cop(a b:List Rat):Prop:=∃u v:List Rat,∀x,aI u x*aI a x+aI v x*aI b x=1
def Cop.symm{a b:List Rat}(h:Cop a b):Cop b a:=by
 obtain⟨u,v,h⟩:=h;exact⟨v,u,fun x=>by have:=h x;grind⟩
def Cop.dv{e b d:List Rat}(h:Cop e b)(k:DvE (aI b) d):Cop e d:=by
 obtain⟨u,v,h⟩:=h;obtain⟨q,k⟩:=k;exact⟨u,fG v q,fun x=>by have:=h x;rw[fY];rw[k] at this;grind⟩
def Cop.mul{e a b c:List Rat}(h:Cop e a)(k:Cop e b)(j:∀x,aI c x=aI a x*aI b x):Cop e c:=by
 obtain⟨u,v,h⟩:=h;obtain⟨d,f,k⟩:=k;refine⟨j0 (fG u (j0 (fG d e) (fG f b))) (fG (fG v d) a),fG v f,fun x=> ?_⟩;have g:=h x;have i:=k x;rw[lG,fY,lG,fY,fY,fY,fY,fY,j];have l:(aI u x*aI e x+aI v x*aI a x)*(aI d x*aI e x+aI f x*aI b x)=1:=by rw[g,i,Rat.mul_one]
 grind
def Cop.const{e c:List Rat}{k:Rat}(b:k≠0)(a:∀x,aI c x=k):Cop e c:=⟨[],[1/k],fun x=>by
 rw[a];show 0*aI e x+(0*x+1/k)*k=1
 have:1/k*k=1:=gW b;grind⟩
def Cop.euclid{h s y:List Rat}(b:Cop h s){q:List Rat}(c:∀x,aI s x*aI y x=aI q x*aI h x):DvE (aI y) h:=by
 obtain⟨u,v,k⟩:=b;refine⟨j0 (fG u y) (fG v q),fun x=> ?_⟩;have a:=k x;have d:=c x;rw[lG,fY,fY];have:aI y x=(aI u x*aI h x+aI v x*aI s x)*aI y x:=by rw[a,Rat.one_mul]
 grind
structure Gc(f r:List Rat):Prop where
 dv:DvE (aI f) r
 dd:DvE (eX f) r
 bz:∃u v:List Rat,∀x,aI r x=aI u x*aI f x+aI v x*eX f x
def azZ{f r a n b:List Rat}(h:Gc f r)(w:∀x,aI f x=aI a x*aI r x)(o:Gc r n)(j:∀x,aI r x=aI b x*aI n x)(r0:∃x,aI r x≠0):∃e,(∀x,aI a x=aI e x*aI b x)∧Cop e b∧Cop e (fW e):=by
 obtain⟨T,v⟩:=h.dd;obtain⟨U,V,E⟩:=h.bz;obtain⟨t,z⟩:=o.dd;obtain⟨k,l,F⟩:=o.bz;have C:∃x,aI n x≠0:=by
  obtain⟨x,m⟩:=r0;exact⟨x,fun e=>m (by rw[j,e,gX])⟩
 have D:∃x,aI b x≠0:=by
  obtain⟨x,m⟩:=r0;exact⟨x,fun e=>m (by rw[j,e,Rat.zero_mul])⟩
 have H:=uV (f:=f) (u:=a) (d:=r) w;have I:∀x,aI U x*aI a x+aI V x*aI T x=1:=fun x=>by
  have:=SP r0 (p:=j0 (fG U a) (fG V T)) (q:=[1]) (fun x=>by
   rw[lG,fY,fY,show aI [1] x=0*x+1 from rfl];have c:=E x;rw[v,w] at c;grind) x
  rw[lG,fY,fY,show aI [1] x=0*x+1 from rfl] at this;grind
 have J:∀x,aI k x*aI b x+aI l x*aI t x=1:=fun x=>by
  have:=SP C (p:=j0 (fG k b) (fG l t)) (q:=[1]) (fun x=>by
   rw[lG,fY,fY,show aI [1] x=0*x+1 from rfl];have c:=F x;rw[z,j] at c;grind) x
  rw[lG,fY,fY,show aI [1] x=0*x+1 from rfl] at this;grind
 have g:∀x,eX a x=aI (fW a) x:=fun x=>qW a x;have A:∀x,aI t x*aI a x=(aI T x-eX a x)*aI b x:=fun x=>by
  have:=SP C (p:=fG t a) (q:=fG (j0 T ((fW a).map (fun y=>(-1)*y))) b) (fun x=>by
   rw[fY,fY,lG,iI,<-g];have c:=H x;rw[v,z,j] at c;grind) x
  rw[fY,fY,lG,iI,<-g] at this;grind
 obtain⟨e,i⟩:=Cop.euclid (h:=b) (s:=t) (y:=a) ⟨k,l,J⟩ (q:=j0 T ((fW a).map (fun y=>(-1)*y))) (fun x=>by
  rw[A,lG,iI,<-g];grind)
 have G:=uV (f:=a) (u:=e) (d:=b) i;have K:∀x,aI e x*aI t x=aI T x-eX a x:=fun x=>by
  have:=SP D (p:=fG e t) (q:=j0 T ((fW a).map (fun y=>(-1)*y))) (fun x=>by
   rw[fY,lG,iI,<-g];have c:=A x;rw[i] at c;grind) x
  rw[fY,lG,iI,<-g] at this;grind
 have B:∀x,(aI U x*aI b x+(aI V x*aI t x+aI V x*aI (fW b) x))*aI e x+aI V x*aI (fW e) x*aI b x=1:=fun x=>by
  rw[<-qW,<-qW];have c:=I x;have L:=K x;have M:=G x;rw[i] at c;have:aI T x=aI e x*aI t x+(eX e x*aI b x+aI e x*eX b x):=by grind
  rw[this] at c;grind
 refine⟨e,i,⟨j0 (fG U b) (j0 (fG V t) (fG V (fW b))),fG V (fW e),fun x=> ?_⟩,⟨j0 (fG U b) (j0 (fG V t) (fG V (fW b))),fG V b,fun x=> ?_⟩⟩
 ·rw[lG,lG,fY,fY,fY,fY];exact B x
 ·rw[lG,lG,fY,fY,fY,fY];have:=B x;grind
inductive Rds:List Rat->List (List Rat)->Prop
 |stop {r:List Rat} {k:Rat} (hk:k≠0) (h:∀x,aI r x=k):Rds r []
 |step {r r2 b:List Rat} {l:List (List Rat)} (h:Gc r r2) (hr:∀x,aI r x=aI b x*aI r2 x) (h0:∃x,aI r x≠0) (t:Rds r2 l):Rds r (b :: l)
def cx0{e r:List Rat}{l:List (List Rat)}(h:Rds r l):∀{b:List Rat},l.head?=some b->Cop e b->Cop e r:=by
 induction h with
 |stop=>intro b c;cases c
 | @step r s b l h f q t o=>
  intro g c d;obtain rfl:b=g:=by simpa using c
  cases t with
  |stop m a=>exact d.mul (Cop.const m a) f
  | @step _ u p l a n j v=>
   obtain⟨i,k, -⟩:=azZ h f a n j;exact d.mul (o rfl (d.dv ⟨i,k⟩)) f
def cx1{f r a b c:List Rat}{l:List (List Rat)}(h:Gc f r)(w:∀x,aI f x=aI a x*aI r x)(t:Rds r (b :: l))(m:DvE (aI a) c)(n:DvE (aI r) c):DvE (aI b) c:=by
 cases t with
 | @step _ D _ _ g i d t=>
  obtain⟨e,s,o, -⟩:=azZ h w g i d;obtain⟨u,v,k⟩:=cx0 (Rds.step g i d t) rfl o;obtain⟨p,y⟩:=m;obtain⟨q,z⟩:=n;refine⟨j0 (fG u p) (fG (fG v b) q),fun x=> ?_⟩;rw[lG,fY,fY,fY];have j:=k x;have A:=s x;have:aI b x=(aI u x*aI e x+aI v x*aI r x)*aI b x:=by rw[j,Rat.one_mul]
  have B:=y x;have C:=z x;grind
def p4:List Int->Int->Int
 |[],_=>0
 |a :: l,k=>a+k*p4 l k
def aq0(l:List Int)(k:Int):aX l (k:Rat)=((p4 l k:Int):Rat):=by
 unfold aX;induction l with
 |nil=>rfl
 |cons a l b=>
  show aI (aT 1 l) k*k+1*(a:Rat)=((a+k*p4 l k:Int):Rat)
  rw[b,Rat.intCast_add,eJ];grind
def DA:List Int->Int->List Int
 |[],_=>[]
 |[_],_=>[]
 |_ :: b :: l,k=>p4 (b :: l) k :: DA (b :: l) k
def bxI:∀(l:List Int) (k:Int),(DA l k).length=l.length-1
 |[],_=>rfl
 |[_],_=>rfl
 |_ :: b :: l,k=>by
  show(DA (b :: l) k).length+1=_
  rw[bxI (b :: l) k];simp
def bxJ:∀(l:List Int) (k x:Int),p4 l x=p4 l k+(x-k)*p4 (DA l k) x
 |[],_,_=>by show(0:Int)=0+_*0;omega
 |[a],k,x=>by show a+x*0=(a+k*0)+(x-k)*0;omega
 |a :: b :: l,k,x=>by
  have h:=bxJ (b :: l) k x;show a+x*p4 (b :: l) x=(a+k*p4 (b :: l) k)+(x-k)*(p4 (b :: l) k+x*p4 (DA (b :: l) k) x)
  rw[h];grind
def bxK:∀(l:List Int) (k:Int) (j:Nat),cf l j=(if j=0 then p4 l k else cf (DA l k) (j-1))-k*cf (DA l k) j
 |[],k,j=>by
  rw[show DA [] k=[] from rfl,eR,eR];show(0:Int)=(if j=0 then 0 else cf [] (j-1))-k*0
  rw[eR];split<;>omega
 |[a],k,j=>by
  rw[show DA [a] k=[] from rfl,eR,eR];cases j with
  |zero=>show a=(if 0=0 then a+k*0 else 0)-k*0;rw[if_pos rfl];omega
  |succ j=>rw[if_neg (by omega),bV (l:=[a]) (by show 1<=j+1;omega)];omega
 |a :: b :: l,k,j=>by
  have h:=bxK (b :: l) k;cases j with
  |zero=>
   show a=(if 0=0 then a+k*p4 (b :: l) k else _)-k*p4 (b :: l) k
   rw[if_pos rfl];omega
  |succ j=>
   rw[if_neg (by omega)];show cf (b :: l) j=cf (p4 (b :: l) k :: DA (b :: l) k) j-k*cf (DA (b :: l) k) j
   rw[h j];cases j with
   |zero=>rfl
   |succ j=>rfl
def cx5:∀(m R V:Nat) (f:List Int),f.length<=m+1->(∀i,i<=m->(p4 f ((R+i:Nat):Int)).natAbs<=V)->∀j,(cf f j).natAbs<=V*(2*(R+m+2))^m:=by
 intro m;induction m with
 |zero=>
  intro R V f g hv j;rw[Nat.pow_zero,Nat.mul_one];have k:=hv 0 (mC 0);match f,g with
  |[],_=>rw[eR];exact dC _
  |[a],_=>
   cases j with
   |zero=>show a.natAbs<=V;have e:p4 [a] ((R+0:Nat):Int)=a:=by show a+_*0=a;omega
          rwa [e] at k
   |succ j=>rw[bV (by show 1<=j+1;omega)];exact dC _
 |succ m s=>
  intro R V f g hv j
  have c:=s (R+1) (2*V) (DA f (R:Int)) (by rw[bxI];omega) (fun i v=>by
   have l:=hv 0 (by omega);have t:=hv (i+1) (by omega);have e:=bxJ f (R:Int) ((R+(i+1):Nat):Int);rw[gQ] at l;have h:(((R+(i+1):Nat):Int)-(R:Int))=((i+1:Nat):Int):=by omega
   rw[h] at e;rw[show R+1+i=R+(i+1) by omega];generalize p4 (DA f (R:Int)) ((R+(i+1):Nat):Int)=q at *;have d:(((i+1:Nat):Int)*q).natAbs<=2*V:=by omega
   rw[fL,dD] at d;have:=Nat.le_mul_of_pos_left q.natAbs (show 0<i+1 by omega);omega)
  obtain⟨P,b⟩:∃P,(2*(R+1+m+2))^m=P:=⟨_,rfl⟩;have n:1<=P:=by rw[<-b];exact d6 (by omega)
  rw[b] at c;have u:V<=2*V*P:=by
   have:=Nat.le_mul_of_pos_right (2*V) n;omega
  have o:=hv 0 (by omega);rw[gQ] at o;have r:=c j;have p:V*(2*(R+(m+1)+2))^(m+1)=(R+m+3)*(2*V*P):=by
   rw[dH,show R+(m+1)+2=R+1+m+2 by omega,b];rw[show R+1+m+2=R+m+3 by omega];grind
  rw[p,bxK f (R:Int) j];have w:((R:Int)*cf (DA f (R:Int)) j).natAbs<=R*(2*V*P):=by
   rw[fL,dD];exact eV _ r
  have x:(R+m+3)*(2*V*P)=R*(2*V*P)+(m+3)*(2*V*P):=by rw[show R+m+3=R+(m+3) by omega,Nat.add_mul]
  have d:2*V*P<=(m+3)*(2*V*P):=Nat.le_mul_of_pos_left _ (by omega);split
  ·omega
  ·have:=c (j-1);omega
def bxL(H k:Nat):∀l:List Int,(∀n∈l,n.natAbs<=H)->(p4 l (k:Int)).natAbs<=H*(1+k)^l.length
 |[],_=>by show(0:Int).natAbs<=_;exact dC _
 |a :: l,h=>by
  have c:=bxL H k l (fun n hn=>h n (j8 _ hn));have g:=h a iC;show(a+(k:Int)*p4 l k).natAbs<=H*(1+k)^(l.length+1)
  have d:((k:Int)*p4 l k).natAbs<=k*(H*(1+k)^l.length):=by rw[fL,dD];exact eV _ c
  have b:1<=(1+k)^l.length:=d6 (by omega);have f:H*1<=H*(1+k)^l.length:=eV _ b;have e:H*(1+k)^(l.length+1)=H*(1+k)^l.length+k*(H*(1+k)^l.length):=by rw[dH];grind
  rw[e];omega
def bxM(H k:Nat)(c:H<k):∀l:List Int,l≠[]->aN l->(∀n∈l,n.natAbs<=H)->1<=(p4 l (k:Int)).natAbs
 |[],h,_,_=>absurd rfl h
 |[a],_,t,_=>by
  have:=t a rfl;have e:p4 [a] (k:Int)=a:=by show a+_*0=a;omega
  rw[e];omega
 |a :: b :: l,_,t,h=>by
  have f:=bxM H k c (b :: l) (by simp) (fun x d=>t x (by rw[List.getLast?_cons_cons];exact d)) (fun n hn=>h n (j8 _ hn));have i:=h a iC;show 1<=(a+(k:Int)*p4 (b :: l) k).natAbs
  have g:k*1<=((k:Int)*p4 (b :: l) k).natAbs:=by rw[fL,dD];exact eV _ f
  omega
def cx6{w s g:List Int}{H:Nat}(c:w≠[])(l:aN w)(b:∀n∈w,n.natAbs<=H)(f:∀i,cf w i=conv (cf s) (cf g) i)(p:s.length<=w.length)(j:Nat):(cf s j).natAbs<=H*(H+w.length+2)^w.length*(2*(H+w.length+3))^w.length:=by
 have q:=List.length_pos_iff.2 c;refine aH (cx5 w.length (H+1) (H*(H+w.length+2)^w.length) s (by omega) (fun i o=> ?_) j) (eV _ (Nat.pow_le_pow_left (by omega) _));have d:=bxL H (H+1+i) w b;have a:=bxM H (H+1+i) (by omega) w c l b;have r:H*(1+(H+1+i))^w.length<=H*(H+w.length+2)^w.length:=eV _ (Nat.pow_le_pow_left (by omega) _);have k:p4 w ((H+1+i:Nat):Int)=p4 s ((H+1+i:Nat):Int)*p4 g ((H+1+i:Nat):Int):=by
  have:=sH (A:=w) (Q:=s) (B:=g) (C:=[]) (m:=1) (fun i=>by rw[eR,Int.one_mul,f];omega) ((((H+1+i:Nat):Int)):Rat);rw[Rat.intCast_one,DS,aq0,aq0,aq0,<-eJ,Rat.add_zero,Rat.one_mul] at this;exact Rat.intCast_inj.1 this
 rw[k,fL] at d a;have e:1<=(p4 g ((H+1+i:Nat):Int)).natAbs:=by
  rcases iB (p4 g ((H+1+i:Nat):Int)).natAbs with h|h
  ·rw[h,Nat.mul_zero] at a;omega
  ·exact h
 have:=Nat.le_mul_of_pos_right (p4 s ((H+1+i:Nat):Int)).natAbs e;omega
def cx7{w s g:List Int}{K N:Nat}(m:w≠[])(o:aN w)(d:∀n∈w,nl n.natAbs<=K)(e:∀i,cf w i=conv (cf s) (cf g) i)(k:s.length<=w.length)(a:w.length<=N)(p:N<=1000):∀n∈s,nl n.natAbs<=K+2*N*(K+1)+1:=fun n hn=>by
 obtain⟨j,f,rfl⟩:=List.mem_iff_getElem.1 hn;have h:=cx6 m o (H:=BN^K) (fun n hn=>iE (aZ (cV n.natAbs) (cO (by unfold BN;decide) (d n hn)))) e k j;rw[fZ f] at h;refine cJ (jI h ?_);have q:1<=BN^K:=d6 (by unfold BN;decide);have l:2*(BN^K+w.length+3)<=BN^(K+1):=by
  rw[dH];have:BN^K*4000<=BN^K*BN:=eV _ (by unfold BN;decide);omega
 have b:(BN^K+w.length+2)^w.length<=BN^((K+1)*N):=by
  rw[Nat.pow_mul];exact aH (Nat.pow_le_pow_left (by omega) _) (cO (d6 (by unfold BN;decide)) a)
 have c:(2*(BN^K+w.length+3))^w.length<=BN^((K+1)*N):=by
  rw[Nat.pow_mul];exact aH (Nat.pow_le_pow_left l _) (cO (d6 (by unfold BN;decide)) a)
 refine jI (Nat.mul_le_mul (eV _ b) c) ?_;rw[<-Nat.pow_add,<-Nat.pow_add];exact Nat.pow_lt_pow_right (by unfold BN;decide) (by rw[iW,dN N (K+1)];omega)
def P7{B:Nat}{a b g:List Int}(h:Euc B a b g):aN a->aN b->aN g:=by
 induction h with
 |done a=>exact fun h _=>h
 |one d=>
  intro _ _ a c;obtain rfl:(1:Int)=a:=by simpa using c
  decide
 |step d h t e=>exact fun _ f=>e f (gV h.r_trim)
def bx2{f g:List Int}(a:bN g=1)(x:aN g)(w:aN f)(p:f≠[])(h:Dv (cf f) g):g≠[]∧∃s,s≠[]∧aN s∧s.length+g.length=f.length+1∧∀i,cf f i=conv (cf s) (cf g) i:=by
 have b:g≠[]:=fun e=>by rw[e] at a;cases a
 refine⟨b,?_⟩;obtain⟨k,u,d,m⟩:=h;have y:=gJ d
 obtain⟨q, -,r⟩:=YS (xs:=f) (Q:=aT (1/(k:Rat)) u) a (fun i=>by
  rw[gL (dS _ u) (fun _=>rfl),t6,<-oD,<-m i,eJ];grind)
 have c:∀i,cf f i=conv (cf (aW aV q)) (cf g) i:=fun i=>by
  rw[gL (iS q) (fun _=>rfl)];have n:=m i;have o:((k*cf f i:Int):Rat)=((k*conv (cf q) (cf g) i:Int):Rat):=by
   rw[n,eJ,oD,oD,gL (fun j=>(r j).symm) (fun _=>rfl),gL (dS _ u) (fun _=>rfl),t6];grind
  exact Int.eq_of_mul_eq_mul_left d (Rat.intCast_inj.1 o)
 obtain⟨t,v⟩:=K7 (jS q) w x b c;have l:aW aV q≠[]:=fun e=>p (t e);exact⟨_,l,jS q,(v l).symm,c⟩
def by2{f s g:List Int}(c:bN f=1)(a:∀i,cf f i=conv (cf s) (cf g) i):bN s=1:=by
 have h:bN s∣bN f:=CM (fun n hn=>by
  obtain⟨j,b,rfl⟩:=List.mem_iff_getElem.1 hn;rw[<-fZ b,a];unfold conv
  exact YN (fun k _=>Int.dvd_mul_of_dvd_left (WT (fun n h=>CL h) k)))
 rw[c] at h;exact Nat.dvd_one.1 h
def cxI(a b:List Int):List Int:=(List.range (a.length+b.length)).map (fun i=>conv (cf a) (cf b) i)
def bxH(a b:List Int)(i:Nat):cf (cxI a b) i=conv (cf a) (cf b) i:=by
 by_cases d:i<a.length+b.length
 ·unfold cxI;rw[fZ (by rw[cH,List.length_range];exact d),List.getElem_map,List.getElem_range]
 ·rw[bV (by unfold cxI;rw[cH,List.length_range];omega),rG (fun j c=>bV c) (fun j c=>bV c) (by omega)]
structure DvW(w p:List Int):Prop where
 ne:p≠[]
 tr:aN p
 pr:bN p=1
 len:p.length<=w.length
 out:∃q,∀i,cf w i=conv (cf p) (cf q) i
def DvW.quo{w p c Q:List Int}(h:DvW w p)(b:Q≠[])(k:aN Q)(d:c≠[])(l:aN c)(j:bN c=1)(n:Q.length+c.length=p.length+1)(a:∀i,cf p i=conv (cf Q) (cf c) i):DvW w Q∧DvW w c:=by
 obtain⟨q,e⟩:=h.out;have o:=List.length_pos_iff.2 b;have r:=List.length_pos_iff.2 d;have m:=h.len;have f:∀i,cf w i=conv (cf Q) (cf (cxI c q)) i:=fun i=>by
  rw[e,gL a (fun _=>rfl),XX];exact gL (fun _=>rfl) (fun i=>(bxH c q i).symm) i
 have g:∀i,cf w i=conv (cf c) (cf (cxI Q q)) i:=fun i=>by
  rw[e,gL (fun i=>(a i).trans (sO _ _ i)) (fun _=>rfl),XX];exact gL (fun _=>rfl) (fun i=>(bxH Q q i).symm) i
 exact⟨⟨b,k,by2 h.pr a,by omega,_,f⟩,⟨d,l,j,by omega,_,g⟩⟩
def DvW.nums{w p:List Int}{K N:Nat}(h:DvW w p)(e:w≠[])(f:aN w)(b:∀n∈w,nl n.natAbs<=K)(c:w.length<=N)(a:N<=1000):∀n∈p,nl n.natAbs<=K+2*N*(K+1)+1:=by
 obtain⟨q,d⟩:=h.out;exact cx7 e f b d h.len c a
def cx2{w p r c:List Int}{B:Nat}(a:DvW w p)(b:DvW w r)(h:pO B p r c):∃e f,QuoOf p c e∧QuoOf r c f∧DvW w c∧DvW w e∧DvW w f∧e.length+c.length=p.length+1∧f.length+c.length=r.length+1:=by
 unfold pO at h;rw[XC a.pr,XC b.pr] at h;have v:bN c=1∧aN c∧Dv (cf p) c∧Dv (cf r) c:=by
  split at h
  ·exact⟨XA h b.pr (.inr a.pr),P7 h b.tr a.tr,(JS h).2,(JS h).1⟩
  ·exact⟨XA h a.pr (.inr b.pr),P7 h a.tr b.tr,(JS h).1,(JS h).2⟩
 obtain⟨i,d,s,t⟩:=v;obtain⟨g,e,x,o,m,j⟩:=bx2 i d a.tr a.ne s;obtain⟨-,f,y,q,n,k⟩:=bx2 i d b.tr b.ne t;have l:=a.quo x o g d i m j;have u:=b.quo y q g d i n k;exact⟨e,f,⟨o,g,d,j⟩,⟨q,g,d,k⟩,l.2,l.1,u.1,m,n⟩
def az5(w:List Int)(n:Nat)(p r:List Int):Prop:=DvW w p∧DvW w r∧n=p.length+r.length∧p.length+r.length<=w.length+1
def cx3{w p r:List Int}{a N K B n:Nat}(i:w≠[])(k:aN w)(f:∀n∈w,nl n.natAbs<=a)(g:w.length<=N)(d:N<=1000)(e:a+2*N*(a+1)+1<=K)(l:(K+1)*(N+2)*3^(N/2+1)<=B)(h:az5 w n p r):GcdFit K B p r:=by
 obtain⟨b,c, -,m⟩:=h;have o:=b.len;have q:=c.len;have j:∀{x y:List Int},x.length<=N/2+1->y.length<=N->(K+1)*(y.length-x.length+2)*3^x.length<=B:=fun {x y} hx hy=>by
  refine aH (Nat.mul_le_mul (eV _ (by omega)) (cO (by decide) hx)) l
 exact⟨b.tr,c.tr,fun n hn=>aH (b.nums i k f g d n hn) e,fun n hn=>aH (c.nums i k f g d n hn) e,fun h=>j (by omega) (by omega),fun h=>j (by omega) (by omega),by omega,by omega⟩
def cx4{w:List Int}{b N K B:Nat}(m:w≠[])(o:aN w)(j:∀n∈w,nl n.natAbs<=b)(k:w.length<=N)(g:N<=1000)(i:b+2*N*(b+1)+1<=K)(s:(K+1)*(N+2)*3^(N/2+1)<=B):SqfInv K B (az5 w):=by
 refine⟨fun n p r h=>cx3 m o j k g i s h,fun n p r c h A t=> ?_⟩;obtain⟨u,v,rfl,C⟩:=h;obtain⟨q,f,y,z,a,l,d,D,E⟩:=cx2 u v t;have F:=List.length_pos_iff.2 a.ne;have G:=List.length_pos_iff.2 l.ne;have H:=List.length_pos_iff.2 d.ne;have e:=fun {x:List Int} (h:DvW w x) (n:Int) (hn:n∈x)=>aH (h.nums m o j k g n hn) i;exact⟨q,f,c.length+f.length,by omega,y,z,e a,e l,e d,by have:=a.len;omega,a,d,rfl,by omega⟩
def bxF(x:Rat):aX [1] x=1:=by
 show(0:Rat)*x+1*((1:Int):Rat)=1
 rw[Rat.intCast_one];grind
def p3(a:List Int)(x:Rat):aI (aT 1 a) x=aX a x:=rfl
def bqZ{B:Nat}{a b g:List Int}(h:Euc B a b g):aN b->∃u v:List Rat,∀x,aX g x=aI u x*aX a x+aI v x*aX b x:=by
 induction h with
 |done a=>exact fun _=>⟨[1],[],fun x=>by show _=(0*x+1)*_+0*_;grind⟩
 | @one a b d=>
  intro f;obtain⟨y,rfl⟩:=List.length_eq_one_iff.1 d;have s:=gJ (f y rfl);refine⟨[],[1/(y:Rat)],fun x=> ?_⟩;have e:aX [y] x=y:=by show(0:Rat)*x+1*(y:Rat)=y;grind
  rw[bxF,e];show(1:Rat)=0*_+(0*x+1/(y:Rat))*y
  have:=gW (a:=1) s;grind
 | @step a b q r g m d h t w=>
  intro f;obtain⟨u,v,k⟩:=w (gV h.r_trim);by_cases c:r=[]
  ·have p:aS r=[]:=cG (by rw[dF,c];rfl);exact⟨[],u,fun x=>by rw[k,p,DS];show _=0*_+_;grind⟩
  ·have z:=gJ (nI h.r_trim c);refine⟨v.map (fun y=>((m:Rat)/((bN r:Int):Rat))*y),j0 u ((fG v (aT 1 q)).map (fun y=>(-(1/((bN r:Int):Rat)))*y)),fun x=> ?_⟩;have i:=sH h.id_ x;have j:=pR r x;rw[k,iI,lG,iI,fY,p3];have l:aX (aS r) x=(1/((bN r:Int):Rat))*aX r x:=by rw[j];grind
   have n:(m:Rat)/((bN r:Int):Rat)=(1/((bN r:Int):Rat))*(m:Rat):=by rw[Rat.div_def,Rat.div_def];grind
   rw[l,n];have o:aX r x=(m:Rat)*aX a x-aX q x*aX b x:=by rw[i];grind
   rw[o];grind
def P6{f g:List Int}(h:Dv (cf f) g):DvE (aX f) (aT 1 g):=by
 obtain⟨k,u,b,d⟩:=h;have c:=gJ b;refine⟨(aT 1 u).map (fun y=>(1/(k:Rat))*y),fun x=> ?_⟩;have e:=sH (A:=f) (Q:=u) (B:=g) (C:=[]) (m:=k) (fun i=>by rw[eR,d];omega) x;rw[DS] at e;rw[iI,p3,p3];have a:aX f x=(1/(k:Rat))*((k:Rat)*aX f x):=by rw[<-Rat.mul_assoc,gW c,Rat.one_mul]
 rw[a,e];grind
def pQ{f s g:List Int}(h:∀i,cf f i=conv (cf s) (cf g) i)(x:Rat):aX f x=aX s x*aX g x:=by
 have:=sH (A:=f) (Q:=s) (B:=g) (C:=[]) (m:=1) (fun i=>by rw[eR,Int.one_mul,h];omega) x;rw[Rat.intCast_one,DS] at this;grind
def Q5{B:Nat}{r g:List Int}(l:aN r)(m:1<r.length)(h:Euc B r (aS (bB r)) g):Gc (aT 1 r) (aT 1 g):=by
 have b:=lE l;have i:bB r≠[]:=fun e=>by have:=lZ r;rw[e] at this;simp at this;omega
 have f:=gJ (nI b i);obtain⟨c,d⟩:=JS h;obtain⟨u,v,k⟩:=bqZ h (gV b);have a:∀x,eX (aT 1 r) x=((bN (bB r):Int):Rat)*aX (aS (bB r)) x:=fun x=>by rw[<-yM,pR]
 refine⟨P6 c,?_,u,v.map (fun y=>(1/((bN (bB r):Int):Rat))*y),fun x=> ?_⟩
 ·obtain⟨q,j⟩:=P6 d;exact⟨q.map (fun y=>((bN (bB r):Int):Rat)*y),fun x=>by rw[a,j,iI];grind⟩
 ·rw[iI,a,p3,k,p3];have:(1/((bN (bB r):Int):Rat))*((bN (bB r):Int):Rat)=1:=gW f;grind
structure Cn(B:Nat)(w s:List Int)(c:List (List Int)):Prop where
 sq:Sqp B w s
 st:StT B s (aS (bB s)) c
def fF(s:List Int)(c:List (List Int))(i:Int)(x:Rat)(j:Int)(y:Rat):Int:=(aY 0 ((s :: c).map (fun a=>aP a i x)):Int)-(aY 0 ((s :: c).map (fun a=>aP a j y)):Int)
def pN(s:List Int):b6 s=aT (1/((cf s (s.length-1):Int):Rat)) s:=oR (by rw[fX];exact cH _) (fun i=>by rw[dS];unfold b6;rw[xN];grind)
def CN(f:Rat)(s:List Int):fW (aT f s)=aT (f*((bN (bB s):Int):Rat)) (aS (bB s)):=by
 refine oR (by rw[fX,dF,lZ,qO,fX]) (fun i=> ?_);have h:=lW (bB s) i;have a:(((cf (aS (bB s)) i:Int):Rat))*((bN (bB s):Int):Rat)=((cf s (i+1):Int):Rat)*((i+1:Nat):Rat):=by
  rw[<-eJ,h,sB,eJ];congr 1
 rw[tV,dS,dS,Rat.mul_assoc f _ ((i+1:Nat):Rat),<-a];grind
def Cn.rat{B:Nat}{w s:List Int}{c:List (List Int)}(h:Cn B w s c)(i:1<=B):∃C,ChT B s (1/((cf s (s.length-1):Int):Rat)) (aS (bB s)) (1/((cf s (s.length-1):Int):Rat)*((bN (bB s):Int):Rat)) C∧All2 (Sg ((cf s (s.length-1):Int):Rat)) (b6 s :: C) (s :: c):=by
 have l:=gJ ((eI h.sq.ne).1 h.sq.ts);have a:0<((cf s (s.length-1):Int):Rat)*(1/((cf s (s.length-1):Int):Rat)):=by
  have:((cf s (s.length-1):Int):Rat)*(1/((cf s (s.length-1):Int):Rat))=1:=by grind
  rw[this];decide
 obtain⟨C,b,d⟩:=XJ h.st ((cf s (s.length-1):Int):Rat) i _ (1/((cf s (s.length-1):Int):Rat)*((bN (bB s):Int):Rat)) a (fun j=>by
  have f:bB s≠[]:=fun e=>j (cG (by rw[dF,e];rfl));have k:=nI (lE h.sq.ts) f;have g:0<((bN (bB s):Int):Rat):=by
   have:(0:Int)<(bN (bB s):Int):=by omega
   exact_mod_cast this
  rw[<-Rat.mul_assoc];exact Rat.mul_pos a g) (gV (lE h.sq.ts))
 exact⟨C,b,.cons ⟨h.sq.ne,h.sq.ts,_,a,pN s⟩ d⟩
def Sg.zero{e:Rat}{A:List Rat}{a:List Int}(h:Sg e A a)(i:Int)(x:Rat):eT A i x=0↔aP a i x=0:=by
 obtain⟨-, -,f,b,rfl⟩:=h;rcases iY f with k|k|k
 ·rw[xU k];omega
 ·exact absurd k (nK b)
 ·rw[uB k]
def Cn.both{B b:Nat}{w w' s f:List Int}{c c':List (List Int)}(h:Cn B w s c)(d:Cn b w' f c')(n:1<=B)(o:1<=b){A:List Rat}(l:Prp A w)(m:Prp A w'):∃C e k,All2 (Sg e) C (s :: c)∧All2 (Sg k) C (f :: c'):=by
 have a:=h.sq.unique d.sq l m;obtain⟨C,p,i⟩:=h.rat n;obtain⟨g,q,j⟩:=d.rat o;have e:C=g:=p.unique q (by rw[<-pN,<-pN,a]) (by rw[<-CN,<-CN,<-pN,<-pN,a]);exact⟨_,_,_,i,by rw[a,e];exact j⟩
def Cn.same{B d:Nat}{w w' s b:List Int}{c c':List (List Int)}(h:Cn B w s c)(j:Cn d w' b c')(o:1<=B)(p:1<=d){A:List Rat}(m:Prp A w)(n:Prp A w')(i:Int)(x:Rat):aY 0 ((s :: c).map (fun a=>aP a i x))=aY 0 ((b :: c').map (fun a=>aP a i x))∧(aP s i x=0↔aP b i x=0):=by
 obtain⟨C,e,q,f,g⟩:=h.both j o p m n;refine⟨by rw[<-xV f,xV g],?_⟩;cases f with
 |cons k _=>cases g with
  |cons l _=>exact(k.zero i x).symm.trans (l.zero i x)
def Cn.unique{B a:Nat}{w w' s k:List Int}{c c':List (List Int)}(h:Cn B w s c)(b:Cn a w' k c')(f:1<=B)(g:1<=a){A:List Rat}(d:Prp A w)(e:Prp A w')(i:Int)(x:Rat)(j:Int)(y:Rat):fF s c i x j y=fF k c' i x j y:=by
 unfold fF;rw[(h.same b f g d e i x).1,(h.same b f g d e j y).1]
def MI{A:List Rat}{w:List Int}(h:Prp A w):Prp (fW A) (aS (bB w))∧aW aV (fW A)=fW A:=by
 obtain⟨c,a,rfl⟩:=h.eq_smul
 have e:fW (aT c w)=aT c (bB w):=oR (by rw[qO,fX,fX,lZ]) (fun i=>by
  rw[tV,dS,dS,sB,eJ,Rat.mul_assoc];congr 2)
 have p:=jY a (lE h.2.1);rw[e];exact⟨nM p,qB p.trim⟩
def bqY{u v:List Rat}(h:∀x,aI u x*aI v x=1):∃c:Rat,c≠0∧∀x,aI u x=c:=by
 have g:∀i,conv (cf u) (cf v) i=cf [(1:Rat)] i:=fun i=>by
  rw[<-uU];exact LL (fun x=>by rw[fY,h];show(1:Rat)=0*x+1;grind) i
 have d:aW aV u≠[]:=fun e=>by
  have:=h 0;rw[<-oT (iS u) 0,e,show aI [] (0:Rat)=0 from rfl,Rat.zero_mul] at this;exact absurd this (by decide)
 have hv:aW aV v≠[]:=fun e=>by
  have:=h 0;rw[<-oT (iS v) 0,e,show aI [] (0:Rat)=0 from rfl,gX] at this;exact absurd this (by decide)
 have a:=(eI d).1 (jS u);have m:=(eI hv).1 (jS v);have n:=List.length_pos_iff.2 d;have o:=List.length_pos_iff.2 hv;have e:conv (cf (aW aV u)) (cf (aW aV v)) ((aW aV u).length-1+((aW aV v).length-1))=cf [(1:Rat)] ((aW aV u).length-1+((aW aV v).length-1)):=by
  rw[gL (iS u) (iS v)];exact g _
 rw[p5 (fun i j=>bV (by omega)) (fun i j=>bV (by omega))] at e;have f:(aW aV u).length=1:=by
  rcases dE ((aW aV u).length-1+((aW aV v).length-1)) 1 with k|k
  ·omega
  ·rw[bV (l:=[(1:Rat)]) (by simpa using k)] at e;exact absurd e (m6 a m)
 obtain⟨c,b⟩:=List.length_eq_one_iff.1 f;rw[b] at a;refine⟨c,a,fun x=> ?_⟩;rw[<-oT (iS u) x,b];show 0*x+c=c
 grind
def Aso(p p':List Int):Prop:=∃c:Rat,c≠0∧∀x,aX p x=c*aX p' x
def Aso.symm{p p':List Int}(h:Aso p p'):Aso p' p:=by
 obtain⟨c,b,h⟩:=h;refine⟨1/c,?_,fun x=> ?_⟩
 ·have:=gW (a:=1) b;intro e;rw[e,Rat.zero_mul] at this;exact absurd this (by decide)
 ·rw[h,<-Rat.mul_assoc,gW b,Rat.one_mul]
def GA{g:List Int}(b:g≠[])(c:aN g):∃x,aI (aT 1 g) x≠0:=by
 apply Classical.byContradiction;intro h;have a:∀x,aI (aT 1 g) x=0:=fun x=>Classical.byContradiction (fun k=>h ⟨x,k⟩);have:=DQ a (g.length-1);rw[dS,Rat.one_mul] at this;exact gJ ((eI b).1 c) this
def bxE{p p':List Int}(i:p≠[])(j:aN p)(h:DvE (aX p) (aT 1 p'))(k:DvE (aX p') (aT 1 p)):Aso p p':=by
 obtain⟨u,a⟩:=h;obtain⟨v,hv⟩:=k;have e:∀x,aI u x*aI v x=1:=fun x=>by
  have:=SP (GA i j) (p:=fG u v) (q:=[1]) (fun x=>by
   rw[fY,show aI [1] x=0*x+1 from rfl];have b:=a x;have d:=hv x;rw[p3] at b d;rw[p3];grind) x
  rw[fY,show aI [1] x=0*x+1 from rfl] at this;grind
 obtain⟨c,f,g⟩:=bqY e;exact⟨c,f,fun x=>by rw[a,g,p3]⟩
def Aso.co{p p':List Int}{c:Rat}(h:∀x,aX p x=c*aX p' x)(i:Nat):((cf p i:Int):Rat)=c*((cf p' i:Int):Rat):=by
 have:=LL (a:=aT 1 p) (b:=(aT 1 p').map (fun y=>c*y)) (fun x=>by rw[iI];exact h x) i;rwa [dS,mG (fun y=>c*y) (gX _),dS,Rat.one_mul,Rat.one_mul] at this
def Aso.len{p p':List Int}(h:Aso p p')(a:p≠[])(g:aN p)(b:p'≠[])(i:aN p'):p.length=p'.length:=by
 obtain⟨c,d,h⟩:=h;have e:=gJ ((eI a).1 g);have f:=gJ ((eI b).1 i);have j:=List.length_pos_iff.2 a;have m:=List.length_pos_iff.2 b;rcases Nat.lt_trichotomy p.length p'.length with k|k|k
 ·exfalso;have:=Aso.co h (p'.length-1);rw[bV (l:=p) (by omega),Rat.intCast_zero] at this;exact m6 d f this.symm
 ·exact k
 ·exfalso;have:=Aso.co h (p.length-1);rw[bV (l:=p') (by omega),Rat.intCast_zero,gX] at this;exact e this
def Aso.mon{p p':List Int}(h:Aso p p')(g:p≠[])(j:aN p)(b:p'≠[])(d:aN p'):b6 p=b6 p':=by
 have a:=h.len g j b d;obtain⟨c,f,h⟩:=h;have k:=gJ ((eI b).1 d);rw[pN,pN];refine oR (by rw[fX,fX,a]) (fun i=> ?_);rw[dS,dS,Aso.co h i,Aso.co h (p.length-1),a];have e:1/(c*((cf p' (p'.length-1):Int):Rat))=(1/((cf p' (p'.length-1):Int):Rat))*(1/c):=by
  rw[Rat.div_def,Rat.div_def,Rat.div_def,Rat.inv_mul_rev];grind
 rw[e];have:1/c*c=1:=gW f;grind
def azY{p a c b Q e:List Int}(h:Aso p a)(k:Aso c b)(r:c≠[])(w:aN c)(n:∀x,aX p x=aX Q x*aX c x)(o:∀x,aX a x=aX e x*aX b x):Aso Q e:=by
 obtain⟨s,u,h⟩:=h;obtain⟨t,f,k⟩:=k
 have v:s*(1/t)≠0:=m6 u (fun e=>by
  have:=gW (a:=1) f;rw[e,Rat.zero_mul] at this;exact absurd this (by decide))
 refine⟨s*(1/t),v,fun x=> ?_⟩
 have:=SP (GA r w) (p:=aT 1 Q) (q:=(aT 1 e).map (fun y=>(s*(1/t))*y)) (fun x=>by
  rw[iI,p3,p3,p3];have g:=n x;have i:=o x;have d:=h x;have j:=k x;have l:1/t*t=1:=gW f;have m:aX b x=(1/t)*aX c x:=by rw[j,<-Rat.mul_assoc,l,Rat.one_mul]
  rw[g] at d;rw[i,m] at d;grind) x
 rw[iI,p3,p3] at this;exact this
structure Pp(p:List Int):Prop where
 ne:p≠[]
 tr:aN p
 pr:bN p=1
inductive RfO(B:Nat):List Int->List Int->List Int->List (List Int)->Prop
 |last {r a g:List Int} (h1:1<r.length) (pr:Pp r) (pa:Pp a) (pg:Pp g) (h:Euc B r (aS (bB r)) g) (ha:∀i,cf r i=conv (cf a) (cf g) i) (hg:g.length=1):RfO B r a g [a]
 |step {r a g b g2 e:List Int} {es:List (List Int)} (h1:1<r.length) (pr:Pp r) (pa:Pp a) (pg:Pp g) (pe:Pp e) (h:Euc B r (aS (bB r)) g) (ha:∀i,cf r i=conv (cf a) (cf g) i) (he:∀i,cf a i=conv (cf e) (cf b) i) (t:RfO B g b g2 es):RfO B r a g (e :: es)
section
variable {B:Nat}{r a g:List Int}{es:List (List Int)}
def RfO.facts(h:RfO B r a g es):1<r.length∧Pp r∧Pp a∧Pp g∧Euc B r (aS (bB r)) g∧∀i,cf r i=conv (cf a) (cf g) i:=by
 cases h with
 |last b f d e h c k=>exact⟨b,f,d,e,h,c⟩
 |step b f d e l h c j t=>exact⟨b,f,d,e,h,c⟩
def bqV{z:List Int}(b:z.length=1)(c:aN z):∃k:Rat,k≠0∧∀x,aI (aT 1 z) x=k:=by
 obtain⟨y,rfl⟩:=List.length_eq_one_iff.1 b;exact⟨(y:Rat),gJ (c y rfl),fun x=>by show 0*x+1*(y:Rat)=y;grind⟩
def RfO.rds(h:RfO B r a g es):∃l,Rds (aT 1 r) (aT 1 a :: l):=by
 induction h with
 | @last r a g d c p i h f j=>
  obtain⟨k,m,e⟩:=bqV j i.tr;exact⟨[],.step (Q5 c.tr d h) (fun x=>pQ f x) (GA c.ne c.tr) (.stop m e)⟩
 | @step r a g b q e es d c p i u h f s t o=>
  obtain⟨l,n⟩:=o;exact⟨_,.step (Q5 c.tr d h) (fun x=>pQ f x) (GA c.ne c.tr) n⟩
def RfO.long(h:RfO B r a g es):1<a.length:=by
 obtain⟨q,f,d,b,i,j⟩:=h.facts;obtain⟨-,o⟩:=K7 d.tr f.tr b.tr b.ne j;have t:=o d.ne;have c:=lZ r;have p:=lE f.tr;have l:bB r≠[]:=fun e=>by rw[e] at c;simp at c;omega
 have s:g.length<=r.length-1:=by
  rcases dE (aS (bB r)).length g.length with k|k
  ·exfalso;have n:=(JS i).2.none k b.tr;have m:aS (bB r)≠[]:=fun e=>l (cG (by rw[<-dF,e];rfl));exact(eI m).1 (gV p) (n _)
  ·rw[dF] at k;omega
 omega
end
def cy3{p a:List Int}{d:List Rat}(h:Aso p a)(k:DvE (aX p) d):DvE (aX a) d:=by
 obtain⟨c,e,h⟩:=h.symm;obtain⟨u,b⟩:=k;exact⟨u.map (fun y=>c*y),fun x=>by rw[h,b,iI];grind⟩
def bxD{B:Nat}{p q c:List Int}(f:Pp p)(i:Pp q)(h:pO B p q c):Pp c∧Dv (cf p) c∧Dv (cf q) c∧∀d,DvE (aX p) d->DvE (aX q) d->DvE (aX c) d:=by
 unfold pO at h;rw[XC f.pr,XC i.pr] at h;split at h
 ·have b:=XA h i.pr (.inr f.pr);exact⟨⟨(fun e=>by rw[e] at b;cases b),P7 h i.tr f.tr,b⟩,(JS h).2,(JS h).1,fun d j k=>axV h f.tr d k j⟩
 ·have b:=XA h f.pr (.inr i.pr);exact⟨⟨(fun e=>by rw[e] at b;cases b),P7 h f.tr i.tr,b⟩,(JS h).1,(JS h).2,fun d j k=>axV h i.tr d j k⟩
def bqW{B:Nat}{p q c:List Int}(d:Pp p)(e:Pp q)(i:1<p.length)(b:q.length=1)(h:pO B p q c):c=[1]:=by
 unfold pO at h;rw[XC d.pr,XC e.pr,if_neg (by omega)] at h;cases h with
 |done=>simp at b
 |one=>rfl
 |step f=>omega
def bqX{B:Nat}{r a g:List Int}{es:List (List Int)}(h:RfO B r a g es):∀{E:Nat} {p q:List Int} {l:List (List Int)},Pp p->Pp q->Aso p a->Aso q g->Sqf E p q l->l.map b6=es.map b6:=by
 induction h with
 | @last r a g A D f w h C Z=>
  intro E p q l d n j s G;have hl:=(RfO.last A D f w h C Z).long;have lp:=j.len d.ne d.tr f.ne f.tr;have lq:=s.len n.ne n.tr w.ne w.tr;cases G with
  |done k=>omega
  | @step _ _ c z L l' k J o u t=>
   obtain rfl:=bqW d n (by omega) (by omega) J;cases t with
   |step k2=>simp at k2
   |done=>
    have e:∀x,aX p x=aX z x:=fun x=>by rw[pQ o.id_,bxF,Rat.mul_one]
    have hq:Aso z a:=by
     obtain⟨c,Y,h⟩:=j;exact⟨c,Y,fun x=>by rw[<-e,h]⟩
    have n0:z≠[]:=fun F=>by
     obtain⟨x,v⟩:=GA d.ne d.tr;rw[p3,e,F] at v;exact v rfl
    rw[fM,fM,hq.mon n0 o.trim f.ne f.tr]
 | @step r a g b M e es A D f w K h C I t ih=>
  intro E p q l d n j s G;have hl:=(RfO.step A D f w K h C I t).long;have lp:=j.len d.ne d.tr f.ne f.tr;obtain⟨t1, -,pb,ad,tE,O⟩:=t.facts;obtain⟨l0,X⟩:=t.rds;cases G with
  |done k=>omega
  | @step _ _ c z L l' k J o u t'=>
   obtain⟨m,S,T,U⟩:=bxD d n J;have P:DvE (aX b) (aT 1 c):=cx1 (Q5 D.tr A h) (fun x=>pQ C x) X (cy3 j (P6 S)) (cy3 s (P6 T));have R:DvE (aX c) (aT 1 b):=U _ (cy3 j.symm ⟨aT 1 e,fun x=>pQ I x⟩) (cy3 s.symm ⟨aT 1 M,fun x=>by rw[pQ O,p3,p3];grind⟩);have H:=bxE m.ne m.tr R P;have V:=azY j H m.ne m.tr (fun x=>pQ o.id_ x) (fun x=>pQ I x);have W:=azY (e:=M) s H m.ne m.tr (fun x=>pQ u.id_ x) (fun x=>by rw[pQ O];grind);have N:∀{y Q:List Int},Pp y->(∀i,cf y i=conv (cf Q) (cf c) i)->Q≠[]:=fun {y Q} py hy F=>by
    obtain⟨x,v⟩:=GA py.ne py.tr;rw[p3,pQ hy,F,DS,Rat.zero_mul] at v;exact v rfl
   have ac:Pp L:=⟨N n u.id_,u.trim,by2 n.pr u.id_⟩;rw[fM,fM,V.mon (N d o.id_) o.trim K.ne K.tr,ih m ac H W t']
end Go.Proofs.YtapgbkldiinabaaGreatDoor
namespace Go.Proofs.YtapgbkldiinabaaGreatDoor
open Go.RowKit Sos
def cx8{P:Program}{f:FuncId}{args:Array Value}{w:World}{R:Ending->World->Prop}(h:Calls P f args w R):∃e w',R e w':=by
 obtain⟨e,w',b,a, -⟩:=h [];exact⟨e,w',a⟩
def cx9(w:World)(n:Nat):∃w' A l c,Below w.heap.size w w'∧NatAt w' (.slice A l c) n:=by
 refine⟨_,some ⟨w.heap.size,0,none⟩,nl n,nl n,oI w (.cells ((dg n).map (fun z=>Value.int .u64 z)).toArray 82),⟨_,nl n,rfl,aE,.inr ⟨w.heap.size,0,rfl,by simp,fun i a=> ?_⟩,Old.mk (by simp)⟩⟩;have B:=Bx.new w ((dg n).map (fun z=>Value.int .u64 z)) 82;rw[bA];refine B.cell i ?_;rw[iK,aR a,czL,aR a];rfl
def cxA(w:World):∀a:List Int,∃w' rows,Below w.heap.size w w'∧rows.length=a.length∧(∀r∈rows,r.length=2)∧IRow w' rows a:=by
 intro a;induction a with
 |nil=>exact⟨w,[],aG _ _,rfl,(fun r h=>by cases h),(fun i n h=>by simp at h)⟩
 |cons n a j=>
  obtain⟨k,rows,b,f,g,e⟩:=j;obtain⟨o,A,l,c,d,hn⟩:=cx9 k n.natAbs;refine⟨o,[.bool (decide (n<0)),.slice A l c] :: rows,aC b d,by rw[eG,eG,f],fun r h=> ?_,fun i m h=> ?_⟩
  ·rcases List.mem_cons.1 h with rfl|h
   ·rfl
   ·exact g r h
  ·cases i with
   |zero=>
    obtain rfl:n=m:=by simpa using h
    exact⟨_,_,_,_,rfl,_,rfl,hn⟩
   |succ i=>exact(e.ke (Keep.be d)) i m h
def bxN(w:World)(a:List Int):∃w' v,Below w.heap.size w w'∧WholeAt w' v a:=by
 obtain⟨b,c,d,h,g,f⟩:=cxA w a;have B:=Bx.new b c.flatten 44;have e:=oI b (.cells c.flatten.toArray 44);exact⟨_,.slice (some ⟨b.heap.size,0,none⟩) a.length a.length,aC d e,_,_,rfl,aE,.inr ⟨b.heap.size,c,rfl,⟨B,g⟩,f.ke (Keep.be e)⟩⟩
def cxB{K B:Nat}{xs ys:List Int}{w:World}(j:Glob w)(h:GcdFit K B xs ys)(k:1<=K)(i:5*B+8<=aJ):∃g,pO B xs ys g:=by
 obtain⟨n,l,b,c⟩:=bxN w xs;obtain⟨o,m,a,d⟩:=bxN n ys;obtain⟨e,q,p,g, -, -,f, -⟩:=cx8 (azO h l m o ((j.be b).be a) (c.be a) d k i);exact⟨g,f⟩
def bqT{a b:List Int}{e:List Rat}(d:Pp a)(o:Pp b)(h:∀x,aX a x=aI e x*aX b x):∃q,Pp q∧∀i,cf a i=conv (cf q) (cf b) i:=by
 have g:∀i,((cf a i:Int):Rat)=conv (cf e) (fun k=>((cf b k:Int):Rat)) i:=fun i=>by
  have:=LL (a:=aT 1 a) (b:=fG e (aT 1 b)) (fun x=>by rw[fY];exact h x) i;rw[dS,Rat.one_mul,uU] at this;rw[this];exact gL (fun _=>rfl) (fun k=>by rw[dS,Rat.one_mul]) i
 obtain⟨q, -,n⟩:=YS o.pr g;have c:∀i,cf a i=conv (cf (aW aV q)) (cf b) i:=fun i=>by
  rw[gL (iS q) (fun _=>rfl)];have f:=g i;rw[gL n (fun _=>rfl),<-oD] at f;exact Rat.intCast_inj.1 f
 have m:aW aV q≠[]:=fun l=>by
  obtain⟨x,j⟩:=GA d.ne d.tr;rw[p3,pQ c,l,DS,Rat.zero_mul] at j;exact j rfl
 exact⟨_,⟨m,jS q,by2 d.pr c⟩,c⟩
def DvW.pp{w p:List Int}(h:DvW w p):Pp p:=⟨h.ne,h.tr,h.pr⟩
def bqU{w:List Int}{m N K B:Nat}{W:World}(E:Glob W)(M:w≠[])(Z:aN w)(F:∀n∈w,nl n.natAbs<=m)(G:w.length<=N)(A:N<=1000)(hK:m+2*N*(m+1)+2<=K)(C:(K+1)*3^N<=B)(D:5*B+8<=aJ):∀(n:Nat) (r:List Int),r.length<=n->DvW w r->1<r.length->∃a g es,RfO B r a g es∧DvW w g:=by
 intro n;induction n with
 |zero=>intro r h _ i;omega
 |succ n P=>
  intro r hr c i;have l:=lE c.tr;have p:=lZ r;have hl:=c.len;have v:=c.nums M Z F G A;have I:GcdFit K B r (bB r):=by
   refine⟨c.tr,l,fun n hn=>aH (v n hn) (by omega),fun n hn=>aH (pL v (by omega) n hn) (by omega),fun h=>by omega,fun _=> ?_,by omega,by omega⟩;have e:(K+1)*(r.length-(bB r).length+2)*3^(bB r).length=(K+1)*3^r.length:=by
    rw[p,show r.length-(r.length-1)+2=3 by omega,iW,dN 3,<-dH,show(r.length-1).succ=r.length by omega]
   rw[e];exact aH (eV _ (cO (by decide) (show r.length<=N by omega))) C
  obtain⟨g,d⟩:=cxB E I (by omega) D;unfold pO at d;rw[if_neg (by omega),XC c.pr] at d;have t:bB r≠[]:=fun e=>by rw[e] at p;simp at p;omega
  have y:=XA d c.pr (.inr (xZ (nI l t)));have f:=P7 d c.tr (gV l);obtain⟨s,a,R,X,Q,j⟩:=bx2 y f c.tr c.ne (JS d).1;obtain⟨o,dg⟩:=c.quo R X s f y Q j;by_cases z:g.length=1
  ·exact⟨a,g,_,.last i c.pp o.pp dg.pp d j z,dg⟩
  ·have lg:=List.length_pos_iff.2 s;have ac:g.length<=r.length-1:=by
    rcases dE (aS (bB r)).length g.length with k|k
    ·exfalso;have O:=(JS d).2.none k f;have J:aS (bB r)≠[]:=fun e=>t (cG (by rw[<-dF,e];rfl));exact(eI J).1 (gV l) (O _)
    ·rw[dF] at k;omega
   obtain⟨b,g2,es,u, -⟩:=P g (by omega) dg (by omega);obtain⟨U, -,S,ad,V,Y⟩:=u.facts;obtain⟨e,H, -⟩:=azZ (Q5 c.tr i d) (fun x=>pQ j x) (Q5 f U V) (fun x=>pQ Y x) (GA s f);obtain⟨q,T,L⟩:=bqT o.pp S H;exact⟨a,g,_,.step i c.pp o.pp dg.pp T d j L u,dg⟩
end Go.Proofs.YtapgbkldiinabaaGreatDoor
namespace Go.Proofs.YtapgbkldiinabaaGreatDoor
open Sos
def cy2(g:List Int)(k:Nat):cf (b6 g) k=(1/((cf g (g.length-1):Int):Rat))*cf g k:=by unfold b6;rw[xN];grind
def bqQ{x y:Rat}(b:x≠0)(c:y≠0):1/x*(1/y)=1/(x*y):=by
 have d:=gW (a:=1) b;have e:=gW (a:=1) c;have f:=gW (a:=1) (m6 b c)
 calc 1/x*(1/y)=1/x*(1/y)*(1/(x*y)*(x*y)):=by rw[f,Rat.mul_one]
  _=(1/x*x)*(1/y*y)*(1/(x*y)):=by grind
  _=1/(x*y):=by rw[d,e,Rat.mul_one,Rat.one_mul]
def bqR{x:Rat}(b:x≠0):1/x≠0:=fun e=>by
 have:=gW (a:=1) b;rw[e,Rat.zero_mul] at this;exact absurd this (by decide)
def bqS{r a g:List Int}(n:Pp r)(b:Pp a)(c:Pp g)(d:∀i,cf r i=conv (cf a) (cf g) i):DivQ (b6 r) (b6 g) (b6 a) []:=by
 have f:=gJ ((eI b.ne).1 b.tr);have k:=gJ ((eI c.ne).1 c.tr);obtain⟨-,l⟩:=K7 b.tr n.tr c.tr c.ne d;have o:=l b.ne;have p:=List.length_pos_iff.2 b.ne;have m:=List.length_pos_iff.2 c.ne;have e:cf r (r.length-1)=cf a (a.length-1)*cf g (g.length-1):=by
  rw[d,show r.length-1=a.length-1+(g.length-1) by omega];exact p5 (fun i j=>bV (by omega)) (fun i j=>bV (by omega))
 refine⟨fun i=> ?_,by rw[pN];exact CQ (.inl (bqR f)) b.tr,(fun a h=>by simp at h),by rw[(uD c.tr).1];exact m⟩;rw[eR,Rat.add_zero,gL (cy2 a) (cy2 g),t6,rF,cy2,<-oD,<-d i,e,eJ,<-bqQ f k,Rat.mul_assoc]
def azX{g:List Int}(b:Pp g)(h:g.length=1):b6 g=[1]:=by
 obtain⟨y,rfl⟩:=List.length_eq_one_iff.1 h;have d:=gJ (b.tr y rfl);have c:=gW (a:=(1:Rat)) d;refine oR (uD b.tr).1 (fun i=> ?_);rw[cy2];cases i with
 |zero=>exact c
 |succ i=>show _*((0:Int):Rat)=0;grind
end Go.Proofs.YtapgbkldiinabaaGreatDoor
namespace Go.Proofs.YtapgbkldiinabaaGreatDoor
open Go.RowKit Sos Tryz
def yC(w:World)(q:List Rat)(e:Ending)(w':World):Prop:=∃v u,e= .returned (.tuple #[v,u])∧QsAt w' v q∧QsAt w' u []∧Below w.heap.size w w'
def bx1{r a g:List Int}{K:Nat}(f:Pp r)(s:Pp a)(c:Pp g)(j:∀i,cf r i=conv (cf a) (cf g) i)(q:∀n∈r,nl n.natAbs<=K)(p:∀n∈g,nl n.natAbs<=K)(b:1<=K)(E:r.length<=8)(y:K<=10000000)(v u:Value)(w:World)(hv:QsAt w v (b6 r))(m:QsAt w u (b6 g)):
  Calls prog 66 #[v,u] w (yC w (b6 a)):=by
 have d:=uD c.tr;have D:=List.length_pos_iff.2 c.ne;have F:=(uD f.tr).1;have e:=JY K 8;have l:=L3 (b6 r) (b6 g) v u w hv m K (CU q b) (CU p b) b (by omega) (by rw[d.1];omega) (d.ne c.ne) 20000000000 (aH (eV 2 (uF K (show(b6 r).length<=8 by omega))) (by omega)) (by decide);refine l.mono ?_;rintro x G ⟨t,u1,Q,R,rfl,b,o,h,z,B,A,C,k⟩;obtain⟨rfl,rfl⟩:=h.unique (bqS f s c j) (d.ne c.ne) (by rw[d.1];omega);exact⟨t,u1,rfl,b,o,k⟩
def bxB{r:List Int}{K:Nat}(b:Pp r)(c:∀n∈r,nl n.natAbs<=K)(a:1<=K)(e:r.length<=8)(d:K<=10000000)(v:Value)(w:World)(hv:QsAt w v (b6 r)):
  Calls prog 65 #[v] w (C8 w (fW (b6 r))):=by
 have:=(uD b.tr).1;have h:=JF (b6 r) v w hv K (CU c a) (by omega) a (by omega);rwa [(MI (uD b.tr)).2] at h
def bxC{B:Nat}{r g:List Int}(h:Pp r)(c:Euc B r (aS (bB r)) g)(f:∀n∈r,nl n.natAbs+1<=B)(i:2<=B)(k:r.length<=8)(d:B<=10000000)(v u:Value)(w:World)(hv:QsAt w v (b6 r))(e:QsAt w u (fW (b6 r))):
  Calls prog 64 #[v,u] w (C8 w (b6 g)):=by
 have p:=uD h.tr;have j:=qO (b6 r);have b:∀n∈r,nl n.natAbs<=B-1:=fun n hn=>by have:=f n hn;omega
 refine ZJ B (b6 r) (fW (b6 r)) r (aS (bB r)) g v u w hv e p (MI p).1 (.inl c) B (fun q a=>bU (CU b (by omega) q a) (by omega)) (fun q a=>bU (JE (CU b (by omega)) (by have:=p.1;omega) (by omega) q a) (by omega)) aE (by omega) (by have:=p.1;omega) (by have:=p.1;omega) d
def azW:Pp [1]:=⟨by decide,oB rfl,by decide⟩
def RfO.quoW{w r a g:List Int}(d:DvW w r)(c:Pp a)(b:Pp g)(e:∀i,cf r i=conv (cf a) (cf g) i):DvW w a∧DvW w g:=
 d.quo c.ne c.tr b.ne b.tr b.pr (by have:=(K7 c.tr d.tr b.tr b.ne e).2 c.ne;omega) e
def RfO.round {B:Nat} {w r a g:List Int} {es:List (List Int)} (h:RfO B r a g es) (F:DvW w r) (j:∀p,DvW w p->(∀n∈p,nl n.natAbs+1<=B)∧p.length<=8) (P:2<=B) (k:B<=10000000):∃(D E:List Rat) (e:List Int) (z:List (List Int)),es=e :: z
      ∧(∀v u W,QsAt W v (b6 g)->QsAt W u (fW (b6 g))->Calls prog 64 #[v,u] W (C8 W D))
      ∧(∀v u W,QsAt W v (b6 g)->QsAt W u D->Calls prog 66 #[v,u] W (yC W E))
      ∧(∀v u W,QsAt W v (b6 a)->QsAt W u (if g.length<=1 then [1] else E)->Calls prog 66 #[v,u] W (yC W (b6 e)))
      ∧(g.length=1∧z=[]∨DvW w g∧∃b y,RfO B g b y z):=by
 have f:∀{p},DvW w p->(∀n∈p,nl n.natAbs<=B):=fun R n hn=>by have:=(j _ R).1 n hn;omega
 cases h with
 | @last r a g O T o d h A G=>
  obtain⟨s,dg⟩:=RfO.quoW F o d A;have p:=uD d.tr;have X:=lZ g;have L:aS (bB g)=[]:=cG (by rw[dF];omega);have I:∀n∈([1]:List Int),nl n.natAbs<=B:=fun n hn=>by
   rw[List.mem_singleton.1 hn];exact aH (cJ (m:=1) (by unfold BN;decide)) (by omega)
  refine⟨b6 [1],b6 g,a,[],rfl,fun v u W hv c=> ?_,fun v u W hv c=>bx1 d d azW (fun i=>(CO _ i).symm) (f dg) I (by omega) (j _ dg).2 k v u W hv c,fun v u W hv c=> ?_,.inl ⟨G,rfl⟩⟩
  ·have V:=qO (b6 g);have q:=MI p;rw[L] at q;exact ZJ B (b6 g) (fW (b6 g)) g [] [1] v u W hv c p q.1 (.inr (.inl ⟨rfl,G,rfl⟩)) B (CU (f dg) (by omega)) (fun x H=>by rw[cG (l:=fW (b6 g)) (by have:=p.1;omega)] at H;cases H) aE (by omega) (by have:=p.1;omega) (by have:=p.1;omega) k
  ·rw[if_pos (by omega),<-azX azW rfl] at c;exact bx1 o o azW (fun i=>(CO _ i).symm) (f s) I (by omega) (j _ s).2 k v u W hv c
 | @step r a g b y e es O T o d S h A Q t=>
  obtain⟨s,dg⟩:=RfO.quoW F o d A;obtain⟨Y, -,C,J,U,K⟩:=t.facts;obtain⟨M,N⟩:=RfO.quoW dg C J K;refine⟨b6 y,b6 b,e,es,rfl,fun v u W hv c=>bxC d U (j _ dg).1 P (j _ dg).2 k v u W hv c,fun v u W hv c=>bx1 d C J K (f dg) (f N) (by omega) (j _ dg).2 k v u W hv c,fun v u W hv c=> ?_,.inr ⟨dg,b,y,t⟩⟩;rw[if_neg (by omega)] at c;exact bx1 o S C Q (f s) (f M) (by omega) (j _ s).2 k v u W hv c
