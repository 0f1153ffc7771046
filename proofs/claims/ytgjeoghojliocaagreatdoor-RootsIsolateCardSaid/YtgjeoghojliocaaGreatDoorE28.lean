/- Laws. -/
import Derived.Test.YtgjeoghojliocaaGreatDoorE26
import Derived.Test.YtgjeoghojliocaaGreatDoorE27
set_option linter.all false
set_option maxHeartbeats 8000000
set_option maxRecDepth 99999
namespace Go.Proofs.YtgjeoghojliocaaGreatDoor
open Go.RowKit Sos Tryz
def DB(p:List Rat)(v:Value)(w:World)(hv:QsAt w v p)(K:Nat)(t:∀q∈p,RL K q)(i:1<=K)(L:p≠[]->cf p (p.length-1)≠0)(S:p.length<=1024)(ac:K<=60000000000):
  Calls prog 109 #[v] w (lT w (oQ p)):=by
 obtain⟨A,c,rfl,hc⟩:=hv.form;go_enter func109,ntmps109;by_cases d:p.length=0
 ·have f:Hid (oQ p=[]):=by
   have:p=[]:=bX d;rw[this];rfl
  have Y:((p.length:Int)==0)=true:=by rw[d];rfl
  clear d;go_wp2;go_ret;exact⟨_,rfl,by rw[f.out];exact QsAt.nil _,aG _ _⟩
 ·have Y:((p.length:Int)==0)=false:=by simpa using d
  obtain⟨l,k⟩:∃l,p.length-1=l:=⟨_,rfl⟩;have af:(p.length:Int)-1=(l:Int):=by omega
  have T:l<p.length:=by omega
  have ad:(0:Int)<=(l:Int):=by omega
  have ae:(l:Int)<(p.length:Int):=by omega
  have ag:IntKind.i64.wrap (l:Int)=(l:Int):=IntWalk.i64_in _ ⟨by omega,by omega⟩;have m:=L (fun e=>d (by rw[e];rfl));obtain⟨F,Z,D,V,G,s4,E,X,H,rfl,Q,I,R⟩:=hv.cell T;have f:Hid (aW aV (oA [] (1/cf p l) p)=oQ p):=by unfold Hid oQ;rw[k]
  rw[k] at m;have o:RL K (cf p l):=lV t (iG i) l;have j:RL K 1:=bU (az3 (n:=1) (by decide)) i;have C:∀W,Calls prog 47 #[.int .i64 1] W (eS W 1):=fun W=>r7 1 W (by decide);have z:=fun W u v h g=>vD 1 (cf p l) u v W h g K j o (by omega) m;have B:=fun W u v x h g J=>KX [] (1/cf p l) p u v x W h g J K (K+K) (fun q U=>by cases U) t (xS j o) i (by simp) S (by omega);rw[f.out] at B;unfold eS at C z;clear m o d k j;generalize cf p l=x at *;generalize 1/x=y at *;go_wp2_with fail
  go_region_held3 (fun w'=>R4 w' F (l*4) (.bool Z) (.slice D V G) (.bool s4) (.slice E X H))
   (with_reducible exact I.up Q)
   (first
    |(go_at_call 47;refine(C _).mono ?_;rintro e5 w5 ⟨v5,rfl,r,N⟩;obtain⟨s5,A5,k5,c5,s6,A6,k6,c6,rfl⟩:=r.form;have:=St.mk N)
    |(go_at_call 97;refine(z _ _ _ r.up R.up).mono ?_;rintro e7 w7 ⟨v7,rfl,s,O⟩;obtain⟨s7,A7,k7,c7,s8,A8,k8,c8,rfl⟩:=s.form;have:=St.mk O)
    |(go_at_call 107;refine(B _ _ _ _ (QsAt.nil _) s.up hv.up).mono ?_;rintro e9 w9 ⟨v9,rfl,M,P⟩;have:=St.mk P))
  all_goals (
   go_wp2;go_ret;exact⟨_,rfl,M,Up.out (a:=w) (b:=w9)⟩)
def ZI(m:List Int->List Int->List Int->Prop)(z:Nat)(aj:∀{a g:List Int},m a [] g->aN a->cE a=cE g)(am:∀{A c Q R:List Rat} {a b g:List Int},Prp A a->Prp c b->b≠[]->m a b g->DivQ A c Q R->∃d,Prp R d∧m b d g∧(∀n∈d,nl n.natAbs<=z)∧d.length<b.length)(A c:List Rat)(a b g:List Int)(va vb:Value)(w:World)(l:QsAt w va A)(i:QsAt w vb c)(Y:Prp A a)(Z:Prp c b)(T:m a b g)(K:Nat)(G:∀q∈A,RL K q)(H:∀q∈c,RL K q)(ad:z<=K)(an:1<=z)(x:A.length<=8)(y:c.length<=8)(hK:K<=10000000):
  Calls prog 108 #[va,vb] w (lT w (cE g)):=by
 go_enter func108,ntmps108;go_wp2_with fail;go_loopg [0,1] c.length (fun k v0 v1 wr=>∃(A c:List Rat) (a b:List Int),Hid (c.length=k)∧QsAt wr v0 A∧QsAt wr v1 c∧Hid (Prp A a∧Prp c b∧m a b g)∧Hid ((∀q∈A,RL K q)∧∀q∈c,RL K q)∧A.length<=8∧c.length<=8∧Below w.heap.size w wr)
 case atStart=>exact⟨A,c,a,b,rfl,l,i,⟨Y,Z,T⟩,⟨G,H⟩,x,y,aG _ _⟩
 case round=>
  clear l i Y Z T G H x y;clear A c a b;obtain⟨A,c,a,b,s,l,i,f,p,x,y,j⟩:=hrel;generalize wr=wx at *;obtain⟨A1,c1,rfl,aq⟩:=l.form;obtain⟨A2,c2,rfl,ar⟩:=i.form;cases gk with
  |zero=>
   have q0:¬(0:Int)<(c.length:Int):=by have:=s.out;omega
   have B:Hid (oQ A=cE g):=by
    have ah:b=[]:=bX (by rw[<-f.out.2.1.1];exact s.out);have t:=f.out.2.2;rw[ah] at t;exact(qT f.out.1).trans (aj t f.out.1.2.1)
   have r:=fun W h=>DB A (.slice A1 A.length c1) W h K p.out.1 (by omega) (fun e=>f.out.1.ne (fun C=>e (bX (by rw[f.out.1.1,C];rfl)))) (by omega) (by omega);rw[B.out] at r;go_wp2_with fail;refine(r _ l).mono ?_;rintro e3 w3 ⟨v3,rfl,t,ag⟩;go_wp2;go_ret;exact⟨_,rfl,t,aC j ag⟩
  |succ k=>
   have q0:(0:Int)<(c.length:Int):=by have:=s.out;omega
   have ae:1<=c.length:=by omega
   have M:b≠[]:=fun e=>by
    have h:=f.out.2.1.1;rw[e] at h;have D:c.length=0:=h;omega
   have ai:=JY K A.length;have V:2^A.length<=2^8:=cO (by decide) x;have al:=Nat.mul_le_mul V (show 3*K+1<=30000001 by omega);have P:=fun W u v h D=>L3 A c u v W h D K p.out.1 p.out.2 (by omega) (by omega) ae (f.out.2.1.ne M) 16000000000 (by omega) (by decide);have r:=fun (R:List Rat) W v h hR hl h0=>DB R v W h 16000000000 hR (by decide) h0 hl (by decide);clear ai V al;go_wp2_with fail;refine(P _ _ _ l i).mono ?_;rintro e4 w4 ⟨v4,u4,Q,R,rfl,h4,X,F,af,J,ao,ap,N⟩;obtain⟨d,o,L,U,S⟩:=am f.out.1 f.out.2.1 M f.out.2.2 F;have I:R≠[]->cf R (R.length-1)≠0:=fun e=>o.ne (fun C=>e (bX (by rw[o.1,C];rfl)));replace i:=i.be N;replace j:=aC j N;have B:=aB (qT o);have HN:Hid (Prp c b∧Prp (cE d) d∧m b d g):=⟨f.out.2.1,uD o.2.1,L⟩;have ak:(cE d).length=d.length:=(uD o.2.1).1;have au:d.length<c.length:=by rw[f.out.2.1.1];exact S
   have ac:Hid ((∀q∈c,RL K q)∧∀q∈cE d,RL K q):=⟨p.out.2,CU (fun n hn=>aH (U n hn) ad) (by omega)⟩;clear P F af l o L U S f p h4;go_wp2_with fail;refine(r R _ _ X J (by omega) I).mono ?_;rintro e5 w5 ⟨v5,rfl,E,O⟩;rw[B.out] at E;replace i:=i.be O;replace j:=aC j O;clear r X J I;go_wp2;go_roundg d.length
   case rel=>exact⟨c,cE d,b,d,by unfold Hid;exact ak,i,E,HN,ac,y,by omega,j⟩
   case measure=>have:=s.out;omega
def ZJ(c:Nat)(A d:List Rat)(a b g:List Int)(i j:Value)(w:World)(e:QsAt w i A)(f:QsAt w j d)(v:Prp A a)(x:Prp d b)(T:Trc c a b g)(K:Nat)(o:∀q∈A,RL K q)(p:∀q∈d,RL K q)(k:c<=K)(l:1<=c)(s:A.length<=8)(u:d.length<=8)(n:K<=10000000):
  Calls prog 108 #[i,j] w (lT w (cE g)):=
 ZI (Trc c) c (fun h t=>h.done t) (fun e f r h m=>XN e f r h m) A d a b g i j w e f v x T K o p k l s u n
def ZN(w:World):Calls prog 96 #[.int .i64 (-1)] w (nN w (-1)):=by
 have z:IntKind.u64.wrap (-1)=18446744073709551615:=by decide
 have A:IntKind.u64.wrap (-18446744073709551615)=1:=by decide
 have b:(1:Int)%4294967296=1:=by decide
 have C:(1:Int)/4294967296=0:=by decide
 obtain⟨W,h,a,R⟩:=bI w [.bool false,.slice none 0 0] 60;have c:=R.g2;go_enter func96,ntmps96;go_wp2_with fail;(try rw[h]);clear h;obtain⟨s,g,j,B⟩:=bI W [.int .u32 1,.int .u32 0] 179;rw[g];clear g;have l:=oW [1,0] W.heap.size 1 2 s B (fun d p=>by simp at p;unfold aD;omega) (by simp[nv]) aE (by simp);simp only[eG,List.length_nil] at l;refine l.mono ?_;rintro u E ⟨v,rfl,r,rfl⟩;replace R:=R.be j;replace c:=R.g2;replace a:=aC a j;go_wp2_with fail;refine(pU true v 1 (-1) _ r (aH (cJ (m:=1) (by unfold BN;omega)) (by decide)) rfl (by simp)).mono ?_;rintro x F ⟨D,rfl,b,k⟩;obtain⟨o,e,n,f,rfl⟩:=b.form;replace R:=R.be k;replace c:=R.g2;replace a:=aC a k;go_wp2_with fail;obtain⟨t,i,R,a,q,y⟩:=R.mut2 a (by omega) (.bool o) (.slice e n f) rfl rfl;replace b:=b.ke q;rw[i];clear i;replace c:=R.k2;exact aM (v:= .agg #[.bool o,.slice e n f]) (by simp[results,results96,go_sem,R.k2]) rfl ⟨_,rfl,b,a⟩
def ZO(w:World):Calls prog 47 #[.int .i64 (-1)] w (eS w (-1)):=by
 have d:Hid ((-1:Rat).num= -1∧bS (-1:Rat)=0):=⟨rfl,fV.2 rfl⟩;obtain⟨W,g,a,R⟩:=bI w [.bool false,.slice none 0 0,.bool false,.slice none 0 0] 62;have f:=R.g4;go_enter func47,ntmps47;go_wp2_with fail;(try rw[g]);clear g;refine(ZN _).mono ?_;rintro n q ⟨p,rfl,b,i⟩;obtain⟨k,c,j,e,rfl⟩:=b.form;replace R:=R.be i;replace f:=R.g4;replace a:=aC a i;go_wp2_with fail;obtain⟨m,h,R,a,l,o⟩:=R.mut4 a (by omega) (.bool k) (.slice c j e) (.bool false) (.slice none 0 0) rfl rfl;replace b:=b.ke l;rw[h];clear h;replace f:=R.k4;exact aM (v:= .agg #[.bool k,.slice c j e,.bool false,.slice none 0 0]) (by simp[results,results47,go_sem,R.k4]) rfl ⟨_,rfl,NQ.of b (NI.zero _) d.out.1 d.out.2,a⟩
def ChT.last{B:Nat}{a:List Int}{b c:Rat}{C:List (List Rat)}(h:ChT B a b [] c C):C=[]:=by
 cases h with
 |done=>rfl
 |step d=>exact absurd rfl d
def ChT.split{B:Nat}{a b:List Int}{g c:Rat}{C:List (List Rat)}(h:ChT B a g b c C)(d:b≠[]):∃r' f C2,C=aT c b :: C2∧ChT B b c r' f C2∧r'.length<b.length∧(∀Q R,DivQ (aT g a) (aT c b) Q R->aW aV (oA [] (-1) R)=aT f r')∧cf (aT c b) (b.length-1)≠0:=by
 cases h with
 |done=>exact absurd rfl d
 |step d h e m l k j n hn t=>
  refine⟨_,_,_,rfl,t,by rw[l];exact h.r_lt,fun Q R i=>CS d h e m k j i,?_⟩;rw[dS];exact m6 e.2.1 (gJ ((fT d).1 e.2.2))
def ChT.trim{B:Nat}{a b:List Int}{e c:Rat}{C:List (List Rat)}(h:ChT B a e b c C):aN (aT c b):=by
 cases h with
 |done=>exact fun x f=>by simp[aT] at f
 |step i h d m l k j g hn t=>exact CQ (.inl d.2.1) d.2.2
def ChT.nums{B K:Nat}{a b:List Int}{d c:Rat}{C:List (List Rat)}(h:ChT B a d b c C)(e:∀X∈C,∀q∈X,RL K q):∀q∈aT c b,RL K q:=by
 cases h with
 |done=>exact fun q f=>by simp[aT] at f
 |step j h g n m l k i hn t=>exact e _ iC
def MJ{K:Nat}{R S:List Rat}(b:1<=K)(h:aW aV (oA [] (-1) R)=S)(c:∀q∈S,RL K q):∀q∈R,RL K q:=fun q d=>by
 obtain⟨i,hi⟩:=List.mem_iff_getElem?.1 d;have e:cf S i= -q:=by
  rw[<-h,iS,xW,eR];have:cf R i=q:=by unfold cf;rw[eE,hi];rfl
  rw[this];grind
 have a:=lV c (iG b) i;rw[e] at a;exact⟨by have:=a.1;rwa [Rat.neg_num,Int.natAbs_neg] at this,a.2⟩
def MK:RL 1 (-1:Rat):=⟨by rw[Rat.neg_num,Int.natAbs_neg];exact rY.1,rY.2⟩
def vC(w:World)(L:List (List Rat))(e:Ending)(w':World):Prop:=∃a,e= .returned a∧QQs w' w.heap.size 52 a L∧Below w.heap.size w w'
def QQs.one{w:World}{B:Nat}{A:Option Addr}{k c:Nat}{l:List Rat}(h:QsAt w (.slice A k c) l)(d:B<=w.heap.size):QQs (w.alloc (.cells #[.slice A k c] 52)) B 52 (.slice (some ⟨w.heap.size,0,none⟩) 1 1) [l]:=by
 refine⟨[.slice A k c],.inr ⟨w.heap.size,1,#[.slice A k c],rfl,d,heap_alloc_new w _,aE,by decide,rfl,rfl,fun u a=> ?_⟩,rfl,fun i u e a b=> ?_⟩
 ·exact⟨A,k,c,by simpa using a⟩
 ·cases i with
  |zero=>
   injection a with a;injection b with b;subst a b;exact h.be ((aG _ _).alloc aE _)
  |succ i=>simp at a
def E9(A:List Rat){B:Nat}{a b:List Int}{j c:Rat}{C:List (List Rat)}(D:ChT B a j b c C)(ea:aT j a=A)(eb:aT c b=fW A)(v:Value)(w:World)(hv:QsAt w v A)(K:Nat)(hK:∀X∈A :: C,∀q∈X,RL K q)(N:1<=K)(V:A.length<=7)(bz:K<=250000000):
  Calls prog 52 #[v] w (vC w (A :: C)):=by
 obtain⟨A0,c0,rfl,bp⟩:=hv.form;have S:=fun W h=>JF A (.slice A0 A.length c0) W h K (hK A iC) (by omega) N (by omega);have a6:aW aV (fW A)=aT c b:=by rw[<-eb];exact qB D.trim
 rw[a6] at S;have bu:b.length<=7:=by
  have:=congrArg List.length eb;rw[fX,qO] at this;omega
 have ac:Hid (A=aT j a∧ChT B a j b c C∧([]++[A])++C=A :: C):=⟨ea.symm,D,rfl⟩;have HK:=aB hK;have l:Below w.heap.size w (w.alloc (.cells #[.slice A0 A.length c0] 52)):=(aG _ _).alloc aE _;have d:=QQs.one hv aE;replace hv:=hv.be l;unfold lT at S;unfold vC;clear a6 eb ea D hK;go_enter func52,ntmps52;go_wp2_with fail;refine(S _ hv).mono ?_;rintro e1 w1 ⟨v1,rfl,ae,a4⟩;replace d:=QQs.be d a4;have f:=aC l a4;have bf:Hid (b.length=b.length):=rfl;have L:Hid ((aT c b).length=b.length):=fX c b;generalize a3:aT c b=Y at *;have aw:=aB a3;obtain⟨A1,c1,rfl,bq⟩:=ae.form;clear S l a3;go_wp2_with fail;go_loopg [3,4] b.length (fun k vo vn wr=>∃(X Y:List Rat) (a b:List Int) (j c:Rat) (C' g:List (List Rat)),Hid (b.length=k)∧QQs wr w.heap.size 52 vo (g++[X])∧QsAt wr vn Y∧Hid (X=aT j a∧Y=aT c b∧ChT B a j b c C'∧(g++[X])++C'=A :: C)∧Hid (Y.length=b.length)∧X.length<=7∧g.length+b.length<=7∧Below w.heap.size w wr)
 case atStart=>exact⟨A,Y,a,b,j,c,C,[],rfl,d,ae,⟨ac.out.1,aw.out.symm,ac.out.2⟩,L,V,by simp;omega,f⟩
 case round=>
  clear d ae f hv L ac aw V bu bp bq bf;obtain⟨X,Y,a,b,j,c,C',g,HL,d,E,HT,L,b2,bw,f⟩:=hrel;have am:=L.out;generalize wr=F at *;obtain⟨r,ah⟩:∃r,g++[X]=r:=⟨_,rfl⟩;have t:=aB ah;rw[ah] at d;clear ah;obtain⟨Af,bx,rfl,b0⟩:=d.form;obtain⟨Ay,cy,rfl,b1⟩:=E.form;by_cases h0:b.length=0
  ·have q0:¬(0:Int)<(Y.length:Int):=by omega
   have z:r=A :: C:=by
    rw[<-t.out];have O:b=[]:=bX h0;obtain⟨-, -,h3,I⟩:=HT.out;rw[O] at h3;rw[h3.last,fH] at I;exact I
   have HE:=aB z;clear z h0 am;go_wp2;go_ret;refine⟨_,rfl,?_,f⟩;rw[<-HE.out];exact d
  ·have q0:(0:Int)<(Y.length:Int):=by omega
   have O:b≠[]:=fun e=>h0 (by rw[e];rfl);obtain⟨eX,y,D,z⟩:=HT.out;obtain⟨i,n,C2,rfl,ai,b7,T,aj⟩:=D.split O;rw[<-eX,<-y] at T;rw[<-y,<-am] at aj;have kC:∀Z∈(g++[X])++aT c b :: C2,∀q∈Z,RL K q:=by rw[z];exact HK.out
   have kX:∀q∈X,RL K q:=kC X (by simp);have kY:∀q∈Y,RL K q:=kC Y (by rw[y];simp);have kN:=ai.nums (fun Z hZ=>kC Z (by simp[hZ]));have bs:=JY K (X.length-Y.length+1);have o:2^(X.length-Y.length+1)<=2^7:=cO (by decide) (by omega);have bv:=Nat.mul_le_mul o (show 3*K+1<=750000001 by omega);have a7:=fun W u v h H=>L2 X Y u v W h H K kX kY N (by omega) (by omega) aj 200000000000 (by omega) (fun _=>by omega) (by decide);have a9:=fun R W u v x h H ad (hR:∀q∈R,RL K q) V=>KX [] (-1) R u v x W h H ad K 1 (fun q hq=>by cases hq) hR MK N (by simp) V (by omega);have au:Hid (∀Q R,DivQ X Y Q R->aW aV (oA [] (-1) R)=aT n i∧(∀q∈R,RL K q)):=fun Q R hD=>⟨T Q R hD,MJ N (T Q R hD) kN⟩;have G:Hid (Y=aT c b∧ChT B b c i n C2∧((g++[X])++[Y])++C2=A :: C):=⟨y,ai,by rw[<-z,y];simp⟩;have bm:Y.length<=7:=by omega
   clear am bs o bv eX y D z ai T aj kC kX kY kN HT O;have l:Below F.heap.size F (F.alloc (.cells #[.slice Ay Y.length cy] 52)):=(aG _ _).alloc aE _;have X1:=Bx.new F [.slice Ay Y.length cy] 52;replace E:=E.be l;replace d:=QQs.be d l;have b9:w.heap.size<=F.heap.size:=f.size;replace f:=aC f l;have ax:=X1.cell 0 rfl;obtain⟨bc,o,ap,bb⟩:=id d;have aq:bc.length=g.length+1:=by rw[ap,<-t.out,bE];rfl
   go_wp2_with (at_builtin;refine K4 rfl rfl 52 24 underlying101 ML w.heap.size _ bc rfl o F.heap.size (.slice Ay Y.length cy) rfl ax ⟨_,_,_,rfl⟩ (by rw[aq];omega) (by rw[aq];unfold maxLen;omega) f.size ?_;intro v8 w8 a8 bt U);have p:=QQs.push o ap bb E a8 U;have J:=E.grown o (by decide) U;have s:=K5 f U o aE;obtain⟨A8,c8,rfl,br⟩:=p.form;have az:(r++[Y])[g.length]? =some X:=by rw[<-t.out];simp
   have af:(r++[Y]).length=g.length+2:=by rw[<-t.out];simp
   obtain⟨b8,u8,rfl,bo,a5,ao⟩:=p.at_ az;clear az d E l X1 ax a8 bt U o ap bb aq f;rw[t.out] at G;obtain⟨M,ag⟩:∃M,r++[Y]=M:=⟨_,rfl⟩;have ar:=aB ag;rw[ag] at p af G br⊢;clear ag;obtain⟨m,hm⟩:∃m,g.length=m:=⟨_,rfl⟩;have HM:=aB hm;rw[hm] at af a5 bw;clear hm;have b3:(M.length:Int)-2=(m:Int):=by omega
   have b4:(0:Int)<=(m:Int):=by omega
   have b5:(m:Int)<(M.length:Int):=by omega
   have b6:IntKind.i64.wrap (m:Int)=(m:Int):=IntWalk.i64_in _ ⟨by omega,by omega⟩;obtain⟨Au,cu,rfl, -⟩:=ao.form;clear af;go_wp2_with fail;rw[run_len_slice (P:=prog) _ 101 3 _ _ _ (by simp[go_sem])];go_wp2_with fail;refine(a7 _ _ _ ao J).mono ?_;rintro e4 w4 ⟨v4,u4,Q,R,rfl,I,i4,ay,bh,bj,bi,bk,ak⟩;obtain⟨a0,a1⟩:=au.out Q R ay;have an:=fun W u v x h H ad=>a9 R W u v x h H ad a1 (by omega);rw[a0] at an;have ba:=fun W=>ZO W;unfold lT at an;unfold eS at ba;replace p:=QQs.be p ak;replace J:=J.be ak;replace s:=aC s ak;have bg:Hid ((aT n i).length=i.length):=fX n i;obtain⟨A4,c4,rfl, -⟩:=I.form;obtain⟨A5,c5,rfl, -⟩:=i4.form;clear a7 a9 au a0 a1 ay bh bj bi bk I ao a5 bo;have av:Hid (aT n i=aT n i):=rfl;generalize a2:aT n i=Y2 at *;replace av:=aB a2.symm;clear a2;go_wp2_with fail;refine(ba _).mono ?_;rintro e5 w5 ⟨v5,rfl,h5,al⟩;obtain⟨s5,B5,k5,d5,s6,B6,k6,d6,rfl⟩:=h5.form;go_wp2_with fail;refine(an _ _ _ _ (QsAt.nil _) h5 (i4.be al)).mono ?_;rintro e6 w6 ⟨v6,rfl,h6,bn⟩;have hB:=aC al bn;replace p:=QQs.be p hB;replace J:=J.be hB;replace s:=aC s hB;go_wp2;go_roundg i.length
   case rel=>exact⟨Y,Y2,b,i,c,n,C2,r,rfl,by rw[ar.out];exact p,h6,⟨G.out.1,av.out,G.out.2.1,by rw[ar.out];exact G.out.2.2⟩,bg,bm,by have:=HM.out;have:=congrArg List.length t.out;simp at this;omega,s⟩
   case measure=>have:=HL.out;omega
def Bx.put5n{w W:World}{B b:Nat}{t:TypeId}{j k l m n:Value}(h:Bx W b [j,k,l,m,n] t)(A:Below B w W)(a:B<=b)(d e f g i:Value)(hn:(cS (some j)&&(cS (some k)&&(cS (some l)&&(cS (some m)&&cS (some n)))))=true):
  ∃c,((((W.setCell ⟨b,0,none⟩ d).setCell ⟨b,1,none⟩ e).setCell ⟨b,2,none⟩ f).setCell ⟨b,3,none⟩ g).setCell ⟨b,4,none⟩ i=c∧Bx c b [d,e,f,g,i] t∧Below B w c∧KM W c:=by
 simp only[Bool.and_eq_true] at hn;obtain⟨H,rfl,u,o,C,M⟩:=h.mut1 A a 0 d hn.1;obtain⟨I,rfl,v,p,D,N⟩:=u.mut1 o a 1 e hn.2.1;obtain⟨J,rfl,x,q,E,O⟩:=v.mut1 p a 2 f hn.2.2.1;obtain⟨K,rfl,y,r,F,P⟩:=x.mut1 q a 3 g hn.2.2.2.1;obtain⟨L,rfl,z,s,G,Q⟩:=y.mut1 r a 4 i hn.2.2.2.2;exact⟨_,rfl,z,s,(((C.trans D).trans E).trans F).trans G⟩
def REnd(w:World)(v:Value)(f:Bool)(x:Rat):Prop:=∃h a e c i b g d,v= .agg #[.bool f,.bool h,.slice a e c,.bool i,.slice b g d]∧NQ w (.agg #[.bool h,.slice a e c,.bool i,.slice b g d]) x
def REnd.be{w w':World}{v:Value}{f:Bool}{x:Rat}(h:REnd w v f x)(g:Below w.heap.size w w'):REnd w' v f x:=by
 obtain⟨k,a,i,c,l,b,j,d,e,h⟩:=h;exact⟨k,a,i,c,l,b,j,d,e,h.be g⟩
def REnd.up{a b:World}[u:Up a b]{v:Value}{f:Bool}{x:Rat}(h:REnd a v f x):REnd b v f x:=h.be u.out
def vB(x:Rat)(v:Value)(w:World)(hv:NQ w v x):Calls prog 64 #[v] w (fun e w'=>∃l,e= .returned l∧REnd w' l false x∧Below w.heap.size w w'):=by
 obtain⟨h,a,f,c,i,b,g,d,rfl⟩:=hv.form;obtain⟨W,j,k,X,R⟩:=eL w [.bool h,.slice a f c,.bool i,.slice b g d] 62 [.bool false,.bool false,.slice none 0 0,.bool false,.slice none 0 0] 118;have r:=aa X.g4 R.g5;go_enter func64,ntmps64;go_wp2_with fail;(try rw[j]);clear j;obtain⟨q,n,m,o,p⟩:=R.put5n k (Nat.le_succ _) (.bool false) (.bool h) (.slice a f c) (.bool i) (.slice b g d) rfl;rw[n];exact aM (v:= .agg #[.bool false,.bool h,.slice a f c,.bool i,.slice b g d]) (by simp[results,results64,go_sem,m.k5]) rfl ⟨_,rfl,⟨_,_,_,_,_,_,_,_,rfl,(hv.be k).ke p⟩,o⟩
def yS(x y:Rat)(l m:Value)(w:World)(g:NQ w l x)(i:NQ w m y)(K:Nat)(j:RL K x)(k:RL K y)(C:2*K+1<=549755813888):Calls prog 49 #[l,m] w (eO w (x-y).num.sign):=by
 obtain⟨I,n,E,r,J,o,F,s,rfl⟩:=g.form;obtain⟨L,p,G,t,M,q,H,z,rfl⟩:=i.form;have e:=fun W u v h A=>EC x y u v W h A K j k C;have Q:=(JM j k).1;have f:=fun W v h=>oC (x-y) v W h (by omega);unfold eS at e;unfold eO at f;unfold eO;generalize x-y=d at *;obtain⟨W,b,a,X,Y⟩:=eL w [.bool I,.slice n E r,.bool J,.slice o F s] 62 [.bool L,.slice p G t,.bool M,.slice q H z] 62;have N:=aa X.g4 Y.g4;go_enter func49,ntmps49;go_wp2_with fail;(try rw[b]);clear b;refine(e _ _ _ (g.be a) (i.be a)).mono ?_;rintro O S ⟨R,rfl,B,c⟩;go_wp2_with fail;refine(f _ _ B).mono ?_;rintro P T ⟨rfl,D⟩;go_wp2;go_ret;exact⟨rfl,a.trans ((aC c D).mono a.size)⟩
def MI{A:List Rat}{w:List Int}(h:Prp A w):Prp (fW A) (aS (bB w))∧aW aV (fW A)=fW A:=by
 obtain⟨c,a,rfl⟩:=h.eq_smul
 have e:fW (aT c w)=aT c (bB w):=oR (by rw[qO,fX,fX,lZ]) (fun i=>by
  rw[tV,dS,dS,sB,eJ,Rat.mul_assoc];congr 2)
 have p:=jY a (lE h.2.1);rw[e];exact⟨nM p,qB p.trim⟩
def E8(A:List Rat)(k s:List Int)(v:Value)(w:World)(hv:QsAt w v A)(b:Prp A k)(i:Sqp 24057 k s)(m:∀q∈A,RL 1 q)(y:A.length<=7)(E:∀n∈k,nl n.natAbs<=9):
  Calls prog 53 #[v] w (lT w (cE s)):=by
 obtain⟨o,p,rfl,al⟩:=hv.form;obtain⟨F,J⟩:=MI b;obtain⟨g,t,j,H,pg,ai,P⟩:=i.out;have V:=gU (pL (K:=9) E (by have:=b.1;omega));obtain⟨-,Y,lg⟩:=y5 t (by decide) b.2.1 F.2.1 (fun n hn=>aH (E n hn) (by decide)) (fun n hn=>aH (V n hn) (by decide));have x:=fun W h=>JF A (.slice o A.length p) W h 1 m (by omega) (by decide) (by decide);rw[J] at x;have U:∀q∈fW A,RL 24057 q:=fun q B=>bU (JE m (by omega) (by decide) q B) (by decide);have lD:=qO A;have C:∀q∈A,RL 24057 q:=fun q B=>bU (m q B) (by decide);have O:=fun W u h r=>ZJ 24057 A (fW A) k (aS (bB k)) g (.slice o A.length p) u W h r b F (.inl t) 24057 C U aE (by decide) (by omega) (by omega) (by decide);have l:=uD H;have ah:(cE g).length=g.length:=l.1;have ag:=List.length_pos_iff.2 j;have X:2*kM 24057 7<=20000000:=by decide
 have af:=fun W u h r=>L3 A (cE g) (.slice o A.length p) u W h r 24057 C (CU Y (by decide)) (by decide) (by omega) (by omega) (l.ne j) 20000000 (aH (eV 2 (uF 24057 y)) X) (by decide);have HQ:Hid (∀Q R,DivQ A (cE g) Q R->oQ Q=cE s∧(Q≠[]->cf Q (Q.length-1)≠0)):=fun Q R hD=>by
  obtain⟨c,hc,e⟩:=b.eq_smul;obtain⟨f,hf,I⟩:=CP hc i.ts H j P;rw[<-e] at I;obtain⟨rfl, -⟩:=hD.unique I (l.ne j) (by omega);have Z:=jY hf i.ts;exact⟨qT Z,fun h=>Z.ne i.ne⟩
 have z:=fun (Q:List Rat) W u h d y h0=>DB Q u W h 20000000 d (by decide) h0 y (by decide);unfold lT at x O z;unfold lT;clear U C l ah ag X V lg F J t j H pg ai P Y lD m E i b;generalize fW A=D at *;generalize cE g=G at *;generalize cE s=S at *;go_enter func53,ntmps53;go_wp2_with fail;refine(x _ hv).mono ?_;rintro e1 w1 ⟨v1,rfl,h1,a⟩;replace hv:=hv.be a;go_wp2_with fail;refine(O _ _ hv h1).mono ?_;rintro e2 w2 ⟨v2,rfl,h2,N⟩;replace hv:=hv.be N;replace a:=aC a N;go_wp2_with fail;refine(af _ _ hv h2).mono ?_;rintro e3 w3 ⟨v3,u3,Q,R,rfl,h3,i3,L,M,ac,aj,ak,ad⟩;replace a:=aC a ad;have d:=HQ.out Q R L;have T:=fun W u h=>z Q W u h M (by omega) d.2;rw[d.1] at T;clear d z M ac L;go_wp2_with fail;refine(T _ _ h3).mono ?_;rintro e4 w4 ⟨v4,rfl,h4,ae⟩;go_wp2;go_ret;exact⟨_,rfl,h4,aC a ae⟩
def eI(f b:Bool):Int:=if f=true then (if b=true then -1 else 1) else 0
def MH(A:List Rat)(i:Int)(x:Rat): -1<=eT A i x∧eT A i x<=1:=by
 unfold eT;split
 ·exact qU _
 ·split
  ·have:=qU (cf A (A.length-1)).num;omega
  ·exact qU _
def E7(c:List (List Rat))(B:Nat)(f bl:Bool)(x:Rat)(v u:Value)(w:World)(hv:QQs w B 52 v c)(hx:REnd w u f x)(ba:c.length<=1024)(K:Nat)(F:∀A∈c,A≠[]∧A.length<=8∧∀q∈A,RL K q)(kx:RL K x)(h1:1<=K)(az:K<=1100000000):
  Calls prog 103 #[v,u,.bool bl] w (eO w (aY 0 (c.map (fun A=>eT A (eI f bl) x)):Nat)):=by
 obtain⟨s1,N,k1,Q,s2,O,k2,R,rfl,hx⟩:=hx;obtain⟨A0,c0,rfl,a3⟩:=hv.form;unfold eO;obtain⟨V,Y⟩:∃V,aY 0 (c.map (fun A=>eT A (eI f bl) x))=V:=⟨_,rfl⟩;rw[Y];have HV:Hid (0+aY 0 ((c.drop 0).map (fun A=>eT A (eI f bl) x))=V):=by unfold Hid;rw[List.drop_zero,bA];exact Y
 clear Y
 have af:=fun p W u h T (G:p∈c)=>CD p x u (.agg #[.bool s1,.slice N k1 Q,.bool s2,.slice O k2 R]) W h T K (F p G).2.2 kx (by have:=(F p G).2.1;omega) (by
  have:=dK (2*K+1) (F p G).2.1;omega)
 have ap:=fun p (G:p∈c)=>CJ (F p G).2.2 kx;unfold eS at af;obtain⟨W,eW,e,X⟩:=bI w [.bool f,.bool s1,.slice N k1 Q,.bool s2,.slice O k2 R] 118;have cM:=X.g5;go_enter func103,ntmps103;go_wp2_with fail;(try rw[eW]);clear eW;go_loopg [7,8,9] c.length (fun k vb vc vi wr=>∃(j C:Nat) (b:Int),Hid (j+k=c.length)∧vc= .int .i64 C∧vb= .int .i64 b∧vi= .int .i64 j∧C<=j∧ -1<=b∧b<=1∧Hid (C+aY b ((c.drop j).map (fun A=>eT A (eI f bl) x))=V)∧Bx wr w.heap.size [.bool f,.bool s1,.slice N k1 Q,.bool s2,.slice O k2 R] 118∧Below w.heap.size w wr)
 case atStart=>exact⟨0,0,0,by unfold Hid;omega,rfl,rfl,rfl,aE,by decide,by decide,HV,X,e⟩
 case round=>
  clear HV X e;obtain⟨j,C,b,n,rfl,rfl,rfl,hC,am,an,P,X,e⟩:=hrel;generalize wr=M at *;have a5:(0:Int)<=(j:Int):=by omega
  cases gk with
  |zero=>
   have hj:j=c.length:=n.out;have HC:Hid (C=V):=by
    have:=P.out;rw[hj,List.drop_length] at this;exact this
   subst hj;go_wp2;go_ret;exact⟨by rw[HC.out];rfl,e⟩
  |succ k=>
   have aq:j<c.length:=by have:=n.out;omega
   have a6:(j:Int)<(c.length:Int):=by omega
   obtain⟨a,t⟩:∃a,c[j]? =some a:=⟨_,aR aq⟩;have s:=dG t;obtain⟨bb,u,rfl,ah,hu,E⟩:=(QQs.be hv e).at_ t;obtain⟨Au,cu,rfl,a4⟩:=E.form;have aj:aY b ((c.drop j).map (fun A=>eT A (eI f bl) x))=if eT a (eI f bl) x=0 then aY b ((c.drop (j+1)).map (fun A=>eT A (eI f bl) x)) else (if b≠0∧eT a (eI f bl) x≠b then 1 else 0)+aY (eT a (eI f bl) x) ((c.drop (j+1)).map (fun A=>eT A (eI f bl) x)):=KD (fun A=>eT A (eI f bl) x) t b;have m:=MH a (eI f bl) x;have d:=P.out;rw[aj] at d;obtain⟨Z,ak,ac⟩:=F a s;have cX:=X.k5;have a1:=e.size;clear aj P;obtain⟨S,U⟩:∃S,eT a (eI f bl) x=S:=⟨_,rfl⟩;rw[U] at d m;have z:=aB U;replace d:=aB d;clear U;go_upto_if 18 with fail;go_cut [10] (fun ay wx=>ay= .int .i64 S∧Below M.heap.size M wx)
   case first=>
    have ai:=List.length_pos_iff.2 Z;obtain⟨l,ae⟩:∃l,a.length-1=l:=⟨_,rfl⟩;have a9:(a.length:Int)-1=(l:Int):=by omega
    have av:l<a.length:=by omega
    have a7:(0:Int)<=(l:Int):=by omega
    have a8:(l:Int)<(a.length:Int):=by omega
    have bg:IntKind.i64.wrap (l:Int)=(l:Int):=IntWalk.i64_in _ ⟨by omega,by omega⟩;cases f with
    |true=>
     obtain⟨b2,s3,A3,k3,c3,s4,A4,k4,c4,rfl,a2,g0,hi⟩:=E.cell av;have aw:=(lV ac (iG h1) l).1;have H:=fun W v h=>oC (cf a l) v W h (by omega);have i:Hid ((if eI true bl<0∧a.length%2=0 then -(cf a l).num.sign else (cf a l).num.sign)=S):=by
      unfold Hid;rw[<-z.out];unfold eT;have he:eI true bl≠0:=by cases bl<;>decide
      rw[if_neg he,ae]
     have a0:=qU (cf a l).num;unfold eO at H;clear ae ai aw z E Z ac s t;generalize (cf a l).num.sign=L at *;have bf:IntKind.i64.wrap (-L)= -L:=IntWalk.i64_in _ ⟨by omega,by omega⟩;go_wp2_with fail
     go_region_with (first
      |(go_at_call 61;refine(H _ _ hi.up).mono ?_;rintro e5 w5 ⟨rfl,ad⟩;have:=St.mk ad))
     all_goals (
      have o:=Up.out (a:=M) (b:=w5);have bc:=(o.cell (p:=⟨bb,j,none⟩) ah).trans hu;cases bl with
      |false=>
       rw[show eI true false=1 from rfl,if_neg (fun h=>absurd h.1 (by decide))] at i;go_wp2;go_meet;exact⟨by rw[i.out],o⟩
      |true=>
       by_cases J:a.length%2=0
       ·have r0:(a.length:Int).tmod 2=0:=by rw[Int.tmod_eq_emod_of_nonneg (by omega)];omega
        rw[show eI true true= -1 from rfl,if_pos ⟨by decide,J⟩] at i;clear J;go_wp2;go_meet;exact⟨by rw[i.out],o⟩
       ·have r0:(a.length:Int).tmod 2=1:=by rw[Int.tmod_eq_emod_of_nonneg (by omega)];omega
        rw[if_neg (fun h=>J h.2)] at i;clear J;go_wp2;go_meet;exact⟨by rw[i.out],o⟩)
    |false=>
     have ar:=(ap a s).1;have al:=fun W u h T=>af a W u h T s;have au:=dK (2*K+1) ak;have H:=fun W v h=>oC (aI a x) v W h (by omega);have i:Hid ((aI a x).num.sign=S):=by
      unfold Hid;rw[<-z.out];rfl
     unfold eO at H;have ax:=hx.be e;clear au ar ae ai z Z ac s t;generalize aI a x=y at *;go_wp2_with fail
     go_region_with (first
      |(go_at_call 62;refine(al _ _ E.up ax.up).mono ?_;rintro e4 w4 ⟨v4,rfl,h4,ao⟩;have:=St.mk ao)
      |(go_at_call 61;refine(H _ _ h4.up).mono ?_;rintro e5 w5 ⟨rfl,ad⟩;have:=St.mk ad))
     all_goals (
      have o:=Up.out (a:=M) (b:=w5);go_wp2;go_meet;exact⟨by rw[i.out],o⟩)
   case rest=>
    obtain⟨rfl,ag⟩:=hcut;generalize wc=wz at *;replace X:=X.be ag;replace e:=aC e ag;clear cX hu E ah s t z;have g:=d.out;clear d;by_cases r:S=0
    ·subst r;rw[if_pos rfl] at g;have d:=aB g;clear g;go_wp2;go_roundg k
     case rel=>exact⟨j+1,C,b,by have:=n.out;unfold Hid;omega,rfl,rfl,by go_num,by omega,am,an,d.out,X,e⟩
     case measure=>omega
    ·rw[if_neg r] at g;have q0:(S != 0)=true:=by simpa using r
     by_cases D:b=0
     ·subst D;rw[if_neg (fun h=>h.1 rfl),bA] at g;have d:=aB g;clear g r;go_wp2;go_roundg k
      case rel=>exact⟨j+1,C,S,by have:=n.out;unfold Hid;omega,rfl,rfl,by go_num,by omega,m.1,m.2,d.out,X,e⟩
      case measure=>omega
     ·have q1:(b != 0)=true:=by simpa using D
      by_cases I:S=b
      ·subst I;rw[if_neg (fun h=>h.2 rfl),bA] at g;have d:=aB g;clear g r D;go_wp2;go_roundg k
       case rel=>exact⟨j+1,C,S,by have:=n.out;unfold Hid;omega,rfl,rfl,by go_num,by omega,m.1,m.2,d.out,X,e⟩
       case measure=>omega
      ·rw[if_pos ⟨D,I⟩] at g;have d:=aB g;have q2:(S != b)=true:=by simpa using I
       clear g r D I;go_wp2;go_roundg k
       case rel=>exact⟨j+1,C+1,S,by have:=n.out;unfold Hid;omega,by go_num,rfl,by go_num,by omega,m.1,m.2,by have:=d.out;unfold Hid;omega,X,e⟩
       case measure=>omega
def E5{n:Int}{K:Nat}(h:nl n.natAbs<=K)(a:1<=K):RL K (n:Rat):=⟨by rw[Rat.num_intCast];exact h,by rw[Rat.den_intCast];exact aH (cJ (m:=1) (by unfold BN;decide)) a⟩
def E6{w s:List Int}{c:List (List Int)}(h:kL w s c):∃(a b:List Int) (l o:Rat) (C:List (List Rat)),ChT 35080695 a l b o C∧aT l a=cE s∧aT o b=fW (cE s)∧(∀X∈cE s :: C,X≠[]∧X.length<=7∧∀q∈X,RL 250000000 q)∧C.length<=7∧∀i x j y,xT (cE s :: C) i x j y=fF s c i x j y:=by
 obtain⟨D,E,p, -, -⟩:=h;obtain⟨C,t,v⟩:=D.rat (by decide);have k:=p.nums;have M:=p.1;have r:=pL k (by omega);have H:=gU r;have u:RL 144363 (1/((cf s (s.length-1):Int):Rat)):=by
  have:=pM (n:=1) (d:=cf s (s.length-1)) (K:=144363) (aH (cJ (m:=1) (by unfold BN;decide)) (by decide)) (iU k _) (by decide);rwa [Rat.intCast_one] at this
 have G:RL 144364 ((bC (bB s):Int):Rat):=E5 (by rw[dD];exact az4 r) (by decide);have I:(aS (bB s)).length<=6:=by rw[dF,lZ];omega
 have F:=t.sizes (by decide) 300000 (bU u (by decide)) (bU (o6 u G) (by decide)) (fun n hn=>aH (H n hn) (by decide));have J:(cE s).length=s.length:=cH _;have N:=dK 35080695 I;refine⟨_,_,_,_,C,t,(pN s).symm,by rw[pN,CN],fun X f=> ?_,by have:=t.len;omega,fun i x j y=>Cn.count (B:=0) (w:=w) v i x j y⟩;rcases List.mem_cons.1 f with rfl|f
 ·exact⟨fun e=>E.ne (bX (by rw[<-J,e];rfl)),by omega,fun q g=>bU (CU k (by decide) q g) (by decide)⟩
 ·obtain⟨L,z,A⟩:=F X f;exact⟨z,by omega,fun q g=>bU (A q g) (by omega)⟩
def MG(A:List Rat)(E s:List Int)(c:List (List Int))(f g:Bool)(x y:Rat)(v u1 u2:Value)(w:World)(hv:QsAt w v A)(pA:Prp A E)(j:kL E s c)(kA:∀q∈A,RL 1 q)(hl:A.length<=7)(t:REnd w u1 f x)(D:REnd w u2 g y)(kx:RL 250000000 x)(ky:RL 250000000 y):
  Calls prog 63 #[v,u1,u2] w (eO w (fF s c (eI f true) x (eI g false) y)):=by
 obtain⟨A0,c0,rfl,aj⟩:=hv.form;have n:=fun W h=>E8 A E s (.slice A0 A.length c0) W h pA j.2.1 kA hl j.2.2.2.2;obtain⟨a,b,fa,fb,C,Z,T,U,e,ak,ac⟩:=E6 j;have o:=fun W v h=>E9 (cE s) Z T U v W h 250000000 (fun X i=>(e X i).2.2) (by decide) (e _ iC).2.1 aE;have ad:=ac (eI f true) x (eI g false) y;have r:=fun (p bl:Bool) (z:Rat) (kz:RL 250000000 z) B W v u h h'=>E7 (cE s :: C) B p bl z v u W h h' (by rw[eG];omega) 250000000 (fun X i=>⟨(e X i).1,by have:=(e X i).2.1;omega,(e X i).2.2⟩) kz (by decide) (by decide);have v1:=r f true x kx;have v2:=r g false y ky;have b1:=qR ((cE s :: C).map (fun A=>eT A (eI f true) x)) 0;have b2:=qR ((cE s :: C).map (fun A=>eT A (eI g false) y)) 0;rw[cH,eG] at b1 b2;rw[<-ad];unfold xT;unfold eO at v1 v2;unfold lT at n;unfold vC at o;unfold eO;obtain⟨s1,G,k1,N,s2,H,k2,O,rfl,t⟩:=t;obtain⟨s3,I,k3,P,s4,J,k4,Q,rfl,D⟩:=D;clear r ad ac e Z T U pA j kA kx ky;generalize aY 0 ((cE s :: C).map (fun A=>eT A (eI f true) x))=K at *;generalize aY 0 ((cE s :: C).map (fun A=>eT A (eI g false) y))=M at *;generalize cE s :: C=L at *;generalize cE s=S at *;have hw:IntKind.i64.wrap ((K:Int)-(M:Int))=(K:Int)-(M:Int):=IntWalk.i64_in _ ⟨by omega,by omega⟩;obtain⟨W,R,d,X,Y⟩:=eL w [.bool f,.bool s1,.slice G k1 N,.bool s2,.slice H k2 O] 118 [.bool g,.bool s3,.slice I k3 P,.bool s4,.slice J k4 Q] 118;have cM:=aa X.g5 Y.g5;go_enter func63,ntmps63;go_wp2_with fail;(try rw[R]);clear R;refine(n _ (hv.be d)).mono ?_;rintro e1 w1 ⟨al,rfl,V,l⟩;replace X:=X.be l;replace Y:=Y.be l;replace d:=aC d l;have cX:=X.k5;have cY:=Y.k5;go_wp2_with fail;refine(o _ _ V).mono ?_;rintro e2 w2 ⟨am,rfl,k,m⟩;replace X:=X.be m;replace Y:=Y.be m;replace d:=aC d m;obtain⟨AL,cL,rfl, -⟩:=k.form;replace cX:=X.k5;replace cY:=Y.k5;have af:REnd w2 (.agg #[.bool f,.bool s1,.slice G k1 N,.bool s2,.slice H k2 O]) f x:=⟨_,_,_,_,_,_,_,_,rfl,t.be d⟩;have ag:REnd w2 (.agg #[.bool g,.bool s3,.slice I k3 P,.bool s4,.slice J k4 Q]) g y:=⟨_,_,_,_,_,_,_,_,rfl,D.be d⟩;clear n o V;go_wp2_with fail
 go_region_with (first
  |(go_at_call 103;(first|(with_reducible refine(v1 _ _ _ _ (QQs.up k) af.up).mono ?_)|(with_reducible refine(v2 _ _ _ _ (QQs.up k) ag.up).mono ?_));rintro e5 F ⟨rfl,ae⟩;have:=St.mk ae;have ah:=(X.up (b:=F)).k5;have ai:=(Y.up (b:=F)).k5))
 all_goals (
  go_wp2;go_ret;exact⟨rfl,bJ (b:=F) d⟩)
def yA(w:World)(a:List (List UInt8))(e:Ending)(w':World):Prop:=∃v,e= .returned (.tuple #[v,.int .i64 (dM a)])∧QsAt w' v (oP a)∧Below w.heap.size w w'
def DC(a:List (List UInt8)):dM a=0∧vl a=true∧(oP a).length≠0∧oP a=aU a∨dM a=1∧vl a=false∧oP a=[]∨dM a=5∧vl a=true∧oP a=[]:=by
 have f:(aU a).length=a.length:=cH _;rcases uL a with ⟨c,b,d⟩|⟨c,b⟩|⟨c,b,d⟩
 ·exact .inl ⟨c,b,by rw[tW b,f];exact fun e=>d (bX e),tW b⟩
 ·exact .inr (.inl ⟨c,b,xO b⟩)
 ·exact .inr (.inr ⟨c,b,by rw[tW b,d];rfl⟩)
def L5(a:List (List UInt8))(v:Value)(w:World)(hv:StrsAt w v a)(e:a.length<=7)(g:∀l∈a,l.length<=6):Calls prog 18 #[v] w (yA w a):=by
 obtain⟨A,c,rfl,t⟩:=hv.form;have m:∀q∈aU a,RL 1 q:=pI (fun l e=>aH (g l e) (by decide));have f:=fun W h=>VQ a (.slice A a.length c) W h (by omega) (fun l e=>aH (g l e) (by decide)) (fun q s=>bU (m q s) (by decide));have r:=DC a;unfold qP at f;unfold yA;clear m g;generalize dM a=E at *;generalize oP a=Q at *;generalize vl a=V at *;rcases r with ⟨rfl,rfl,p, -⟩|⟨rfl,rfl,rfl⟩|⟨rfl,rfl,rfl⟩
 ·have u:((Q.length:Int)==0)=false:=by rw[beq_eq_false_iff_ne];omega
  clear p;go_enter func18,ntmps18;go_wp2_with fail;refine(f _ hv).mono ?_;rintro k o ⟨n,rfl,b,d⟩;obtain⟨i,j,rfl, -⟩:=b.form;go_wp2;go_ret2;exact⟨_,rfl,b,d⟩
 ·skip;go_enter func18,ntmps18;go_wp2_with fail;refine(f _ hv).mono ?_;rintro k o ⟨n,rfl,b,d⟩;obtain⟨i,j,rfl, -⟩:=b.form;go_wp2;go_ret2;exact⟨_,rfl,QsAt.nil _,d⟩
 ·skip;go_enter func18,ntmps18;go_wp2_with fail;refine(f _ hv).mono ?_;rintro k o ⟨n,rfl,b,d⟩;obtain⟨i,j,rfl, -⟩:=b.form;go_wp2;go_ret2;exact⟨_,rfl,QsAt.nil _,d⟩
def L4{A:List Rat}{K:Nat}(h:∀q∈A,RL K q)(a:1<=K):RL (4*K+1) (jF A):=by
 unfold jF;exact bU (wW (K:=K+K) (KN h (lV h (iG a) _) a _) (bU rY (by omega))) (by omega)
def ZP(x y:Rat):0<(x-y).num.sign↔y<x:=by
 rcases iY (x-y) with h|h|h
 ·rw[(fS _).2 h];exact⟨fun k=>absurd k (by decide),fun k=>by grind⟩
 ·rw[h];exact⟨fun k=>absurd k (by decide),fun k=>by grind⟩
 ·rw[(fS _).1 h];exact⟨fun _=>by grind,fun _=>by decide⟩
def ZQ(p:List Rat)(v:Value)(w:World)(hv:QsAt w v p)(ac:cf p (p.length-1)≠0)(K:Nat)(Z:∀q∈p,RL K q)(hl:p.length<=1024)(h1:1<=K)(a1:4*K+1<=549755813888):
  Calls prog 48 #[v] w (eS w (jF p)):=by
 obtain⟨A,c,rfl,hc⟩:=hv.form;have ba:1<=p.length:=by
  rcases iB p.length with h|h
  ·exact absurd (by rw[bX h];rfl) ac
  ·exact h
 obtain⟨m,hm⟩:∃m,p.length-1=m:=⟨_,rfl⟩;have aw:m<p.length:=by omega
 have a9:(p.length:Int)-1=(m:Int):=by omega
 have bb:IntKind.i64.wrap (m:Int)=(m:Int):=IntWalk.i64_in _ ⟨by omega,by omega⟩;have a7:(0:Int)<=(m:Int):=by omega
 have a8:(m:Int)<(p.length:Int):=by omega
 unfold jF;rw[hm] at ac⊢;have kl:RL K (cf p m):=lV Z (iG h1) m;have kb:=fun j=>KN Z kl h1 j;have ak:∀W,Calls prog 47 #[.int .i64 1] W (eS W 1):=fun W=>r7 1 W (by decide);have ag:=fun W u v h L=>sK (lF (cf p m) (p.take m)) 1 u v W h L (K+K) (kb m) (bU rY (by omega)) (by omega);unfold eS at ak ag;unfold eS;generalize lF (cf p m) (p.take m)+1=y at *;obtain⟨W,eW,e,R,G⟩:=eL w [.bool false,.slice none 0 0,.bool false,.slice none 0 0] 62 [.bool false,.slice none 0 0,.bool false,.slice none 0 0] 62;have cM:=aa R.g4 G.g4;go_enter func48,ntmps48;go_wp2_with fail;(try rw[eW]);clear eW;obtain⟨W1,an,G,e,o,g⟩:=G.mut4 e (by omega) (.bool false) (.slice none 0 0) (.bool false) (.slice none 0 0) rfl rfl;replace R:=g R (by omega);rw[an];clear an;replace cM:=aa R.g4 G.g4;have HK:=aB Z;have aq:=aB ac;clear Z ac hm;go_loopg [4] m (fun k i wr=>∃j:Nat,Hid (j+k=m)∧i= .int .i64 j∧Bx wr w.heap.size [.bool false,.slice none 0 0,.bool false,.slice none 0 0] 62∧QVar wr (w.heap.size+1) (lF (cf p m) (p.take j))∧Below w.heap.size w wr)
 case atStart=>exact⟨0,by unfold Hid;omega,rfl,R,⟨_,_,_,_,_,_,_,_,G,NQ.zero _⟩,e⟩
 case round=>
  clear R G e;obtain⟨j,Y,rfl,R,⟨s3,A3,k3,c3,s4,A4,k4,c4,G,f⟩,e⟩:=hrel;generalize wr=z at *;have a3:(0:Int)<=(j:Int):=by omega
  have cG:=G.g4;cases gk with
  |zero=>
   have hj:j=m:=Y.out;subst hj;go_wp2_with fail
   go_region_with (first
    |(go_at_call 47;refine(ak _).mono ?_;rintro e7 w7 ⟨v7,rfl,t,ah⟩;obtain⟨s7,A7,k7,c7,s8,A8,k8,c8,rfl⟩:=t.form;have:=St.mk ah;have az:=(G.up (b:=w7)).g4)
    |(go_at_call 98;refine(ag _ _ _ f.up t.up).mono ?_;rintro e9 w9 ⟨v9,rfl,h9,ar⟩;obtain⟨X,C,U,H,V,B,T,E,rfl⟩:=h9.form;have:=St.mk ar;have R9:=R.up (b:=w9);have a0:=R9.g4))
   all_goals (
    go_wp2_with fail;obtain⟨W6,s,R6,O,o,g⟩:=R9.mut4 (bJ (b:=w9) e) aE (.bool X) (.slice C U H) (.bool V) (.slice B T E) rfl rfl;rw[s];exact aM (v:= .agg #[.bool X,.slice C U H,.bool V,.slice B T E]) (by simp[results,results48,go_sem,R6.k4]) rfl ⟨_,rfl,h9.ke o,O⟩)
  |succ k=>
   have a6:j<m:=by have:=Y.out;omega
   have a4:(j:Int)<(m:Int):=by omega
   have a5:(j:Int)<(p.length:Int):=by omega
   obtain⟨q,hq⟩:∃q,p[j]? =some q:=⟨_,aR (by omega)⟩;have kq:=HK.out q (dG hq);have ao:=KI (d:=cf p m) hq;obtain⟨b,s5,A5,k5,c5,s6,A6,k6,c6,hA,au,g0,hi⟩:=(hv.be e).at_ hq;obtain⟨b2,t5,B5,l5,d5,t6,B6,l6,d6,M,av,i0,ap⟩:=(hv.be e).cell aw;subst hA;injection M with M;injection M with M;subst M;have kD:=xS kq kl;have kA:=KL kD;have ai:=fun W u v h L=>vD q (cf p m) u v W h L K kq kl (by omega) aq.out;have al:=fun W v h=>oC (q/cf p m) v W h (by have:=kD.1;omega);have aj:=fun W v h=>yW (q/cf p m) v W h (by have:=kD.1;omega);have ad:=fun W u v h L=>yS (iH (q/cf p m)) (lF (cf p m) (p.take j)) u v W h L (K+K) kA (kb j) (by omega);have af:=ZP (iH (q/cf p m)) (lF (cf p m) (p.take j));have N:iH (q/cf p m)=if (q/cf p m).num.sign<0 then -(q/cf p m) else q/cf p m:=rfl;have ae:=aB ao;unfold eS at ai aj;unfold eO at al ad;clear ao hq kD kA kq ak ag;generalize (iH (q/cf p m)-lF (cf p m) (p.take j)).num.sign=P at *;generalize iH (q/cf p m)=D' at *;generalize q/cf p m=D at *;generalize lF (cf p m) (p.take j)=gr at *;generalize cf p m=cl at *;have bc:=e.size;go_wp2_with fail;go_cut [5] (fun ax r=>∃J,ax= .pointer (some ⟨J,0,none⟩)∧z.heap.size<=J∧QVar r J D∧Below z.heap.size z r)
   case first=>
    go_region_held3 (fun w'=>R4 w' b (j*4) (.bool s5) (.slice A5 k5 c5) (.bool s6) (.slice A6 k6 c6)∧R4 w' b (m*4) (.bool t5) (.slice B5 l5 d5) (.bool t6) (.slice B6 l6 d6))
     (with_reducible exact⟨g0.up au,i0.up av⟩)
     (first|(go_at_call 97;refine(ai _ _ _ hi.up ap.up).mono ?_;rintro e7 w7 ⟨v7,rfl,t,ah⟩;obtain⟨s7,A7,k7,c7,s8,A8,k8,c8,rfl⟩:=t.form;have:=St.mk ah;have TT:=Up.out (a:=z) (b:=w7);have ll:=TT.size;(try (have D7:=(Bx.newAt z zR 62 z.heap.size rfl).up (b:=w7);have ay:=D7.g4))))
    all_goals (
     go_wp2;go_meet;refine⟨_,rfl,by omega,?_⟩
     first|(with_reducible exact KZ t TT)|(with_reducible exact L0 D7 t TT (by omega)))
   case rest=>
    clear ai g0 i0 hi ap cG;obtain⟨J,rfl,a2,F,Q⟩:=hcut;generalize wc=wz at *;have gl:=G.lt;replace R:=R.be Q;replace G:=G.be Q;replace f:=f.be Q;replace e:=aC e Q;clear Q;obtain⟨X,C,U,H,V,B,T,E,F,hF⟩:=F;have I:=F.k4;go_wp2_with fail;refine(al _ _ hF).mono ?_;rintro e2 w2 ⟨rfl,l⟩;replace F:=F.be l;replace hF:=hF.be l;replace R:=R.be l;replace G:=G.be l;replace f:=f.be l;replace e:=aC e l;clear l;clear al;generalize D.num.sign=S at *;replace I:=F.g4;go_upto_if 27 with fail;go_cut [] (fun r=>Bx r w.heap.size [.bool false,.slice none 0 0,.bool false,.slice none 0 0] 62∧QVar r (w.heap.size+1) gr∧QVar r J D'∧Below w.heap.size w r)
    case first=>
     clear ad af ae;by_cases hS:S<0
     ·rw[if_pos hS] at N;subst N;go_wp2_with fail;refine(aj _ _ hF).mono ?_;rintro e4 w4 ⟨v4,rfl,h4,x⟩;obtain⟨s7,A7,k7,c7,s8,A8,k8,c8,rfl⟩:=h4.form;replace F:=F.be x;replace R:=R.be x;replace G:=G.be x;replace f:=f.be x;replace e:=aC e x;clear x;replace I:=F.g4;go_wp2;go_meet;obtain⟨W6,s,F6,O,o,g⟩:=F.mut4 e (by omega) (.bool s7) (.slice A7 k7 c7) (.bool s8) (.slice A8 k8 c8) rfl rfl;rw[s];exact⟨g R (by omega),⟨_,_,_,_,_,_,_,_,g G (by omega),f.ke o⟩,⟨_,_,_,_,_,_,_,_,F6,h4.ke o⟩,O⟩
     ·rw[if_neg hS] at N;subst N;go_wp2;go_meet;exact⟨R,⟨_,_,_,_,_,_,_,_,G,f⟩,⟨_,_,_,_,_,_,_,_,F,hF⟩,e⟩
    case rest=>
     clear F hF R G f e I aj N;obtain⟨R,⟨s3,A3,k3,c3,s4,A4,k4,c4,G,f⟩,⟨X,C,U,H,V,B,T,E,F,hF⟩,e⟩:=hcut;generalize wc=wa at *;have I:=aa F.g4 G.g4;go_wp2_with fail;refine(ad _ _ _ hF f).mono ?_;rintro e5 w5 ⟨rfl,n⟩;replace F:=F.be n;replace hF:=hF.be n;replace R:=R.be n;replace G:=G.be n;replace f:=f.be n;replace e:=aC e n;clear n;replace I:=aa F.g4 G.g4;have am:=aB af;clear ad af;by_cases hP:0<P
     ·go_wp2_with fail;obtain⟨W6,s,G6,O,o,g⟩:=G.mut4 e (by omega) (.bool X) (.slice C U H) (.bool V) (.slice B T E) rfl rfl;rw[s];clear s;go_roundg k
      case rel=>exact⟨j+1,by have:=Y.out;unfold Hid;omega,by go_num,g R (by omega),⟨_,_,_,_,_,_,_,_,G6,by rw[ae.out,if_pos (am.out.1 hP)];exact hF.ke o⟩,O⟩
      case measure=>omega
     ·go_wp2;go_roundg k
      case rel=>exact⟨j+1,by have:=Y.out;unfold Hid;omega,by go_num,R,⟨_,_,_,_,_,_,_,_,G,by rw[ae.out,if_neg (fun h=>by have:=am.out.2 h;omega)];exact f⟩,e⟩
      case measure=>omega
def DD(w:World)(v:Value):Prop:=∀g,v.ownBlock=some g->∀cur t f,w.heap[g]? =some (.cells cur t f)->∀y∈cur.toList,NoInt y
def GrowD(w:World)(base:Nat)(e:TypeId)(k:Nat)(v:Value)(rows:List (List Value)):Prop:=w.ownsRow base e k v rows.length rows.flatten∧(∀r∈rows,r.length=k)∧DD w v
section
variable {w w':World}{base:Nat}{e:TypeId}{k:Nat}{v:Value}{rows:List (List Value)}
def GrowD.nil:GrowD w base e k (.slice none 0 0) []:=⟨World.ownsRow_nil _ _ _ _,(fun _ h=>by cases h),fun g h=>by simp[Value.ownBlock] at h⟩
def GrowD.lt(h:GrowD w base e k v rows):∀g,v.ownBlock=some g->base<=g∧g<w.heap.size:=fun g b=>by
 rcases h.1.2 with ⟨rfl,_⟩|⟨i,f,cur,rfl,c,d,_⟩
 ·simp[Value.ownBlock] at b
 ·simp[Value.ownBlock] at b;subst b;exact⟨c,(Array.getElem?_eq_some_iff.1 d).1⟩
def GrowD.kept(h:GrowD w base e k v rows)(l:∀g,v.ownBlock=some g->w'.heap[g]? =w.heap[g]?):GrowD w' base e k v rows:=by
 obtain⟨j,n,q⟩:=h;refine⟨⟨j.1,?_⟩,n,fun g d b t f c=>q g d b t f ((l g d).symm.trans c)⟩;rcases j.2 with h|⟨i,m,b,rfl,p,c,h⟩
 ·exact .inl h
 ·exact .inr ⟨i,m,b,rfl,p,(l i (by simp[Value.ownBlock])).trans c,h⟩
def GrowD.be(h:GrowD w base e k v rows)(c:Below w.heap.size w w'):GrowD w' base e k v rows:=h.kept (fun g b=>c.block g (h.lt g b).2)
def GrowD.up{a b:World}[u:Up a b](h:GrowD a base e k v rows):GrowD b base e k v rows:=h.be u.out
def GrowD.form(h:GrowD w base e k v rows):∃A c,v= .slice A rows.length c∧rows.length<=c:=by
 rcases h.1.2 with ⟨rfl,b⟩|⟨i,d,g,rfl,j,l,f,_⟩
 ·exact⟨none,0,by rw[b],by rw[b];exact aE⟩
 ·exact⟨_,d,rfl,f⟩
def GrowD.at_{A:Option Addr}{l c:Nat}(h:GrowD w base e k (.slice A l c) rows){i:Nat}{r:List Value}(hi:rows[i]? =some r):∃b,A=some ⟨b,0,none⟩∧base<=b∧b<w.heap.size∧∀(j:Nat) (u:Value),r[j]? =some u->w.cell? ⟨b,i*k+j,none⟩=some u:=by
 obtain⟨q,g,B⟩:=h;have C:=(List.getElem?_eq_some_iff.1 hi).1;rcases q.2 with ⟨_,z⟩|⟨f,y,p,hv,s,m,D,E,F,x⟩
 ·omega
 ·simp only[Value.slice.injEq] at hv;refine⟨f,hv.1,s,(Array.getElem?_eq_some_iff.1 m).1,fun j u n=> ?_⟩;have t:j<k:=by rw[<-g r (dG hi)];exact(List.getElem?_eq_some_iff.1 n).1
  rw[cell_of_row w f _ p e (0,0) m,<-Array.getElem?_toList];have d:=mW g hi t;rw[n,<-x,fC] at d;split at d
  ·exact d
  ·cases d
end
def LA(w:World)(t N e:TypeId)(k O:Nat)(z:Value)(W:Tryz.prog.underlying t=some (.slice e))(hi:(Tryz.prog.info? e).map (fun i=>(i.zero,i.size,i.bytes))=some (some z,k,O))(aw:z.cells.size=k)(hz:∀n,∀y∈Builtin.zeroCells z.cells n,NoInt y)(hk:0<k)(aj:O<=1024)
  {base:Nat}{v:Value}{rows:List (List Value)}(hG:GrowD w base e k v rows){g c:Nat}{t':TypeId}{r:List Value}(hB:Bx w g r t')(H:r.length=k)(U:∀u∈r,NoInt u∧u.oneCell'=true)(hl:rows.length<=1073741824)(hb:base<=w.heap.size):
  ∃E w',(Builtin.append_ #[t,t] N #[v,.slice (some ⟨g,0,none⟩) 1 c]).run prog w= .ok E w'∧GrowD w' base e k E (rows++[r])∧Keep w w'∧w.grownBy w' v.ownBlock∧(E.ownBlock=v.ownBlock∨E.ownBlock=some w.heap.size):=by
 obtain⟨F,h3,hN⟩:=hG;obtain⟨i,hi,ac,I,ad⟩:=info_parts hi;have af:(rows.length+1)*O<=140737488355328:=aH (Nat.mul_le_mul (show rows.length+1<=1073741825 by omega) aj) (by decide);have T:∀j u,r[j]? =some u->w.cell? ((⟨g,0,none⟩:Addr).add j)=some u:=fun j u M=>by
  have:=hB.cell j M;unfold Addr.add;split
  ·rename_i K;subst K;exact this
  ·simpa using this
 obtain⟨E,w',V,ho,S,_,ai⟩:=run_append_own_at (P:=prog) w base t N e i z k O W hi ac I ad aw hk v rows.length _ F ⟨g,0,none⟩ 1 c r (by rw[H,Nat.one_mul]) T (fun u M=>(U u M).2) (by unfold maxLen;omega) af hb;have an:Keep w w':=fun x n D=>by
  obtain⟨A,c',hv,L,au,aq⟩:=D;refine⟨A,c',hv,L,?_,aq.mono S.size⟩;rcases au with h|⟨b,ax,rfl,ag,al⟩
  ·exact .inl h
  ·refine .inr ⟨b,ax,rfl,aZ ag S.size,fun j G=> ?_⟩;have Z:=al j G;by_cases R:v.ownBlock=some b
   ·rcases F.2 with ⟨rfl,_⟩|⟨p,q,l,rfl,_,C,_⟩
    ·simp[Value.ownBlock] at R
    ·have B:p=b:=by simpa [Value.ownBlock] using R
     subst B;rw[cell_of_row w p _ l _ (0,0) C,<-Array.getElem?_toList] at Z;exact absurd rfl (hN p R l _ _ C _ (dG Z) _ _)
   ·exact(World.cell?_of_block (S.block b ag (fun e'=>R e'.symm))).trans Z
 have am:DD w' E:=by
  have ae:∀(X:List Value) (q m:Nat),(∀y∈X,NoInt y)->DD (w.drew.alloc (.cells (X.toArray++r.toArray++Builtin.zeroCells z.cells m) e)) (.slice (some ⟨w.heap.size,0,none⟩) (rows.length+1) q):=fun X q m hv p J l t f L=>by
   simp[Value.ownBlock] at J;subst J;have:=heap_alloc_new w.drew (.cells (X.toArray++r.toArray++Builtin.zeroCells z.cells m) e);have h5:=this.symm.trans L;simp only[Option.some.injEq,Obj.cells.injEq] at h5;rw[<-h5.1];intro y d;rw[Array.toList_append,Array.toList_append] at d;rcases List.mem_append.1 d with d|d
   ·rcases List.mem_append.1 d with d|d
    ·exact hv y d
    ·exact(U y d).1
   ·exact hz m y (Array.mem_toList_iff.1 d)
  rcases F.2 with ⟨rfl,K⟩|⟨p,q,l,rfl,az,C,ap,a0,hs,a1⟩
  ·have s:=run_append_nil (P:=prog) w t N e i z W hi ac ⟨g,0,none⟩ 1 c r (by rw[I,H,Nat.one_mul]) T (by decide) (by decide) (by rw[ad];omega);rw[V] at s;injection s with e1 B;subst e1 B;have:=ae [] (grownCap w 1 0 e) (grownCap w 1 0 e-1) (fun _ h=>by cases h);rw[K] at this;simpa using this
  ·have Y:∀y∈l.toList,NoInt y:=hN p rfl l _ _ C;by_cases ah:rows.length+1<=q
   ·have s:=run_append_room (P:=prog) w t N e i W hi p rows.length q l C ⟨g,0,none⟩ 1 c r (by rw[I,H,Nat.one_mul]) T (fun u M=>(U u M).2) ah (by
     rw[I,hs,H];have:=dK k ah;rw[Nat.add_mul,Nat.one_mul] at this;exact this)
    rw[V] at s;injection s with e1 B;subst e1 B;intro g3 J ay t f L;simp[Value.ownBlock] at J;subst J;have h7:=(setRow_heap w p l _ e _ C).symm.trans L;simp only[Option.some.injEq,Obj.cells.injEq] at h7;rw[<-h7.1];intro y d;have av:y∈l.toList.take (rows.length*i.size)++r++l.toList.drop (rows.length*i.size+r.length):=d;rcases List.mem_append.1 av with d|d
    ·rcases List.mem_append.1 d with d|d
     ·exact Y y (lH d)
     ·exact(U y d).1
    ·exact Y y (List.mem_of_mem_drop d)
   ·have ar:∀j y,(l.toList.take (rows.length*k))[j]? =some y->w.cell? ((⟨p,0,none⟩:Addr).add j)=some y:=fun j y G=>by
     have F:w.cell? ⟨p,j,none⟩=some y:=by
      rw[cell_of_row w p j l _ (0,0) C,<-Array.getElem?_toList];rw[fC] at G;split at G
      ·exact G
      ·cases G
     unfold Addr.add;split
     ·rename_i K;subst K;exact F
     ·simpa using F
    have ao:(l.toList.take (rows.length*k)).length=rows.length*i.size:=by
     have ak:l.toList.length=q*k:=hs;rw[I,bK,ak];exact gF (dK _ ap)
    have s:=run_append_grow (P:=prog) w t N e i z W hi ac ⟨p,0,none⟩ rows.length q (l.toList.take (rows.length*k)) ao ar ⟨g,0,none⟩ 1 c r (by rw[I,H,Nat.one_mul]) T (by omega) (by omega) (growslice_fits (by omega) (by rw[ad];exact af));rw[V] at s;injection s with e1 B;subst e1 B;have:=ae (l.toList.take (rows.length*k)) (grownCap w (rows.length+1) q e) (grownCap w (rows.length+1) q e-(rows.length+1)) (fun y d=>Y y (lH d));simpa using this
 refine⟨E,w',V,⟨?_,fun x D=> ?_,am⟩,an,S,ai⟩
 ·rw[bE,List.flatten_append];simpa using ho
 ·rcases List.mem_append.1 D with D|D
  ·exact h3 x D
  ·rw[List.mem_singleton.1 D];exact H
section
variable {ops:Array Oper}{rest:List Oper}{o:Oper}{a:Act}{Q:Exit->Act->World->Prop}{w:World}
def yE(D:o.guard=none){s x:Operand}{t:TypeId}(H:o.op= .call { callee:= .builtin .append,args:= #[s,x],argTypes:= #[t,t] })(e:TypeId)(k d:Nat)(z:Value)(M:Tryz.prog.underlying t=some (.slice e))(hi:(Tryz.prog.info? e).map (fun i=>(i.zero,i.size,i.bytes))=some (some z,k,d))(P:z.cells.size=k)(O:∀n,∀y∈Builtin.zeroCells z.cells n,NoInt y)(E:0<k)(C:d<=1024)
  {base:Nat}{v:Value}{rows:List (List Value)}(L:a.eval s=v)(q:GrowD w base e k v rows){g c:Nat}{R:TypeId}{r:List Value}(N:a.eval x= .slice (some ⟨g,0,none⟩) 1 c)(p:Bx w g r R)(I:r.length=k)(G:∀u∈r,NoInt u∧u.oneCell'=true)(F:rows.length<=1073741824)(B:base<=w.heap.size)
  (h:∀b w',GrowD w' base e k b (rows++[r])->Keep w w'->w.grownBy w' v.ownBlock->(b.ownBlock=v.ownBlock∨b.ownBlock=some w.heap.size)->wpList prog ops Q rest (a.put o.dst b) w'):
  wpList prog ops Q (o :: rest) a w:=by
 obtain⟨b,w',J,f,j,l,m⟩:=LA w t o.type e k d z M hi P O E C q p I G F B (c:=c);refine wpList_plain D fun K A=> ?_;unfold Oper.wp execOp;simp only[H,resolve,invoke,builtin,Sem.run_bind,Sem.run_pure,Result.andThen_ok,List.map_toArray,fM,List.map_nil,L,N,J];exact A _ _ (h b w' f j l m)
def LB{K:Act->World->Prop}{E:Prop}(C:o.guard=none){s x:Operand}{t:TypeId}(H:o.op= .call { callee:= .builtin .append,args:= #[s,x],argTypes:= #[t,t] })(e:TypeId)(k d:Nat)(z:Value)(M:Tryz.prog.underlying t=some (.slice e))(hi:(Tryz.prog.info? e).map (fun i=>(i.zero,i.size,i.bytes))=some (some z,k,d))(R:z.cells.size=k)(P:∀n,∀y∈Builtin.zeroCells z.cells n,NoInt y)(D:0<k)(B:d<=1024)
  {base:Nat}{v:Value}{rows:List (List Value)}(L:a.eval s=v)(q:GrowD w base e k v rows){g c:Nat}{S:TypeId}{r:List Value}(O:a.eval x= .slice (some ⟨g,0,none⟩) 1 c)(p:Bx w g r S)(I:r.length=k)(G:∀u∈r,NoInt u∧u.oneCell'=true)(F:rows.length<=1073741824)(A:base<=w.heap.size)
  (h:∀b w',GrowD w' base e k b (rows++[r])->Keep w w'->w.grownBy w' v.ownBlock->(b.ownBlock=v.ownBlock∨b.ownBlock=some w.heap.size)->K (a.put o.dst b) w'):if Region.wanted o (yielded ops a.tmps)=true then Oper.wp prog o a w K Q else E:=by
 have N:Region.wanted o (yielded ops a.tmps)=true:=by simp[Region.wanted,C]
 rw[if_pos N];obtain⟨b,w',J,f,j,l,m⟩:=LA w t o.type e k d z M hi R P D B q p I G F A (c:=c);unfold Oper.wp execOp;simp only[H,resolve,invoke,builtin,Sem.run_bind,Sem.run_pure,Result.andThen_ok,List.map_toArray,fM,List.map_nil,L,O,J];exact h b w' f j l m
end
def GrowD.left{w w':World}{base:Nat}{e:TypeId}{k:Nat}{v:Value}{rows:List (List Value)}(h:GrowD w base e k v rows)(b:w.grownBy w' v.ownBlock)(c:base<=w.heap.size):Below base w w':=⟨b.os,b.tape,b.output,b.size,fun k d=>b.block k (by omega) (fun e=>by have:=(h.lt k e.symm).1;omega)⟩
def ZS(x y:Rat):(x+y)*(((1:Int):Rat)/((2:Int):Rat))=(x+y)/2:=by
 have a:((1:Int):Rat)=1:=rfl;have c:((2:Int):Rat)=2:=rfl;rw[a,c];grind
def ZT:(((1:Int):Rat)/((2:Int):Rat)).den≠1:=by rw[<-Rat.divInt_eq_div];decide
def ZU:(((1:Int):Rat)/((2:Int):Rat)).num≠0:=by rw[<-Rat.divInt_eq_div];decide
def SpanAt(w:World)(v:Value)(x y:Rat):Prop:=∃o a k f p c l h q d m i r e n j,v= .agg #[.bool o,.slice a k f,.bool p,.slice c l h,.bool q,.slice d m i,.bool r,.slice e n j]∧RatAt w (.agg #[.bool o,.slice a k f,.bool p,.slice c l h]) x∧RatAt w (.agg #[.bool q,.slice d m i,.bool r,.slice e n j]) y
def uN(K:Nat)(D:Rat->Rat->Prop):Prop:=∀x y,D x y->RL K x->RL K y->∀W u v,Glob W->RatAt W u x->RatAt W v y->Calls prog 43 #[u,v] W (iF W (x+y))
def ZV{K:Nat}(d:10*K+40<=aJ):uN K y7:=fun x y e f i W u v c h a=>IZ x y u v W c h a e.2 K f i d
def ZW(D:Rat->Rat->Prop)(x y:Rat)(v:Value)(w:World)(a:Glob w)(hv:SpanAt w v x y)(K:Nat)(r:RL K x)(q:RL K y)(h1:1<=K)(ag:K<=1073741824)(I:uN K D)(J:D x y):
  Calls prog 79 #[v] w (iF w ((x+y)/2)):=by
 obtain⟨Y,j,N,s,Z,k,O,t,s3,l,P,A,s4,n,Q,B,rfl,hx,hy⟩:=hv;have L:=fun W a h d=>I x y J r q W (.agg #[.bool Y,.slice j N s,.bool Z,.slice k O t]) (.agg #[.bool s3,.slice l P A,.bool s4,.slice n Q B]) a h d;clear I J;have U:nl (1:Int).natAbs<=1:=cJ (by decide);have V:nl (2:Int).natAbs<=1:=cJ (by decide);have M:=fun W u v a h d=>I3 1 2 u v W a h d 1 U V (by unfold aJ;decide);have i:=fun W u v a h d=>UT (x+y) (((1:Int):Rat)/((2:Int):Rat)) u v W a h d (fun e=>absurd e.2 ZT) ZU (2*K+2) (bU (wW r q) (by omega)) (bU (pM U V (mC 1)) (by omega)) (by unfold aJ;omega);rw[ZS] at i;unfold iF at L M i;unfold iF;generalize (x+y)/2=m at *;generalize x+y=z at *;generalize ((1:Int):Rat)/((2:Int):Rat)=ah at *;obtain⟨W,G,c,X,R⟩:=eL w [.bool Y,.slice j N s,.bool Z,.slice k O t,.bool s3,.slice l P A,.bool s4,.slice n Q B] 50 [.bool false,.slice none 0 0,.bool false,.slice none 0 0] 47;have cM:=aa X.g8 R.g4;go_enter func79,ntmps79;go_wp2_with fail;(try rw[G]);clear G;refine(L _ (a.be c) (hx.be c) (hy.be c)).mono ?_;rintro e5 w5 ⟨v5,rfl,h5,ac⟩;have:=St.mk ac;go_wp2_with fail;refine(lL 1 _ (by decide) (by decide)).mono ?_;rintro F w6 ⟨v6,rfl,h6,f⟩;have:=St.mk f;go_wp2_with fail;refine(lL 2 _ (by decide) (by decide)).mono ?_;rintro e7 w7 ⟨v7,rfl,h7,ad⟩;have:=St.mk ad;go_wp2_with fail;refine(M _ _ _ (a.be c).up h6.up h7).mono ?_;rintro e8 w8 ⟨v8,rfl,h8,ae⟩;have:=St.mk ae;go_wp2_with fail;refine(i _ _ _ (a.be c).up h5.up h8).mono ?_;rintro e9 w9 ⟨v9,rfl,H,af⟩;obtain⟨s5,o,S,C,s6,p,T,E,rfl⟩:=H.form;have:=St.mk af;replace R:=R.up (b:=w9);have cR:=R.g4;go_wp2_with fail;obtain⟨W6,F,R6,f,hk,ff⟩:=R.put4 (bJ (b:=w9) c) (by omega) (.bool s5) (.slice o S C) (.bool s6) (.slice p T E) rfl rfl;rw[F];exact aM (v:= .agg #[.bool s5,.slice o S C,.bool s6,.slice p T E]) (by simp[results,results79,go_sem,R6.k4]) rfl ⟨_,rfl,H.ke hk,f⟩
def ZX(x y:Rat)(v:Value)(w:World)(a:Glob w)(hv:SpanAt w v x y)(K:Nat)(S:RL K x)(Q:RL K y)(L:K<=1073741824):
  Calls prog 17 #[v] w fun e w'=>e= .returned (.agg #[.string ⟨(cW x).toArray⟩,.string ⟨(cW y).toArray⟩])∧Below w.heap.size w w':=by
 obtain⟨A,i,s,m,B,j,t,n,C,k,u,o,D,l,z,p,rfl,q,r⟩:=hv;have U:=fun W a h=>I4 x (.agg #[.bool A,.slice i s m,.bool B,.slice j t n]) W a h K S L;have V:=fun W a h=>I4 y (.agg #[.bool C,.slice k u o,.bool D,.slice l z p]) W a h K Q L;generalize (cW x).toArray=N at *;generalize (cW y).toArray=O at *;obtain⟨W,I,c,X,R⟩:=eL w [.bool A,.slice i s m,.bool B,.slice j t n,.bool C,.slice k u o,.bool D,.slice l z p] 50 [.string ⟨#[]⟩,.string ⟨#[]⟩] 24;have cM:=aa X.g8 R.g2;go_enter func17,ntmps17;go_wp2_with fail;(try rw[I]);clear I;replace q:=q.be c;replace r:=r.be c;have M:w.heap.size+1≠w.heap.size:=by omega
 go_region_held3 (fun w'=>C8 w' w.heap.size (.bool A) (.slice i s m) (.bool B) (.slice j t n) (.bool C) (.slice k u o) (.bool D) (.slice l z p)) (first|(with_reducible exact X.up.k8)|(with_reducible exact((G.far 0 _ M).far 1 _ M).k8))
  (first
   |(go_at_call 45;first|(with_reducible refine(U _ (a.be c).up q.up).mono ?_;rintro e5 E ⟨rfl,Y⟩;have:=St.mk Y;have d:=R.up (b:=E);have G:=X.up (b:=E);have T:=d.g2;have J:=bJ (b:=E) c)|(with_reducible refine(V _ (a.be c).up r.up).mono ?_;rintro H F ⟨rfl,f⟩;have:=St.mk f;have d:=R.up (b:=F);have G:=X.up (b:=F);have T:=d.g2;have J:=bJ (b:=F) c)))
 all_goals (
  go_wp2_with fail;obtain⟨Z,H,P,f,hk,ff⟩:=d.put2 J (by omega) (.string ⟨N⟩) (.string ⟨O⟩) rfl rfl;rw[H];exact aM (v:= .agg #[.string ⟨N⟩,.string ⟨O⟩]) (by simp[results,results17,go_sem,P.k2]) rfl ⟨rfl,by first|exact f|exact f.drew⟩)
def PoAt(w:World)(v:Value)(x:Rat)(n:Int)(z:Bool):Prop:=∃i a f d j c h e,v= .agg #[.bool i,.slice a f d,.bool j,.slice c h e,.int .i64 n,.bool z]∧RatAt w (.agg #[.bool i,.slice a f d,.bool j,.slice c h e]) x
def Bx.put6{w W:World}{b B:Nat}{cs:List Value}{t:TypeId}(h:Bx W b cs t)(H:Below B w W)(a:B<=b)(v0 v1 v2 v3 v4 v5:Value){e f i j l:Value}{k:Int}(I:cs=[e,f,i,j,.int .i64 k,l])(hn:(cS (some e)&&(cS (some f)&&(cS (some i)&&(cS (some j)&&cS (some l)))))=true):
  ∃d,(((((W.setCell ⟨b,0,none⟩ v0).setCell ⟨b,1,none⟩ v1).setCell ⟨b,2,none⟩ v2).setCell ⟨b,3,none⟩ v3).setCell ⟨b,4,none⟩ v4).setCell ⟨b,5,none⟩ v5=d∧Bx d b [v0,v1,v2,v3,v4,v5] t∧Below B w d∧Keep W d∧∀{g:Nat} {cs:List Value} {t:TypeId},Bx W g cs t->b≠g->Bx d g cs t:=by
 subst I;simp only[Bool.and_eq_true] at hn;obtain⟨P,rfl,C,n,J,v⟩:=h.put1 H a 0 v0 hn.1;obtain⟨Q,rfl,D,o,K,x⟩:=C.put1 n a 1 v1 hn.2.1;obtain⟨R,rfl,E,q,L,y⟩:=D.put1 o a 2 v2 hn.2.2.1;obtain⟨S,rfl,m,r,M,z⟩:=E.put1 q a 3 v3 hn.2.2.2.1;have s:=r.setCell (p:=⟨b,4,none⟩) a v4;have N:=Keep.puti (m.cell 4 rfl) v4;have F:=m.set 4 v4;obtain⟨T,rfl,G,u,O,A⟩:=F.put1 s a 5 v5 hn.2.2.2.2;exact⟨_,rfl,G,u,((((J.trans K).trans L).trans M).trans N).trans O,fun k c=>A ((z (y (x (v k c) c) c) c).far 4 v4 c) c⟩
section
variable {w:World}{b g:Nat}{v0 v1 v2 v3 v4 v5:Value}
def qV(a:b≠g){o:Nat}{u:Value}(h:w.cell? ⟨g,o,none⟩=some u):((((((w.setCell ⟨b,0,none⟩ v0).setCell ⟨b,1,none⟩ v1).setCell ⟨b,2,none⟩ v2).setCell ⟨b,3,none⟩ v3).setCell ⟨b,4,none⟩ v4).setCell ⟨b,5,none⟩ v5).cell? ⟨g,o,none⟩=some u:=by
 exact(aL _ _ _ _ _ _ a).trans ((aL _ _ _ _ _ _ a).trans ((aL _ _ _ _ _ _ a).trans ((aL _ _ _ _ _ _ a).trans ((aL _ _ _ _ _ _ a).trans ((aL _ _ _ _ _ _ a).trans h)))))
def ZY(a:b≠g){u0 u1 u2 u3:Value}(h:C4 w g u0 u1 u2 u3):C4 ((((((w.setCell ⟨b,0,none⟩ v0).setCell ⟨b,1,none⟩ v1).setCell ⟨b,2,none⟩ v2).setCell ⟨b,3,none⟩ v3).setCell ⟨b,4,none⟩ v4).setCell ⟨b,5,none⟩ v5) g u0 u1 u2 u3:=⟨qV a h.1,qV a h.2.1,qV a h.2.2.1,qV a h.2.2.2⟩
def ZZ(a:b≠g){u0 u1:Value}(h:C2 w g u0 u1):C2 ((((((w.setCell ⟨b,0,none⟩ v0).setCell ⟨b,1,none⟩ v1).setCell ⟨b,2,none⟩ v2).setCell ⟨b,3,none⟩ v3).setCell ⟨b,4,none⟩ v4).setCell ⟨b,5,none⟩ v5) g u0 u1:=⟨qV a h.1,qV a h.2⟩
end
def ax0(s:List Int)(x:Rat):decide (fE s x.num x.den=0)=decide (aP s 0 x=0):=by
 unfold aP;rw[if_pos rfl];exact decide_eq_decide.2 (by rw[Int.sign_eq_zero_iff_zero])
def ax1(s:List Int)(c:List (List Int))(B E:Nat)(x:Rat)(vc vr vx:Value)(w:World)(H:Bx w E [vc,vr] 81)(hv:WsAt w B 37 vc (s :: c))(y:RatAt w vx x)(an:(s :: c).length<=1024)(K:Nat)(J:∀a∈s :: c,a≠[]∧a.length<=65∧∀n∈a,nl n.natAbs<=K)(C:RL K x)(ac:140*K+10<=17592186044416):
  Calls prog 32 #[.pointer (some ⟨E,0,none⟩),vx] w fun e w'=>∃v',e= .returned v'∧PoAt w' v' x (aY 0 ((s :: c).map (fun a=>aP a 0 x)):Nat) (decide (aP s 0 x=0))∧Below w.heap.size w w':=by
 obtain⟨r,d,o,k,t,f,q,m,rfl⟩:=y.form;obtain⟨A,Q,rfl,hc⟩:=hv.form;obtain⟨j,u0,rfl,ae,hu,ah⟩:=hv.at_ (i:=0) (l:=s) rfl;obtain⟨N,P,rfl,ap⟩:=ah.form;have aq:(0:Int)<((s :: c).length:Int):=by rw[eG];omega
 have z:=J s (iC ..);have af:=fun W h G=>BV (s :: c) B 0 x (.slice (some ⟨j,0,none⟩) (s :: c).length Q) (.agg #[.bool r,.slice d o k,.bool t,.slice f q m,.int .i64 0]) W h G (by decide) an K J C ac;have ad:=fun W h G=>CB s x (.slice N s.length P) (.agg #[.bool r,.slice d o k,.bool t,.slice f q m]) W h G K z.2.2 C z.2.1 ac;have O:=xK (ns:=s) (a:=x.num) (b:=x.den) (T:=BN^K) (fun n h=>mS (z.2.2 n h)) (mS C.1) (mS C.2);have aj:nl (fE s x.num x.den).natAbs<=K*65+1:=by
  refine cJ (jI O.1 (aZ (xL (by omega)).1 (cO (by decide) ?_)));have:=eV K z.2.1;omega
 have ag:=fun W u h=>g9 (fE s x.num x.den) u W h (by omega);rw[ax0] at ag;have ao:=H.lt;unfold eO at af;unfold dW at ad;generalize (aY 0 ((s :: c).map (fun a=>aP a 0 x)):Nat)=V at *;generalize decide (aP s 0 x=0)=Z at *;generalize fE s x.num x.den=au at *;clear J z O aj C;have ar:0<(s :: c).length:=by rw[eG];omega
 generalize (s :: c).length=n at *;obtain⟨W,U,I,X,R⟩:=eL w [.bool r,.slice d o k,.bool t,.slice f q m] 47 [.bool false,.slice none 0 0,.bool false,.slice none 0 0,.int .i64 0,.bool false] 84;have cM:=aa X.g4 R.g6;go_enter func32,ntmps32;go_wp2_with fail;(try rw[U]);clear U;have:=St.mk I;have n1:w.heap.size+1≠w.heap.size:=by omega
 have n2:w.heap.size+1≠E:=by omega
 have n3:w.heap.size+1≠j:=by omega
 go_region_held3 (fun w'=>C4 w' w.heap.size (.bool r) (.slice d o k) (.bool t) (.slice f q m)∧C2 w' E (.slice (some ⟨j,0,none⟩) n Q) vr∧w'.cell? ⟨j,0,none⟩=some (.slice N s.length P))
  (first
   |(with_reducible exact⟨X.up.k4,H.up.k2,((Up.out (a:=w)).cell (p:=⟨j,0,none⟩) ae).trans hu⟩)
   |(with_reducible exact⟨ZY n1 X.up.k4,ZZ n2 H.up.k2,qV n3 (((Up.out (a:=w)).cell (p:=⟨j,0,none⟩) ae).trans hu)⟩))
  (first
   |(go_at_call 80;refine(af _ hv.up (EndAt.of y.up)).mono ?_;rintro e5 L ⟨rfl,al⟩;have:=St.mk al;have D:=R.up (b:=L);have ak:=D.g6;have Y:=bJ (b:=L) I;have ai:=y.up (b:=L))
   |(go_at_call 57;refine(ad _ ah.up y.up).mono ?_;rintro S w6 ⟨v6,rfl,h6,F⟩;have:=St.mk F)
   |(go_at_call 71;refine(ag _ _ h6.up).mono ?_;rintro e7 M ⟨rfl,am⟩;have:=St.mk am;have D:=R.up (b:=M);have ak:=D.g6;have Y:=bJ (b:=M) I;have ai:=y.up (b:=M)))
 all_goals (
  go_wp2_with fail;obtain⟨W6,S,R6,F,hk,ff⟩:=D.put6 Y (by omega) (.bool r) (.slice d o k) (.bool t) (.slice f q m) (.int .i64 (V:Int)) (.bool Z) rfl rfl;rw[S];exact aM (v:= .agg #[.bool r,.slice d o k,.bool t,.slice f q m,.int .i64 (V:Int),.bool Z]) (by simp[results,results32,go_sem,R6.k6]) rfl ⟨_,rfl,⟨_,_,_,_,_,_,_,_,rfl,ai.ke hk⟩,by first|exact F|exact F.drew⟩)
structure Fr(gb:Nat)(v:Value)(w w':World):Prop where
 be:Below gb w w'
 ke:Keep w w'
 block:∀k,gb<k->k<w.heap.size->v.ownBlock≠some k->w'.heap[k]? =w.heap[k]?
def OwnTo(w:World)(v v':Value):Prop:=∀g,v'.ownBlock=some g->v.ownBlock=some g∨w.heap.size<=g
def Fr.of{a:Nat}{v:Value}{w w':World}(h:Below w.heap.size w w')(b:a<=w.heap.size):Fr a v w w':=⟨h.mono b,Keep.be h,fun k _ c _=>h.block k c⟩
def Fr.trans{a:Nat}{v i:Value}{w w1 j:World}(h:Fr a v w w1)(b:Fr a i w1 j)(l:OwnTo w v i):Fr a v w j:=
 ⟨h.be.trans b.be,h.ke.trans b.ke,fun k c d f=>(b.block k c (aZ d h.be.size) (fun e=>by
  rcases l k e with g|g
  ·exact f g
  ·omega)).trans (h.block k c d f)⟩
def OwnTo.trans{w w1:World}{v b c:Value}(h:OwnTo w v b)(d:OwnTo w1 b c)(f:w.heap.size<=w1.heap.size):OwnTo w v c:=fun g e=>by
 rcases d g e with a|a
 ·exact h g a
 ·exact .inr (aH f a)
def Bx.fr{a g:Nat}{v:Value}{w w':World}{cs:List Value}{t:TypeId}(h:Bx w g cs t)(b:Fr a v w w')(c:a<g)(hv:v.ownBlock≠some g):Bx w' g cs t:=(b.block g c h.lt hv).trans h
def SpRow(w:World)(rows:List (List Value))(l:List (Rat×Rat)):Prop:=rows.length=l.length∧∀(i:Nat) (p:Rat×Rat),l[i]? =some p->∃q a k f r b m g s c n h t d o j,rows[i]? =some [Value.bool q,.slice a k f,.bool r,.slice b m g,.bool s,.slice c n h,.bool t,.slice d o j]∧RatAt w (.agg #[.bool q,.slice a k f,.bool r,.slice b m g]) p.1∧RatAt w (.agg #[.bool s,.slice c n h,.bool t,.slice d o j]) p.2
def SpRow.ke{w w':World}{rows:List (List Value)}{l:List (Rat×Rat)}(h:SpRow w rows l)(a:Keep w w'):SpRow w' rows l:=⟨h.1,fun i p q=>by
 obtain⟨v,b,r,g,y,c,s,j,z,d,t,k,A,f,u,m,e,n,o⟩:=h.2 i p q;exact⟨v,b,r,g,y,c,s,j,z,d,t,k,A,f,u,m,e,n.ke a,o.ke a⟩⟩
def RowSp(w:World)(a:Nat)(v:Value)(l:List (Rat×Rat)):Prop:=∃rows,GrowD w a 50 8 v rows∧SpRow w rows l
def RowSp.be{w w':World}{a:Nat}{v:Value}{l:List (Rat×Rat)}(h:RowSp w a v l)(b:Below w.heap.size w w'):RowSp w' a v l:=by
 obtain⟨f,c,d⟩:=h;exact⟨f,c.be b,d.ke (Keep.be b)⟩
def RowSp.lt{w:World}{a:Nat}{v:Value}{l:List (Rat×Rat)}(h:RowSp w a v l):∀g,v.ownBlock=some g->a<=g∧g<w.heap.size:=by
 obtain⟨d,b,c⟩:=h;exact b.lt
def RowSp.nil(w:World)(a:Nat):RowSp w a (.slice none 0 0) []:=⟨[],GrowD.nil,rfl,fun i p h=>by simp at h⟩
def RowSp.form{w:World}{a:Nat}{v:Value}{l:List (Rat×Rat)}(h:RowSp w a v l):∃A c,v= .slice A l.length c∧l.length<=c:=by
 obtain⟨f,b,d⟩:=h;rw[<-d.1];exact b.form
def L6:(Tryz.prog.info? 50).map (fun i=>(i.zero,i.size,i.bytes))=some (some (.agg #[.bool false,.slice none 0 0,.bool false,.slice none 0 0,.bool false,.slice none 0 0,.bool false,.slice none 0 0]),8,128):=by kernel_rfl
def yB(n:Nat):∀y∈Builtin.zeroCells (Value.agg #[.bool false,.slice none 0 0,.bool false,.slice none 0 0,.bool false,.slice none 0 0,.bool false,.slice none 0 0]).cells n,NoInt y:=fun y b=>by
 unfold Builtin.zeroCells at b;obtain⟨j,_,rfl⟩:=Array.mem_map.1 b;have a:(Value.agg #[.bool false,.slice none 0 0,.bool false,.slice none 0 0,.bool false,.slice none 0 0,.bool false,.slice none 0 0]).cells= #[Value.bool false,.slice none 0 0,.bool false,.slice none 0 0,.bool false,.slice none 0 0,.bool false,.slice none 0 0]:=rfl;rw[a];have a:(#[Value.bool false,.slice none 0 0,.bool false,.slice none 0 0,.bool false,.slice none 0 0,.bool false,.slice none 0 0]:Array Value).size=8:=rfl;rw[a];rcases(show j%8=0∨j%8=1∨j%8=2∨j%8=3∨j%8=4∨j%8=5∨j%8=6∨j%8=7 by omega) with h|h|h|h|h|h|h|h<;>rw[h]
 ·exact NoInt.bool _
 ·exact NoInt.slice _ _ _
 ·exact NoInt.bool _
 ·exact NoInt.slice _ _ _
 ·exact NoInt.bool _
 ·exact NoInt.slice _ _ _
 ·exact NoInt.bool _
 ·exact NoInt.slice _ _ _
def Bx.grown{w w':World}{g:Nat}{a:Option Nat}{cs:List Value}{t:TypeId}(h:Bx w g cs t)(b:w.grownBy w' a)(c:a≠some g):Bx w' g cs t:=(b.block g h.lt (fun e=>c e.symm)).trans h
def L7{a:Nat}{w W d:World}{vc vr b:Value}{rows:List (List Value)}{q:List (Rat×Rat)}{x y:Rat}{Q R S T:Bool}{s t u v:Option Addr}{L M N O B C E F:Nat}
  (l:Below w.heap.size w W)(ai:a<w.heap.size)(P:Bx W a [vc,vr] 81)(ah:∃A k c,vr= .slice A k c)(hG:GrowD W (a+1) 50 8 vr rows)(hS:SpRow W rows q)(hx:RatAt W (.agg #[.bool Q,.slice s L B,.bool R,.slice t M C]) x)(hy:RatAt W (.agg #[.bool S,.slice u N E,.bool T,.slice v O F]) y)
  (H:GrowD d (a+1) 50 8 b (rows++[[.bool Q,.slice s L B,.bool R,.slice t M C,.bool S,.slice u N E,.bool T,.slice v O F]]))(j:Keep W d)(f:W.grownBy d vr.ownBlock)(ho:b.ownBlock=vr.ownBlock∨b.ownBlock=some W.heap.size):
  Bx (d.setCell ⟨a,1,none⟩ b) a [vc,b] 81∧RowSp (d.setCell ⟨a,1,none⟩ b) (a+1) b (q++[(x,y)])∧Fr a vr w (d.setCell ⟨a,1,none⟩ b)∧OwnTo w vr b:=by
 have af:vr.ownBlock≠some a:=fun e=>by have:=(hG.lt a e).1;omega
 have z:=P.grown f af;obtain⟨A,k,c,rfl⟩:=ah;have o:Keep d (d.setCell ⟨a,1,none⟩ b):=Keep.put (z.cell 1 rfl) (NoInt.slice _ _ _) b;have J:∀k,k≠a->(d.setCell ⟨a,1,none⟩ b).heap[k]? =d.heap[k]? :=fun k j=>Below.heap_setCell d ⟨a,1,none⟩ b k j;have aj:(d.setCell ⟨a,1,none⟩ b).heap.size=d.heap.size:=by simp[World.setCell]
 refine⟨z.set 1 b,⟨_,H.kept (fun g e=>J g (by have:=(H.lt g e).1;omega)),?_⟩,⟨?_,((Keep.be l).trans j).trans o,fun k G r h3=> ?_⟩,fun g e=> ?_⟩
 ·have m:=hS.ke (j.trans o);refine⟨by rw[bE,bE,m.1];rfl,fun i p n=> ?_⟩;rcases dE i q.length with I|I
  ·rw[gA I] at n;obtain⟨t1,U,l1,d1,t2,X,l2,d2,t3,Y,l3,d3,t4,Z,l4,d4,e,G,r⟩:=m.2 i p n;exact⟨t1,U,l1,d1,t2,X,l2,d2,t3,Y,l3,d3,t4,Z,l4,d4,by rw[gA (by have:=m.1;omega)];exact e,G,r⟩
  ·have ae:=(List.getElem?_eq_some_iff.1 n).1;rw[bE,iJ] at ae;obtain rfl:i=q.length:=by omega
   rw[fK aE,Nat.sub_self] at n;have ag:(x,y)=p:=by simpa using n
   subst ag;exact⟨_,_,_,_,_,_,_,_,_,_,_,_,_,_,_,_,by rw[fK (by have:=m.1;omega),m.1,Nat.sub_self];rfl,hx.ke (j.trans o),hy.ke (j.trans o)⟩
 ·have ac:Below a w W:=l.mono (by omega);have ad:Below a W d:=⟨f.os,f.tape,f.output,f.size,fun k j=>f.block k (by have:=l.size;omega) (fun e=>by have:=(hG.lt k e.symm).1;omega)⟩;exact(ac.trans ad).setCell (p:=⟨a,1,none⟩) aE b
 ·rw[J k (by omega),f.block k (by have:=l.size;omega) (fun e=>h3 e.symm)];exact l.block k r
 ·rcases ho with h|h
  ·exact .inl (by rw[<-h];exact e)
  ·rw[h] at e;injection e with e;exact .inr (by have:=l.size;omega)
def yC(wb w:World)(vc vr:Value)(a:List (Rat×Rat))(e:Ending)(w':World):Prop:=∃v',e= .returned (.tuple #[])∧Bx w' wb.heap.size [vc,v'] 81∧RowSp w' (wb.heap.size+1) v' a∧Fr wb.heap.size vr w w'∧OwnTo w vr v'
def PoAt.of{w:World}{x:Rat}{n:Int}{z i j:Bool}{a b:Option Addr}{f c g d:Nat}(h:RatAt w (.agg #[.bool i,.slice a f c,.bool j,.slice b g d]) x):PoAt w (.agg #[.bool i,.slice a f c,.bool j,.slice b g d,.int .i64 n,.bool z]) x n z:=⟨_,_,_,_,_,_,_,_,rfl,h⟩
def SpanAt.of{w:World}{x y:Rat}{o p q r:Bool}{a b c d:Option Addr}{k f l g m i n j:Nat}(h:RatAt w (.agg #[.bool o,.slice a k f,.bool p,.slice b l g]) x)(s:RatAt w (.agg #[.bool q,.slice c m i,.bool r,.slice d n j]) y):SpanAt w (.agg #[.bool o,.slice a k f,.bool p,.slice b l g,.bool q,.slice c m i,.bool r,.slice d n j]) x y:=⟨_,_,_,_,_,_,_,_,_,_,_,_,_,_,_,_,rfl,h,s⟩
def PoAt.ke{w w':World}{v:Value}{x:Rat}{n:Int}{z:Bool}(h:PoAt w v x n z)(a:Keep w w'):PoAt w' v x n z:=by
 obtain⟨j,b,g,d,k,c,i,f,rfl,h⟩:=h;exact⟨_,_,_,_,_,_,_,_,rfl,h.ke a⟩
def GrowD.form3{w:World}{a:Nat}{e:TypeId}{k:Nat}{v:Value}{rows:List (List Value)}(h:GrowD w a e k v rows):∃A n c,v= .slice A n c:=by
 obtain⟨A,c,e, -⟩:=h.form;exact⟨A,_,c,e⟩
def yD(o p q r:Bool)(b c d f:Option Addr)(k g l h m i n j:Nat):∀u∈[Value.bool o,.slice b k g,.bool p,.slice c l h,.bool q,.slice d m i,.bool r,.slice f n j],NoInt u∧u.oneCell'=true:=fun u a=>by
 simp at a;rcases a with rfl|rfl|rfl|rfl|rfl|rfl|rfl|rfl
 ·exact⟨NoInt.bool _,rfl⟩
 ·exact⟨NoInt.slice _ _ _,rfl⟩
 ·exact⟨NoInt.bool _,rfl⟩
 ·exact⟨NoInt.slice _ _ _,rfl⟩
 ·exact⟨NoInt.bool _,rfl⟩
 ·exact⟨NoInt.slice _ _ _,rfl⟩
 ·exact⟨NoInt.bool _,rfl⟩
 ·exact⟨NoInt.slice _ _ _,rfl⟩
section
variable {V:Rat->Nat}{sg:Rat->Int}{K:Nat}{D:Rat->Rat->Prop}{wb:World}{vc:Value}(hG:Glob wb)(hA:uN K D)(hV:∀x,V x<=1024)(hK1:1<=K)(hK2:K<=1073741824)
 (hat:∀(x:Rat) (W:World) (vr vx:Value),Bx W wb.heap.size [vc,vr] 81->Below wb.heap.size wb W->RatAt W vx x->RL K x->Calls prog 32 #[.pointer (some ⟨wb.heap.size,0,none⟩),vx] W fun e w'=>∃v',e= .returned v'∧PoAt w' v' x (V x) (decide (sg x=0))∧Below W.heap.size W w')
include hG hA hV hK1 hK2 hat
def ZR{a b:Rat}{l:List (Rat×Rat)}(h:ExK K D V sg a b l):RL K a->RL K b->∀(T:List (Rat×Rat)) (vr va vb:Value) (w:World),Bx w wb.heap.size [vc,vr] 81->Below wb.heap.size wb w->RowSp w (wb.heap.size+1) vr T->PoAt w va a (V a) (decide (sg a=0))->PoAt w vb b (V b) (decide (sg b=0))->T.length+l.length<=1048576->
  Calls prog 31 #[.pointer (some ⟨wb.heap.size,0,none⟩),va,vb] w (yC wb w vc vr (T++l)):=by
 induction h with
 | @none a b h=>
  intro ka kb T vr va vb w P al k i f hl;obtain⟨I,r,E,z,J,s,F,A,rfl,i⟩:=i;obtain⟨L,t,G,B,M,y,H,C,rfl,f⟩:=f;have bi:=hV a;have ap:=hV b;have Q:=P.lt;rw[fH];have hn:((V a:Nat):Int)-((V b:Nat):Int)<=0:=by omega
  generalize decide (sg a=0)=za at *;generalize decide (sg b=0)=zb at *;generalize V a=R at *;generalize V b=S at *;clear hat;obtain⟨W,n,c,X,Y⟩:=eL w [.bool I,.slice r E z,.bool J,.slice s F A,.int .i64 (R:Int),.bool za] 84 [.bool L,.slice t G B,.bool M,.slice y H C,.int .i64 (S:Int),.bool zb] 84;have cM:=aa X.g6 Y.g6;go_enter func31,ntmps31;go_wp2_with fail;(try rw[n]);clear n;exact aM (v:= .tuple #[]) (by simp[results,results31,go_sem]) rfl ⟨vr,rfl,P.be c,k.be c,Fr.of c (iE Q),fun g e=> .inl e⟩
 | @hit a b h ai=>
  intro ka kb T vr va vb w P al k i f hl;obtain⟨I,r,E,z,J,s,F,A,rfl,i⟩:=i;obtain⟨L,t,G,B,M,y,H,C,rfl,f⟩:=f;have ap:=hV b;have Q:=P.lt;have p:=k.lt;obtain⟨U,ac,ah⟩:=k;obtain⟨Ar,cr,rfl,bk⟩:=ac.form;have hN:((V a:Nat):Int)-((V b:Nat):Int)=1:=by omega
  clear h;have a0:=ah.1;have a1:U.length<=1073741824:=by omega
  clear a0;have am:decide (sg b=0)=true:=decide_eq_true ai;rw[am];clear am ai;generalize decide (sg a=0)=za at *;generalize V a=R at *;generalize V b=S at *;clear hat;obtain⟨W,n,c,X,Y⟩:=eL w [.bool I,.slice r E z,.bool J,.slice s F A,.int .i64 (R:Int),.bool za] 84 [.bool L,.slice t G B,.bool M,.slice y H C,.int .i64 (S:Int),.bool true] 84;have cM:=aa X.g6 Y.g6;go_enter func31,ntmps31;go_wp2_with fail;(try rw[n]);clear n;have:=St.mk c;have aq:(Value.slice Ar U.length cr).ownBlock≠some w.heap.size:=fun e=>by have:=(p _ e).2;omega
  have ad:(Value.slice Ar U.length cr).ownBlock≠some (w.heap.size+1):=fun e=>by have:=(p _ e).2;omega
  have ao:(Value.slice Ar U.length cr).ownBlock≠some wb.heap.size:=fun e=>by have:=(p _ e).1;omega
  have n1:wb.heap.size≠w.heap.size:=by omega
  have n2:wb.heap.size≠w.heap.size+1:=by omega
  have cP:=(P.up (b:=W.drew)).k2;have a9:=(P.up (b:=W)).cell 1 rfl;have dP:=fun o:Obj=>((P.up (b:=W.drew)).alloc o).cell 1 rfl;have l1:wb.heap.size<W.heap.size:=(P.up (b:=W)).lt;have l2:wb.heap.size≠W.heap.size:=Nat.ne_of_lt l1;have l3:W.heap.size≠wb.heap.size:=Nat.ne_of_gt l1;have cX:=X.k6;have cY:=Y.k6;have aw:=X.lt;have ax:=Y.lt;have bn:=Nat.ne_of_lt aw;have bo:=Nat.ne_of_lt ax
  go_region_law (first
    |(refine LB (by rfl) (by rfl) 50 8 128 _ underlying43 L6 rfl yB (by decide) (by decide) (by rfl) ac.up (by rfl) (Bx.new _ _ _) rfl (yD _ _ _ _ _ _ _ _ _ _ _ _ _ _ _ _) a1 (by have:=c.size;simp;omega) ?_;intro v9 w9 ag av O az;obtain⟨A9,L9,m9,rfl⟩:=ag.form3;have X9:=Bx.grown X.up O aq;have Y9:=Bx.grown Y.up O ad;have P9:=Bx.grown P.up O ao;have c9:=P9.g2;have bf:=X9.k6;have bg:=Y9.k6;have SP:=L7 (Up.out (a:=w)) Q P.up ⟨_,_,_,rfl⟩ ac.up (ah.ke (Keep.be (Up.out (a:=w)))) f.up f.up ag av O az))
  all_goals (
   go_wp2_with fail;obtain⟨z1,z2,z3,z4⟩:=SP;exact aM (v:= .tuple #[]) (by simp[results,results31,go_sem]) rfl ⟨_,rfl,z1,z2,z3,z4⟩)
 | @one a b h ai a2=>
  intro ka kb T vr va vb w P al k i f hl;obtain⟨I,r,E,z,J,s,F,A,rfl,i⟩:=i;obtain⟨L,t,G,B,M,y,H,C,rfl,f⟩:=f;have ap:=hV b;have Q:=P.lt;have p:=k.lt;obtain⟨U,ac,ah⟩:=k;obtain⟨Ar,cr,rfl,bk⟩:=ac.form;have hN:((V a:Nat):Int)-((V b:Nat):Int)=1:=by omega
  clear h;have a0:=ah.1;have a1:U.length<=1073741824:=by omega
  clear a0;have am:decide (sg b=0)=false:=decide_eq_false ai;have a5:decide (sg a=0)=false:=decide_eq_false a2;rw[am,a5];clear am ai a5 a2;generalize V a=R at *;generalize V b=S at *;clear hat;obtain⟨W,n,c,X,Y⟩:=eL w [.bool I,.slice r E z,.bool J,.slice s F A,.int .i64 (R:Int),.bool false] 84 [.bool L,.slice t G B,.bool M,.slice y H C,.int .i64 (S:Int),.bool false] 84;have cM:=aa X.g6 Y.g6;go_enter func31,ntmps31;go_wp2_with fail;(try rw[n]);clear n;have:=St.mk c;have aq:(Value.slice Ar U.length cr).ownBlock≠some w.heap.size:=fun e=>by have:=(p _ e).2;omega
  have ad:(Value.slice Ar U.length cr).ownBlock≠some (w.heap.size+1):=fun e=>by have:=(p _ e).2;omega
  have ao:(Value.slice Ar U.length cr).ownBlock≠some wb.heap.size:=fun e=>by have:=(p _ e).1;omega
  have n1:wb.heap.size≠w.heap.size:=by omega
  have n2:wb.heap.size≠w.heap.size+1:=by omega
  have cP:=(P.up (b:=W.drew)).k2;have a9:=(P.up (b:=W)).cell 1 rfl;have dP:=fun o:Obj=>((P.up (b:=W.drew)).alloc o).cell 1 rfl;have l1:wb.heap.size<W.heap.size:=(P.up (b:=W)).lt;have l2:wb.heap.size≠W.heap.size:=Nat.ne_of_lt l1;have l3:W.heap.size≠wb.heap.size:=Nat.ne_of_gt l1;have cX:=X.k6;have cY:=Y.k6;have aw:=X.lt;have ax:=Y.lt;have bn:=Nat.ne_of_lt aw;have bo:=Nat.ne_of_lt ax
  go_region_law (first
    |(refine LB (by rfl) (by rfl) 50 8 128 _ underlying43 L6 rfl yB (by decide) (by decide) (by rfl) ac.up (by rfl) (Bx.new _ _ _) rfl (yD _ _ _ _ _ _ _ _ _ _ _ _ _ _ _ _) a1 (by have:=c.size;simp;omega) ?_;intro v9 w9 ag av O az;obtain⟨A9,L9,m9,rfl⟩:=ag.form3;have X9:=Bx.grown X.up O aq;have Y9:=Bx.grown Y.up O ad;have P9:=Bx.grown P.up O ao;have c9:=P9.g2;have bf:=X9.k6;have bg:=Y9.k6;have SP:=L7 (Up.out (a:=w)) Q P.up ⟨_,_,_,rfl⟩ ac.up (ah.ke (Keep.be (Up.out (a:=w)))) i.up f.up ag av O az))
  all_goals (
   go_wp2_with fail;obtain⟨z1,z2,z3,z4⟩:=SP;exact aM (v:= .tuple #[]) (by simp[results,results31,go_sem]) rfl ⟨_,rfl,z1,z2,z3,z4⟩)
 | @split a b l m h h' hd hk bm hm a6 a7=>
  intro ka kb T vr va vb w P al k i f hl;obtain⟨I,r,E,z,J,s,F,A,rfl,i⟩:=i;obtain⟨L,t,G,B,M,y,H,C,rfl,f⟩:=f;have bi:=hV a;have ap:=hV b;have Q:=P.lt;have p:=k.lt;have ay:=fun W hG h=>ZW D a b (.agg #[.bool I,.slice r E z,.bool J,.slice s F A,.bool L,.slice t G B,.bool M,.slice y H C]) W hG h K ka kb hK1 hK2 hA hd;have a3:=fun W vx P c h=>hat ((a+b)/2) W vr vx P c h hk;have i1:=fun vm W P c k h1 h2=>a6 ka hk T vr (.agg #[.bool I,.slice r E z,.bool J,.slice s F A,.int .i64 (V a:Int),.bool (decide (sg a=0))]) vm W P c k h1 h2 (by rw[bE] at hl;omega);have i2:=fun v1 vm W P c k h1 h2=>a7 hk kb (T++l) v1 vm (.agg #[.bool L,.slice t G B,.bool M,.slice y H C,.int .i64 (V b:Int),.bool (decide (sg b=0))]) W P c k h1 h2 (by rw[bE] at hl⊢;omega);have bh:¬((V a:Nat):Int)-((V b:Nat):Int)<=0:=by omega
  have hZ:((V a:Nat):Int)-((V b:Nat):Int)=1->decide (sg a=0)=true∧decide (sg b=0)=false:=fun e=>⟨decide_eq_true (h' (by omega)).2,decide_eq_false (h' (by omega)).1⟩;have a4:Glob w:=hG.be al;have ae:=fun (W':World) (u:Below w.heap.size w W')=>al.trans (u.mono (iE Q));rw[<-eK];unfold iF at ay;unfold yC at i1 i2;unfold yC;clear a6 a7 hat hV h h' hl hk bm hm ka kb hG hA hd;generalize (a+b)/2=a8 at *;generalize decide (sg a=0)=za at *;generalize decide (sg b=0)=zb at *;generalize decide (sg a8=0)=zm at *;generalize V a=R at *;generalize V b=S at *;generalize V a8=nm at *;obtain⟨N,hN⟩:∃N:Int,(R:Int)-(S:Int)=N:=⟨_,rfl⟩;rw[hN] at hZ bh;have bq:IntKind.i64.wrap N=N:=IntWalk.i64_in _ ⟨by omega,by omega⟩;have bp: -1024<=N∧N<=1024:=by omega
  have ad:vr.ownBlock≠some (w.heap.size+1):=fun e=>by have:=(p _ e).2;omega
  by_cases an:N=1
  ·obtain⟨rfl,rfl⟩:=hZ an;subst an;clear hZ;obtain⟨W,n,c,X,Y⟩:=eL w [.bool I,.slice r E z,.bool J,.slice s F A,.int .i64 (R:Int),.bool true] 84 [.bool L,.slice t G B,.bool M,.slice y H C,.int .i64 (S:Int),.bool false] 84;have cM:=aa X.g6 Y.g6;go_enter func31,ntmps31;go_wp2_with fail;(try rw[n]);clear n;have bj:=c.size;have:=St.mk c;refine(ay _ (a4.be c) (SpanAt.of i.up f.up)).mono ?_;rintro e5 w5 ⟨v5,rfl,h5,aj⟩;have:=St.mk aj;obtain⟨s5,A5,k5,c5,s6,A6,k6,c6,rfl⟩:=h5.form;have ba:=aa (X.up (b:=w5)).k6 (Y.up (b:=w5)).k6;go_wp2_with fail;refine(a3 _ _ P.up (ae _ (Up.out (a:=w))) h5).mono ?_;rintro e6 w6 ⟨v6,rfl,h6,ak⟩;have:=St.mk ak;obtain⟨s7,A7,k7,c7,s8,A8,k8,c8,rfl,h7⟩:=h6;obtain⟨q,e7,au,Z⟩:=bI w6 [.bool s7,.slice A7 k7 c7,.bool s8,.slice A8 k8 c8,.int .i64 (nm:Int),.bool zm] 84;have:=St.mk au;have d:=Up.out (a:=w) (b:=q);have X7:=X.up (b:=q);have Y7:=Y.up (b:=q);have bb:=aa X7.k6 (aa Y7.k6 Z.k6);have s6:=ak.size;have s5:=aj.size;go_wp2_with fail;(try rw[e7]);(try clear e7);refine(i1 _ q (P.be d) (ae _ d) (k.be d) (PoAt.of (i.be d)) (PoAt.of h7.up)).mono ?_;rintro e8 w8 ⟨v8,rfl,P8,R8,j,O8⟩;have ar:vr.ownBlock≠some w6.heap.size:=fun e=>by have:=(p _ e).2;omega
   have Y8:=Y7.fr j (by omega) ad;have Z8:=Z.fr j (by omega) ar;have bc:=aa Y8.k6 Z8.k6;go_wp2_with fail;refine(i2 v8 _ w8 P8 ((ae _ d).trans j.be) R8 (PoAt.of ((h7.up (b:=q)).ke j.ke)) (PoAt.of ((f.be d).ke j.ke))).mono ?_;rintro e9 w9 ⟨v9,rfl,P9,R9,F9,O9⟩;have af:OwnTo w vr v8:=fun g e=>(O8 g e).imp id (fun h=>aH d.size h);go_wp2_with fail;exact bodyPost_end (v:= .tuple #[]) (by simp[results,results31,go_sem]) rfl ⟨v9,rfl,P9,R9,((Fr.of d (iE Q)).trans j (fun g e=> .inl e)).trans F9 af,af.trans O9 (aH d.size j.be.size)⟩
  ·have q1:(N==1)=false:=by simpa using an
   clear hZ an;obtain⟨W,n,c,X,Y⟩:=eL w [.bool I,.slice r E z,.bool J,.slice s F A,.int .i64 (R:Int),.bool za] 84 [.bool L,.slice t G B,.bool M,.slice y H C,.int .i64 (S:Int),.bool zb] 84;have cM:=aa X.g6 Y.g6;go_enter func31,ntmps31;go_wp2_with fail;(try rw[n]);clear n;have bj:=c.size;have:=St.mk c;refine(ay _ (a4.be c) (SpanAt.of i.up f.up)).mono ?_;rintro e5 w5 ⟨v5,rfl,h5,aj⟩;have:=St.mk aj;obtain⟨s5,A5,k5,c5,s6,A6,k6,c6,rfl⟩:=h5.form;have ba:=aa (X.up (b:=w5)).k6 (Y.up (b:=w5)).k6;go_wp2_with fail;refine(a3 _ _ P.up (ae _ (Up.out (a:=w))) h5).mono ?_;rintro e6 w6 ⟨v6,rfl,h6,ak⟩;have:=St.mk ak;obtain⟨s7,A7,k7,c7,s8,A8,k8,c8,rfl,h7⟩:=h6;obtain⟨q,e7,au,Z⟩:=bI w6 [.bool s7,.slice A7 k7 c7,.bool s8,.slice A8 k8 c8,.int .i64 (nm:Int),.bool zm] 84;have:=St.mk au;have d:=Up.out (a:=w) (b:=q);have X7:=X.up (b:=q);have Y7:=Y.up (b:=q);have bb:=aa X7.k6 (aa Y7.k6 Z.k6);have s6:=ak.size;have s5:=aj.size;go_wp2_with fail;(try rw[e7]);(try clear e7);refine(i1 _ q (P.be d) (ae _ d) (k.be d) (PoAt.of (i.be d)) (PoAt.of h7.up)).mono ?_;rintro e8 w8 ⟨v8,rfl,P8,R8,j,O8⟩;have ar:vr.ownBlock≠some w6.heap.size:=fun e=>by have:=(p _ e).2;omega
   have Y8:=Y7.fr j (by omega) ad;have Z8:=Z.fr j (by omega) ar;have bc:=aa Y8.k6 Z8.k6;go_wp2_with fail;refine(i2 v8 _ w8 P8 ((ae _ d).trans j.be) R8 (PoAt.of ((h7.up (b:=q)).ke j.ke)) (PoAt.of ((f.be d).ke j.ke))).mono ?_;rintro e9 w9 ⟨v9,rfl,P9,R9,F9,O9⟩;have af:OwnTo w vr v8:=fun g e=>(O8 g e).imp id (fun h=>aH d.size h);go_wp2_with fail;exact bodyPost_end (v:= .tuple #[]) (by simp[results,results31,go_sem]) rfl ⟨v9,rfl,P9,R9,((Fr.of d (iE Q)).trans j (fun g e=> .inl e)).trans F9 af,af.trans O9 (aH d.size j.be.size)⟩
end
end Go.Proofs.YtgjeoghojliocaaGreatDoor
namespace Go.Proofs.YtgjeoghojliocaaGreatDoor
open Sos
def ab(y M:Rat):Prop:= -M<=y∧y<=M
def ab.mono{y M N:Rat}(h:ab y M)(c:M<=N):ab y N:=by have a:=h.1;have b:=h.2;constructor<;>grind
def ab.neg{y M:Rat}(h:ab y M):ab (-y) M:=by have a:=h.1;have b:=h.2;constructor<;>grind
def ab.add{x y M N:Rat}(h:ab x M)(k:ab y N):ab (x+y) (M+N):=by have a:=h.1;have b:=h.2;have c:=k.1;have d:=k.2;constructor<;>grind
def ab.mul{x y M N:Rat}(h:ab x M)(k:ab y N):ab (x*y) (M*N):=by
 have e:=h.1;have f:=h.2;have g:=k.1;have i:=k.2
 have a:=cA (show 0<=M-x by grind) (show 0<=N+y by grind);have b:=cA (show 0<=M+x by grind) (show 0<=N-y by grind);have c:=cA (show 0<=M-x by grind) (show 0<=N-y by grind);have d:=cA (show 0<=M+x by grind) (show 0<=N+y by grind);constructor<;>grind
def axN(q:Rat):∃M,0<=M∧ab q M:=by
 rcases iY q with h|h|h
 ·exact⟨-q,by grind,by constructor<;>grind⟩
 ·exact⟨0,by grind,by constructor<;>grind⟩
 ·exact⟨q,by grind,by constructor<;>grind⟩
def kE(a:Rat)(l:List Rat)(x:Rat):aI (a :: l) x=aI l x*x+a:=rfl
def LK{l:List Rat}(h:∀i,cf l i=0)(x:Rat):aI l x=0:=by
 induction l with
 |nil=>rfl
 |cons a l b=>
  rw[kE,b (fun i=>h (i+1)),show a=0 from h 0];grind
def oT{a:List Rat}:∀{b:List Rat},(∀i,cf a i=cf b i)->∀x,aI a x=aI b x:=by
 induction a with
 |nil=>intro b h x;rw[LK (fun i=>(h i).symm.trans (eR i))];rfl
 |cons p a c=>
  intro b h x;cases b with
  |nil=>rw[LK (fun i=>(h i).trans (eR i))];rfl
  |cons q b=>rw[kE,kE,c (fun i=>h (i+1)),show p=q from h 0]
def j0:List Rat->List Rat->List Rat
 |[],b=>b
 |a,[]=>a
 |p :: a,q :: b=>(p+q) :: j0 a b
def DP(a:List Rat):∀(b:List Rat) (i:Nat),cf (j0 a b) i=cf a i+cf b i:=by
 induction a with
 |nil=>intro b i;rw[eR,Rat.zero_add];rfl
 |cons p a c=>
  intro b i;cases b with
  |nil=>rw[eR,Rat.add_zero];rfl
  |cons q b=>
   cases i with
   |zero=>rfl
   |succ i=>exact c b i
def lG(a:List Rat):∀(b:List Rat) (x:Rat),aI (j0 a b) x=aI a x+aI b x:=by
 induction a with
 |nil=>intro b x;show aI b x=0+aI b x;rw[Rat.zero_add]
 |cons p a c=>
  intro b x;cases b with
  |nil=>show aI (p :: a) x=aI (p :: a) x+0;rw[Rat.add_zero]
  |cons q b=>
   show aI (j0 a b) x*x+(p+q)=(aI a x*x+p)+(aI b x*x+q)
   rw[c];grind
def iI(c:Rat)(l:List Rat)(x:Rat):aI (l.map (fun q=>c*q)) x=c*aI l x:=by
 induction l with
 |nil=>show(0:Rat)=c*0;rw[gX]
 |cons a l b=>
  show aI (l.map (fun q=>c*q)) x*x+c*a=c*(aI l x*x+a)
  rw[b];grind
def fG(q b:List Rat):List Rat:=q.foldr (fun a r=>j0 (b.map (fun y=>a*y)) (0 :: r)) []
def fY(q b:List Rat)(x:Rat):aI (fG q b) x=aI q x*aI b x:=by
 induction q with
 |nil=>show(0:Rat)=0*aI b x;rw[Rat.zero_mul]
 |cons a q c=>
  show aI (j0 (b.map (fun y=>a*y)) (0 :: fG q b)) x=(aI q x*x+a)*aI b x
  rw[lG,iI,kE,c];grind
def axO(f:Nat->Rat)(n:Nat):bW f (n+1)=f 0+bW (fun k=>f (k+1)) n:=by
 induction n with
 |zero=>show 0+f 0=f 0+0;grind
 |succ n a=>show bW f (n+1)+f (n+1)=f 0+(bW (fun k=>f (k+1)) n+f (n+1));rw[a];grind
def uU(q b:List Rat):∀i,cf (fG q b) i=conv (cf q) (cf b) i:=by
 induction q with
 |nil=>intro i;rw[lK (fun k=>eR k)];exact eR i
 |cons a q c=>
  intro i;show cf (j0 (b.map (fun y=>a*y)) (0 :: fG q b)) i=_
  rw[DP,mG (fun y=>a*y) (gX a)];unfold conv
  rw[axO];show a*cf b i+cf (0 :: fG q b) i=a*cf b (i-0)+bW (fun k=>cf q k*cf b (i-(k+1))) i
  rw[Nat.sub_zero];congr 1;cases i with
  |zero=>rfl
  |succ i=>
   show cf (fG q b) i=_
   rw[c];unfold conv
   exact mH (fun k _=>by rw[show i+1-(k+1)=i-k by omega])
def axP{A Q B C:List Rat}(h:∀i,cf A i=conv (cf Q) (cf B) i+cf C i)(x:Rat):aI A x=aI Q x*aI B x+aI C x:=by
 rw[<-fY,<-lG];exact oT (fun i=>by rw[h,DP,uU]) x
def axQ(l:List Rat){R:Rat}(d:0<=R):∃M,0<=M∧∀x,ab x R->ab (aI l x) M:=by
 induction l with
 |nil=>exact⟨0,by grind,fun x _=>by show ab 0 0;constructor<;>grind⟩
 |cons a l e=>
  obtain⟨M,c,h⟩:=e;obtain⟨N,f,k⟩:=axN a;exact⟨M*R+N,by have:=cA c d;grind,fun x b=>by rw[kE];exact((h x b).mul b).add k⟩
def bM:List Rat->Rat->Rat
 |[],_=>0
 |_ :: l,x=>bM l x*x+aI l x
def axR(l:List Rat){R:Rat}(b:0<=R):∃M,0<=M∧∀x y,ab x R->ab y R->x<=y->ab (aI l y-aI l x) (M*(y-x)):=by
 induction l with
 |nil=>exact⟨0,by grind,fun x y _ _ _=>by show ab (0-0) (0*(y-x));constructor<;>grind⟩
 |cons a l j=>
  obtain⟨M,g,h⟩:=j;obtain⟨N,o,n⟩:=axQ l b;refine⟨M*R+N,by have:=cA g b;grind,fun x y c d i=> ?_⟩;have e:aI (a :: l) y-aI (a :: l) x=(aI l y-aI l x)*y+aI l x*(y-x):=by rw[kE,kE];grind
  rw[e];have k:=(h x y c d i).mul d;have m:ab (aI l x*(y-x)) (N*(y-x)):=(n x c).mul ⟨by grind,by grind⟩;have f:(M*R+N)*(y-x)=M*(y-x)*R+N*(y-x):=by grind
  rw[f];exact k.add m
def qW(l:List Rat)(x:Rat):bM l x=aI (fW l) x:=by
 have c:∀(l:List Rat) (n:Nat),aI ((List.range l.length).map (fun i=>cf l i*((i+n:Nat):Rat))) x=bM l x*x+(n:Rat)*aI l x:=by
  intro l;induction l with
  |nil=>intro n;show(0:Rat)=0*x+(n:Rat)*0;grind
  |cons a l b=>
   intro n;rw[eG,List.range_succ_eq_map,fM,List.map_map,kE];have e:(List.range l.length).map ((fun i=>cf (a :: l) i*((i+n:Nat):Rat)) ∘ Nat.succ)=(List.range l.length).map (fun i=>cf l i*((i+(n+1):Nat):Rat)):=by
    refine List.map_congr_left (fun i _=> ?_);show cf l i*((i+1+n:Nat):Rat)=_
    rw[show i+1+n=i+(n+1) by omega]
   rw[e,b];show(bM l x*x+((n+1:Nat):Rat)*aI l x)*x+a*((0+n:Nat):Rat)=(bM l x*x+aI l x)*x+(n:Rat)*(aI l x*x+a)
   rw[bA,Rat.natCast_add];have:((1:Nat):Rat)=1:=rfl;rw[this];grind
 cases l with
 |nil=>rfl
 |cons a l=>
  have h:=c l 1;have:((1:Nat):Rat)=1:=rfl;rw[this,Rat.one_mul] at h;show bM l x*x+aI l x=_
  rw[<-h];rfl
def big(t y:Rat):Prop:=t<=y∨y<= -t
def big.mono{t u y:Rat}(h:big t y)(a:u<=t):big u y:=by rcases h with h|h;exact .inl (by grind);exact .inr (by grind)
def DM{t y:Rat}(h:¬big t y): -t<y∧y<t:=by unfold big at h;constructor<;>grind
def axH(t y:Rat):big t y∨ -t<y∧y<t:=by
 by_cases h:big t y
 ·exact .inl h
 ·exact .inr (DM h)
def uR(R M:Rat)(F:Rat->Rat):Prop:=∀x y,ab x R->ab y R->x<=y->ab (F y-F x) (M*(y-x))
def sF(x:Rat)(F:Rat->Rat):Int:=(F x).num.sign
def yK{x:Rat}{F:Rat->Rat}(h:0<F x):sF x F=1:=(fS _).1 h
def yL{x:Rat}{F:Rat->Rat}(h:F x<0):sF x F= -1:=(fS _).2 h
def axI{x:Rat}{F:Rat->Rat}(h:F x=0):sF x F=0:=by unfold sF;rw[h];rfl
def uS(x:Rat)(F:Rat->Rat):F x<0∧sF x F= -1∨F x=0∧sF x F=0∨0<F x∧sF x F=1:=by
 rcases iY (F x) with h|h|h
 ·exact .inl ⟨h,yL h⟩
 ·exact .inr (.inl ⟨h,axI h⟩)
 ·exact .inr (.inr ⟨h,yK h⟩)
inductive Chn(R Qb D e:Rat):(Rat->Rat)->List (Rat->Rat)->Prop
 |last {F:Rat->Rat} (h:∀x,ab x R->big e (F x)):Chn R Qb D e F []
 |two {F G:Rat->Rat} (t:Chn R Qb D e G []):Chn R Qb D e F [G]
 |step {F G H:Rat->Rat} {l:List (Rat->Rat)} (h:∀x,ab x R->∃q c d,ab q Qb∧1<=c∧c<=D∧1<=d∧d<=D∧c*F x=q*G x-d*H x) (t:Chn R Qb D e G (H :: l)):Chn R Qb D e F (G :: H :: l)
def axJ{t u b D q c d f g h:Rat}(l:0<u)(v:u*(b+D)=t)(o:0<=t)(j:ab q b)(p:1<=c)(r:1<=d)(s:d<=D)(i:ab g u)(e:c*f=q*g-d*h):(t<=f->h<= -u)∧(f<= -t->u<=h):=by
 have x:=(j.mul i).1;have y:=(j.mul i).2;have w:=cA (show 0<=D-d by grind) (Rat.le_of_lt l);refine⟨fun k=> ?_,fun k=> ?_⟩
 ·by_cases a:h<= -u
  ·exact a
  ·have m:=Rat.mul_pos (show 0<d by grind) (show 0<h+u by grind);have n:=cA (show 0<=c-1 by grind) (show 0<=f by grind);grind
 ·by_cases a:u<=h
  ·exact a
  ·have m:=Rat.mul_pos (show 0<d by grind) (show 0<u-h by grind);have n:=cA (show 0<=c-1 by grind) (show 0<= -f by grind);grind
def axK{t a D q c d f g h:Rat}(j:0<t)(n:0<=a)(i:ab q a)(o:1<=c)(p:c<=D)(r:1<=d)(b:ab g t)(l: -t<f)(m:f<t)(e:c*f=q*g-d*h):¬big (t*(a+D)) h:=by
 have x:=(i.mul b).1;have y:=(i.mul b).2;have s:=cA (show 0<=D-c by grind) (Rat.le_of_lt j);have u:=Rat.mul_pos (show 0<c by grind) (show 0<t-f by grind);have v:=Rat.mul_pos (show 0<c by grind) (show 0<t+f by grind);have w:=cA (Rat.le_of_lt j) (show 0<=a+D by grind);intro k;rcases k with k|k
 ·have:=cA (show 0<=d-1 by grind) (show 0<=h by grind);grind
 ·have:=cA (show 0<=d-1 by grind) (show 0<= -h by grind);grind
def mT{Z:Rat}(h:1<=Z)(n:Nat):1<=Z^n:=by
 induction n with
 |zero=>rw[Rat.pow_zero];exact Rat.le_refl
 |succ n a=>
  rw[Rat.pow_succ];have:=cA (show 0<=Z^n-1 by grind) (show 0<=Z-1 by grind);grind
def kP(l s:Int)(t:List Int)(h:s≠0):aY l (s :: t)=(if l≠0∧s≠l then 1 else 0)+aY s t:=by
 show(if s=0 then _ else _)=_
 rw[if_neg h]
def DO(l:Int)(t:List Int):aY l (0 :: t)=aY l t:=by show(if (0:Int)=0 then _ else _)=_;rw[if_pos rfl]
def LG{s g:Int}(b:s=1∨s= -1)(a:g=1∨g=0∨g= -1)(t:List Int):aY s (g :: -s :: t)=aY s (-s :: t):=by
 rcases a with rfl|rfl|rfl<;>rcases b with rfl|rfl<;>simp[aY]
def uT{a b W t:Rat}{F:Rat->Rat}(h:big t (F a))(d:ab (F b-F a) W)(g:W<t)(f:0<t):sF a F=sF b F∧(t<=F a∧sF a F=1∨F a<= -t∧sF a F= -1):=by
 have i:=d.1;have j:=d.2;rcases h with h|h
 ·have c:=yK (x:=a) (F:=F) (by grind);have e:=yK (x:=b) (F:=F) (by grind);exact⟨by omega,.inl ⟨h,c⟩⟩
 ·have c:=yL (x:=a) (F:=F) (by grind);have e:=yL (x:=b) (F:=F) (by grind);exact⟨by omega,.inr ⟨h,c⟩⟩
def LH{x y b:Int}{t u:List Int}(c:x=1∨x= -1)(e:x=y)(h:aY x t=aY x u):aY b (x :: t)=aY b (y :: u):=by
 subst e;have a:x≠0:=by omega
 rw[kP _ _ _ a,kP _ _ _ a,h]
def LI(x:Rat)(F:Rat->Rat):sF x F=1∨sF x F=0∨sF x F= -1:=by
 rcases uS x F with h|h|h
 ·exact .inr (.inr h.2)
 ·exact .inr (.inl h.2)
 ·exact .inl h.2
def LJ{R f D e M:Rat}(hQ:0<=f)(hD:1<=D){a b:Rat}(o:ab a R)(z:ab b R)(y:a<=b)(V:0<=M):∀(n:Nat) (F:Rat->Rat) (l:List (Rat->Rat)),l.length<=n->Chn R f D e F l->(∀G∈F :: l,uR R M G)->∀t,0<t->t<=e->M*(b-a)*(f+D)^l.length<t->big t (F a)->
  ∀s,aY s ((F :: l).map (sF a))=aY s ((F :: l).map (sF b)):=by
 have x:0<=M*(b-a):=cA V (by grind);intro n;induction n with
 |zero=>
  intro F l C Q k t i E B A s;obtain rfl:l=[]:=bX (by omega);obtain⟨w,L⟩:=uT A (k F (by simp) a b o z y) (by rwa [List.length_nil,Rat.pow_zero,Rat.mul_one] at B) i;exact LH (by omega) w rfl
 |succ n I=>
  intro F l C Q k t i E B A s;have hp:=mT (Z:=f+D) (by grind) l.length;have P:M*(b-a)<t:=by
   have:=cA x (show 0<=(f+D)^l.length-1 by grind);grind
  obtain⟨w,L⟩:=uT A (k F (by simp) a b o z y) P i;rw[fM,fM];refine LH (by omega) w ?_;cases Q with
  |last h=>rfl
  | @two _ G v=>
   cases v with
   |last h=>exact I G [] (by simp) (.last h) (fun g j=>k g (by simp at j;simp[j])) t i E (by rw[List.length_nil,Rat.pow_zero,Rat.mul_one];exact P) ((h a o).mono E) _
  | @step _ G H l h v=>
   have T:0<f+D:=by grind
   have ae:t/(f+D)*(f+D)=t:=gW (by grind);have m:0<t/(f+D):=by rw[Rat.div_def];exact Rat.mul_pos i (Rat.inv_pos.2 T)
   generalize t/(f+D)=u at *;have ah:u<=t:=by have:=cA (Rat.le_of_lt m) (show 0<=f+D-1 by grind);grind
   rw[eG,Rat.pow_succ] at B;have S:M*(b-a)*(f+D)^(H :: l).length<u:=by
    by_cases ad:M*(b-a)*(f+D)^(H :: l).length<u
    ·exact ad
    ·have:=cA (show 0<=M*(b-a)*(f+D)^(H :: l).length-u by grind) (Rat.le_of_lt T);grind
   rcases axH u (G a) with hg|⟨af,ag⟩
   ·exact I G (H :: l) (by rw[eG] at C;omega) v (fun g j=>k g (j8 _ j)) u m (by grind) S hg _
   ·obtain⟨q,c,d,hq,W, -,Y,ac,U⟩:=h a o;have tH:Chn R f D e H l:=by
     cases v with
     |two t=>exact t
     |step _ t=>exact t
    obtain⟨z1,z2⟩:=axJ m ae (Rat.le_of_lt i) hq W Y ac (show ab (G a) u from⟨by grind,by grind⟩) U;have p:big u (H a)∧sF a H= -sF a F:=by
     rcases L with ⟨J,K⟩|⟨J,K⟩
     ·have:=z1 J;exact⟨.inr this,by rw[K,yL (by grind)]⟩
     ·have:=z2 J;exact⟨.inl this,by rw[K,yK (by grind)];rfl⟩
    have X:M*(b-a)*(f+D)^l.length<u:=by
     rw[eG,Rat.pow_succ] at S;have:=cA (cA x (show 0<=(f+D)^l.length by have:=mT (Z:=f+D) (by grind) l.length;grind)) (show 0<=f+D-1 by grind);grind
    have O:∀g∈H :: l,uR R M g:=fun g j=>k g (j8 _ (j8 _ j));have r:=I H l (by rw[eG,eG] at C;omega) tH O u m (by grind) X p.1 (sF a F)
    have N:=(uT p.1 (O H (by simp) a b o z y) (by
     have:=mT (Z:=f+D) (by grind) l.length;have:=cA x (show 0<=(f+D)^l.length-1 by grind);grind) m).1
    rw[fM,fM,<-N,p.2] at r;rw[fM,fM,fM,fM,<-N,p.2,LG (by omega) (LI a G),LG (by omega) (LI b G)];exact r
def axL{R a D e:Rat}(r:0<=a)(C:1<=D){x:Rat}(m:ab x R){F:Rat->Rat}{l:List (Rat->Rat)}(h:Chn R a D e F l):∀t,0<t->t*(a+D)^l.length<=e->big t (F x)∨∃G n,l=G :: n∧big t (G x):=by
 induction h with
 |last h=>intro t b f;rw[List.length_nil,Rat.pow_zero,Rat.mul_one] at f;exact .inl ((h x m).mono f)
 | @two F G t j=>
  intro t b f;have g:=cA (Rat.le_of_lt b) (show 0<=a+D-1 by grind);have:(a+D)^[G].length=a+D:=by rw[iJ,Rat.pow_succ,Rat.pow_zero,Rat.one_mul]
  rw[this] at f;rcases j t b (by rw[List.length_nil,Rat.pow_zero,Rat.mul_one];grind) with h|⟨_,_,h,_⟩
  ·exact .inr ⟨G,[],rfl,h⟩
  ·cases h
 | @step F G H l h t j=>
  intro t b f;have E:=cA (Rat.le_of_lt b) (show 0<=a+D-1 by grind);rw[eG,Rat.pow_succ] at f;have A:0<t*(a+D):=Rat.mul_pos b (by grind);by_cases g:big t (F x)
  ·exact .inl g
  ·by_cases i:big t (G x)
   ·exact .inr ⟨G,_,rfl,i⟩
   ·exfalso;have o:=DM g;have I:=DM i;obtain⟨q,c,d,y,s,u,v, -,p⟩:=h x m;have z:=axK b r y s u v (show ab (G x) t from⟨by grind,by grind⟩) o.1 o.2 p;rcases j (t*(a+D)) A (by grind) with k|⟨B,n,w,k⟩
    ·exact i (k.mono (by grind))
    ·injection w with hl1 hl2;subst hl1;exact z k
def Lc(V:Rat->Nat)(s:Rat->Int)(a b:Rat):Prop:=(V a=V b∧s b≠0∧(s a≠0->s b=s a))∨(V a=V b+1∧s a≠0∧s b≠s a)
def axM{R f D e M g d:Rat}(K:0<=f)(I:1<=D)(he:0<e)(A:0<=M)(W:0<=g){F:Rat->Rat}{l:List (Rat->Rat)}(L:Chn R f D e F l)(J:∀G∈F :: l,uR R M G)(hT:∀G c,l=G :: c->∀x y,ab x R->ab y R->∃m r,1<=m∧ab r g∧F y=F x+(y-x)*(m*G x+(y-x)*r))(hd:0<d)(ac:d*((M+g+1)*(f+D)^l.length)*(2*(f+D)^l.length)<=e):
  ∀a b,ab a R->ab b R->a<b->b-a<=d->Lc (fun x=>aY 0 ((F :: l).map (sF x))) (fun x=>sF x F) a b:=by
 have hp:=mT (Z:=f+D) (by grind) l.length;obtain⟨Z,v⟩:∃Z,(f+D)^l.length=Z:=⟨_,rfl⟩;rw[v] at hp ac;have n:0<Z:=by grind
 obtain⟨t,p,ht⟩:∃t,0<t∧t*Z=e:=⟨e/Z,by rw[Rat.div_def];exact Rat.mul_pos he (Rat.inv_pos.2 n),gW (by grind)⟩;have ae:t<=e:=by have:=cA (Rat.le_of_lt p) (show 0<=Z-1 by grind);grind
 have aj:0<(M+g+1)*Z:=Rat.mul_pos (by grind) n;have ak:d*((M+g+1)*Z)<=t/2:=by
  by_cases h:d*((M+g+1)*Z)<=t/2
  ·exact h
  ·have:=Rat.mul_pos (show 0<d*((M+g+1)*Z)-t/2 by grind) n;grind
 intro a b o w ai an;have al:(b-a)*((M+g+1)*Z)<=t/2:=by
  have:=cA (show 0<=d-(b-a) by grind) (Rat.le_of_lt aj);grind
 have n1:=cA (cA W (Rat.le_of_lt n)) (show 0<=b-a by grind);have n2:=cA (cA A (Rat.le_of_lt n)) (show 0<=b-a by grind);have n3:=cA (Rat.le_of_lt n) (show 0<=b-a by grind);have ah:M*(b-a)*Z<t:=by grind
 have ag:g*(b-a)<t:=by
  have:=cA (cA W (show 0<=b-a by grind)) (show 0<=Z-1 by grind);grind
 have Y:0<=M*(b-a):=cA A (by grind);have X:M*(b-a)<t:=by
  have:=cA Y (show 0<=Z-1 by grind);grind
 have B:a<=b:=Rat.le_of_lt ai;rcases axL K I o L t p (by rw[v,ht];exact Rat.le_refl) with h|⟨G,c,rfl,h⟩
 ·have T:=LJ K I o w B A l.length F l aE L J t p ae (by rw[v];exact ah) h 0;obtain⟨U,h3⟩:=uT h (J F (by simp) a b o w B) X p;exact .inl ⟨T,by show sF b F≠0;omega,fun _=>U.symm⟩
 ·have tG:Chn R f D e G c:=by
   cases L with
   |two t=>exact t
   |step _ t=>exact t
  have V:∀C∈G :: c,uR R M C:=fun C af=>J C (j8 _ af);rw[eG,Rat.pow_succ] at v
  have N:=LJ K I o w B A c.length G c aE tG V t p ae (by
   have T:=mT (Z:=f+D) (by grind) c.length;have U:=cA (cA Y (show 0<=(f+D)^c.length by grind)) (show 0<=f+D-1 by grind);have h3:M*(b-a)*Z=M*(b-a)*(f+D)^c.length+M*(b-a)*(f+D)^c.length*(f+D-1):=by rw[<-v];grind
   clear ag al n1 n2 n3 hd ak ac;grind) h
  obtain⟨z,g2⟩:=uT h (V G (by simp) a b o w B) X p;obtain⟨m,r,ao,hr,eF⟩:=hT G c rfl a b o w;have ad:ab ((b-a)*r) (g*(b-a)):=by
   have:=hr.mul (show ab (b-a) (b-a) from⟨by grind,by grind⟩);rw[Rat.mul_comm];exact this
  have r1:=ad.1;have r2:=ad.2;have k:=N 0;have Q:=N (sF a F);have S:=N (sF b F);unfold Lc;show(aY 0 ((F :: G :: c).map (sF a))=aY 0 ((F :: G :: c).map (sF b))∧sF b F≠0∧(sF a F≠0->sF b F=sF a F))∨(aY 0 ((F :: G :: c).map (sF a))=aY 0 ((F :: G :: c).map (sF b))+1∧sF a F≠0∧sF b F≠sF a F)
  rw[fM,fM];rw[fM,fM] at k Q S;rw[fM,fM];have E:sF a G≠0:=by omega
  have H:sF b G≠0:=by omega
  rw[kP _ _ _ E,kP _ _ _ H] at k Q S;rw[if_neg (by simp),if_neg (by simp)] at k;have am:(0<F b-F a∧sF a G=1)∨(F b-F a<0∧sF a G= -1):=by
   rcases g2 with ⟨k1,O⟩|⟨k1,O⟩
   ·have:=cA (show 0<=m-1 by grind) (show 0<=G a by grind);have:=Rat.mul_pos (show 0<b-a by grind) (show 0<m*G a+(b-a)*r by grind);exact .inl ⟨by grind,O⟩
   ·have:=cA (show 0<=m-1 by grind) (show 0<= -(G a) by grind);have:=Rat.mul_pos (show 0<b-a by grind) (show 0< -(m*G a+(b-a)*r) by grind);exact .inr ⟨by grind,O⟩
  have va:aY 0 (sF a F :: sF a G :: c.map (sF a))=(if sF a F≠0∧sF a G≠sF a F then 1 else 0)+aY (sF a G) (c.map (sF a)):=by
   by_cases u:sF a F=0
   ·rw[u,DO,kP _ _ _ E]
   ·rw[kP _ _ _ u,kP _ _ _ E,if_neg (by simp),bA]
  have vb:aY 0 (sF b F :: sF b G :: c.map (sF b))=(if sF b F≠0∧sF b G≠sF b F then 1 else 0)+aY (sF b G) (c.map (sF b)):=by
   by_cases u:sF b F=0
   ·rw[u,DO,kP _ _ _ H]
   ·rw[kP _ _ _ u,kP _ _ _ H,if_neg (by simp),bA]
  rw[va,vb];rcases am with ⟨m1,P⟩|⟨m1,P⟩
  ·rw[P] at z k⊢;rw[<-z] at k⊢;rcases uS a F with ⟨q,i⟩|⟨q,i⟩|⟨q,i⟩<;>rcases uS b F with ⟨s,j⟩|⟨s,j⟩|⟨s,j⟩<;>rw[i,j]<;>first|(exfalso;grind)|(simp;omega)
  ·rw[P] at z k⊢;rw[<-z] at k⊢;rcases uS a F with ⟨q,i⟩|⟨q,i⟩|⟨q,i⟩<;>rcases uS b F with ⟨s,j⟩|⟨s,j⟩|⟨s,j⟩<;>rw[i,j]<;>first|(exfalso;grind)|(simp;omega)
def axE(n:Nat):(n:Rat)<=2^n:=by
 induction n with
 |zero=>rw[Rat.pow_zero];decide
 |succ n a=>
  rw[Rat.pow_succ,Rat.natCast_add,show((1:Nat):Rat)=1 from rfl];have:=mT (Z:=2) (by decide) n;grind
def axF(q:Rat):∃n:Nat,q<=(n:Rat):=by
 refine⟨q.num.natAbs,?_⟩;rcases iY q with h|h|h
 ·have:(0:Rat)<=(q.num.natAbs:Rat):=by exact_mod_cast dC _
  grind
 ·have:(0:Rat)<=(q.num.natAbs:Rat):=by exact_mod_cast dC _
  grind
 ·have f:(1:Rat)<=((q.den:Int):Rat):=by
   have:(1:Int)<=(q.den:Int):=by have:=q.den_pos;omega
   exact_mod_cast this
  have c:((q.den:Int):Rat)≠0:=by grind
  have e:q*((q.den:Int):Rat)=((q.num:Int):Rat):=by
   have a:=oU q;rw[<-Rat.intCast_natCast] at a;have b:((q.num:Int):Rat)/((q.den:Int):Rat)*((q.den:Int):Rat)=((q.num:Int):Rat):=gW c;rw[<-a] at b;exact b
  have hn:((q.num.natAbs:Nat):Rat)=((q.num:Int):Rat):=by
   have:=pK h;rw[<-Rat.intCast_natCast,show((q.num.natAbs:Nat):Int)=q.num by omega]
  rw[hn,<-e];have:=cA (Rat.le_of_lt h) (show 0<=((q.den:Int):Rat)-1 by grind);grind
def axG{d:Rat}(a:0<d)(L:Rat):∃n:Nat,L<=d*2^n:=by
 obtain⟨n,hn⟩:=axF (L/d);have b:=axE n;refine⟨n,?_⟩;have c:L/d*d=L:=gW (by grind);have:=cA (show 0<=2^n-L/d by grind) (Rat.le_of_lt a);grind
structure Vs(R d:Rat)(V:Rat->Nat)(s:Rat->Int):Prop where
 d0:0<d
 loc:∀a b,ab a R->ab b R->a<b->b-a<=d->Lc V s a b
section
variable {R d:Rat}{V:Rat->Nat}{s:Rat->Int}(h:Vs R d V s)
include h
def Vs.halves{P:Rat->Rat->Prop}(l:∀a b,ab a R->ab b R->a<b->b-a<=d->P a b)(m:∀a b c,ab a R->ab b R->ab c R->a<c->c<b->P a c->P c b->P a b):∀a b,ab a R->ab b R->a<b->P a b:=by
 have o:∀(n:Nat) a b,ab a R->ab b R->a<b->b-a<=d*2^n->P a b:=by
  intro n;induction n with
  |zero=>intro a b e f g i;exact l a b e f g (by rw[Rat.pow_zero,Rat.mul_one] at i;exact i)
  |succ n k=>
   intro a b e f g i;rw[Rat.pow_succ] at i;have p:=e.1;have q:=e.2;have r:=f.1;have t:=f.2
   have j:ab ((a+b)/2) R:=⟨by grind,by grind⟩;exact m a b ((a+b)/2) e f j (by grind) (by grind) (k _ _ e j (by grind) (by grind)) (k _ _ j f (by grind) (by grind))
 intro a b e f g;obtain⟨n,hn⟩:=axG h.d0 (b-a);exact o n a b e f g hn
def Vs.mono:∀a b,ab a R->ab b R->a<b->V b<=V a:=by
 refine h.halves (fun a b g j i k=> ?_) (fun a b c _ _ _ _ _ e f=>aH f e);rcases h.loc a b g j i k with ⟨e, -⟩|⟨e, -⟩<;>omega
def Vs.same:∀a b,ab a R->ab b R->a<b->V a=V b->s b≠0∧(s a≠0->s b=s a):=by
 refine h.halves (fun a b e f q u p=> ?_) (fun a b c e f g r t n o p=> ?_)
 ·rcases h.loc a b e f q u with ⟨-,v,w⟩|⟨k, -⟩
  ·exact⟨v,w⟩
  ·omega
 ·have x:=h.mono a c e g r;have y:=h.mono c b g f t;obtain⟨i,j⟩:=n (by omega);obtain⟨l,m⟩:=o (by omega);exact⟨l,fun k=>(m i).trans (j k)⟩
def Vs.none:∀a b,ab a R->ab b R->a<b->(∀x y,a<=x->x<y->y<=b->s x≠0->s y=s x)->V a=V b:=by
 refine h.halves (fun a b g j i p e=> ?_) (fun a b c g j u t v n o e=> ?_)
 ·rcases h.loc a b g j i p with ⟨k, -⟩|⟨-,q,r⟩
  ·exact k
  ·exact absurd (e a b Rat.le_refl i Rat.le_refl q) r
 ·rw[n (fun x y l f m=>e x y l f (by grind)),o (fun x y l f m=>e x y (by grind) f m)]
end
inductive Ex(V:Rat->Nat)(s:Rat->Int):Rat->Rat->List (Rat×Rat)->Prop
 |none {a b:Rat} (h:V a=V b):Ex V s a b []
 |hit {a b:Rat} (h:V a=V b+1) (hb:s b=0):Ex V s a b [(b,b)]
 |one {a b:Rat} (h:V a=V b+1) (hb:s b≠0) (ha:s a≠0):Ex V s a b [(a,b)]
 |split {a b:Rat} {l m:List (Rat×Rat)} (h:V b<V a) (h':V a=V b+1->s b≠0∧s a=0) (hl:Ex V s a ((a+b)/2) l) (hm:Ex V s ((a+b)/2) b m):Ex V s a b (l++m)
def Vs.ex{R d:Rat}{V:Rat->Nat}{s:Rat->Int}(h:Vs R d V s):∀(n:Nat) a b,ab a R->ab b R->a<b->b-a<=d*2^n->∃l,Ex V s a b l:=by
 intro n;induction n with
 |zero=>
  intro a b c e o j;rw[Rat.pow_zero,Rat.mul_one] at j;rcases h.loc a b c e o j with ⟨i, -⟩|⟨i,v, -⟩
  ·exact⟨_,.none i⟩
  ·by_cases p:s b=0
   ·exact⟨_,.hit i p⟩
   ·exact⟨_,.one i p v⟩
 |succ n r=>
  intro a b c e o j;have D:=h.mono a b c e o;by_cases u:V a=V b
  ·exact⟨_,.none u⟩
  ·by_cases f:V a=V b+1∧s b=0
   ·exact⟨_,.hit f.1 f.2⟩
   ·by_cases g:V a=V b+1∧s a≠0
    ·exact⟨_,.one g.1 (fun k=>f ⟨g.1,k⟩) g.2⟩
    ·have z:=c.1;have A:=c.2;have B:=e.1;have C:=e.2
     have q:ab ((a+b)/2) R:=⟨by grind,by grind⟩;rw[Rat.pow_succ] at j;obtain⟨l,w⟩:=r _ _ c q (by grind) (by grind);obtain⟨m,x⟩:=r _ _ q e (by grind) (by grind);exact⟨_,.split (by omega) (fun k=>⟨fun y=>f ⟨k,y⟩,by by_cases t:s a=0;exact t;exact absurd ⟨k,t⟩ g⟩) w x⟩
def Ex.unique{V:Rat->Nat}{s:Rat->Int}{a b:Rat}{l:List (Rat×Rat)}(h:Ex V s a b l):∀{e},Ex V s a b e->l=e:=by
 induction h with
 |none h=>intro e c;cases c with
  |none=>rfl
  |hit k=>omega
  |one k=>omega
  |split k=>omega
 |hit h f=>intro e c;cases c with
  |none=>omega
  |hit=>rfl
  |one _ k=>exact absurd f k
  |split _ k=>exact absurd f (k h).1
 |one h f j=>intro e c;cases c with
  |none=>omega
  |hit _ k=>exact absurd k f
  |one=>rfl
  |split _ k=>exact absurd (k h).2 j
 |split h g r t m n=>intro e c;cases c with
  |none=>omega
  |hit k i=>exact absurd i (g k).1
  |one k i o=>exact absurd (g k).2 o
  |split _ _ p q=>rw[m p,n q]
def DQ{l:List Rat}:(∀x,aI l x=0)->∀i,cf l i=0:=by
 induction l with
 |nil=>exact fun _ i=>eR i
 |cons a l z=>
  intro h;have g:a=0:=by have:=h 0;rw[kE,gX,Rat.zero_add] at this;exact this
  have d:∀x,x≠0->aI l x=0:=fun x b=>by
   have:=h x;rw[kE,g,Rat.add_zero] at this;exact(Rat.mul_eq_zero.1 this).resolve_right b
  have o:aI l 0=0:=by
   obtain⟨M,C,q⟩:=axR l (R:=1) (by decide);have A:∀v:Rat,aI l 0=v->∀x,0<x->x<=1->ab v (M*x):=fun v hv x b c=>by
    have:=q 0 x (by constructor<;>decide) ⟨by grind,c⟩ (Rat.le_of_lt b);rw[d x (by grind),hv] at this;have e:x-0=x:=by grind
    rw[e] at this;have:=this.neg;have n: -(0-v)=v:=by grind
    rwa [n] at this
   obtain⟨v,hv⟩:∃v,aI l 0=v:=⟨_,rfl⟩;rw[hv];have k:=A v hv;have f:0<M+1:=by grind
   have m:∀u:Rat,0<u->(∀x,0<x->x<=1->u<=M*x)->False:=fun u E j=>by
    obtain⟨y,t,s⟩:∃y,0<y∧y*(M+1)=u/2:=⟨u/2/(M+1),by rw[Rat.div_def];exact Rat.mul_pos (by grind) (Rat.inv_pos.2 f),gW (by grind)⟩;by_cases w:y<=1
    ·have:=j y t w;have e:y*(M+1)=M*y+y:=by grind
     rw[e] at s;grind
    ·have B:=j 1 (by decide) (by decide);have:=cA (show 0<=y-1 by grind) (Rat.le_of_lt f);grind
   rcases iY v with D|h|r
   ·exact(m (-v) (by grind) (fun x b c=>by have:=(k x b c).1;grind)).elim
   ·exact h
   ·exact(m v r (fun x b c=>(k x b c).2)).elim
  have p:∀x,aI l x=0:=fun x=>by
   by_cases b:x=0
   ·rw[b];exact o
   ·exact d x b
  intro i;cases i with
  |zero=>exact g
  |succ i=>exact z p i
def LL{a b:List Rat}(h:∀x,aI a x=aI b x)(i:Nat):cf a i=cf b i:=by
 have:=DQ (l:=j0 a (b.map (fun q=>(-1)*q))) (fun x=>by rw[lG,iI,h];grind) i;rw[DP,mG (fun q=>(-1)*q) (gX _)] at this;generalize cf a i=p at *;generalize cf b i=q at *;clear h;grind
def axS{a b:List Rat}(h:∀i,cf a i=cf b i)(x:Rat):bM a x=bM b x:=by
 rw[qW,qW];exact oT (fun i=>by rw[tV,tV,h]) x
def axT(a:List Rat):∀(b:List Rat) (x:Rat),bM (j0 a b) x=bM a x+bM b x:=by
 induction a with
 |nil=>intro b x;show bM b x=0+bM b x;rw[Rat.zero_add]
 |cons p a c=>
  intro b x;cases b with
  |nil=>show bM (p :: a) x=bM (p :: a) x+0;rw[Rat.add_zero]
  |cons q b=>
   show bM (j0 a b) x*x+aI (j0 a b) x=(bM a x*x+aI a x)+(bM b x*x+aI b x)
   rw[c,lG];grind
def axU(c:Rat)(l:List Rat)(x:Rat):bM (l.map (fun q=>c*q)) x=c*bM l x:=by
 induction l with
 |nil=>show(0:Rat)=c*0;rw[gX]
 |cons a l b=>
  show bM (l.map (fun q=>c*q)) x*x+aI (l.map (fun q=>c*q)) x=c*(bM l x*x+aI l x)
  rw[b,iI];grind
def LM(q b:List Rat)(x:Rat):bM (fG q b) x=bM q x*aI b x+aI q x*bM b x:=by
 induction q with
 |nil=>show(0:Rat)=0*aI b x+0*bM b x;grind
 |cons a q c=>
  show bM (j0 (b.map (fun y=>a*y)) (0 :: fG q b)) x=(bM q x*x+aI q x)*aI b x+(aI q x*x+a)*bM b x
  rw[axT,axU];show a*bM b x+(bM (fG q b) x*x+aI (fG q b) x)=_
  rw[c,fY];grind
def uV{f u d:List Rat}(h:∀x,aI f x=aI u x*aI d x)(x:Rat):bM f x=bM u x*aI d x+aI u x*bM d x:=by
 rw[<-LM];exact axS (fun i=>LL (fun y=>by rw[h,fY]) i) x
def DvE(f:Rat->Rat)(d:List Rat):Prop:=∃u:List Rat,∀x,f x=aI u x*aI d x
def DvE.lin{f g:Rat->Rat}{d:List Rat}(h:DvE f d)(k:DvE g d)(c:Rat)(q:List Rat):DvE (fun x=>c*f x+aI q x*g x) d:=by
 obtain⟨u,a⟩:=h;obtain⟨v,hv⟩:=k;exact⟨j0 (u.map (fun y=>c*y)) (fG q v),fun x=>by rw[lG,iI,fY];show c*f x+aI q x*g x=_;rw[a,hv];grind⟩
def DvE.congr{f g:Rat->Rat}{d:List Rat}(h:DvE f d)(e:∀x,g x=f x):DvE g d:=by
 obtain⟨u,a⟩:=h;exact⟨u,fun x=>by rw[e,a]⟩
def aX(a:List Int)(x:Rat):Rat:=aI (aT 1 a) x
def sH{A Q B C:List Int}{m:Int}(h:∀i,m*cf A i=conv (cf Q) (cf B) i+cf C i)(x:Rat):(m:Rat)*aX A x=aX Q x*aX B x+aX C x:=by
 unfold aX;rw[<-iI];refine axP (fun i=> ?_) x;rw[mG (fun q=>(m:Rat)*q) (gX _),dS,dS,gL (dS 1 Q) (dS 1 B),kT,rF,<-oD];have:=h i;have a:((m*cf A i:Int):Rat)=((conv (cf Q) (cf B) i+cf C i:Int):Rat):=by rw[this]
 rw[eJ,Rat.intCast_add] at a;grind
def DR{a b:List Int}{c:Rat}(h:∀i,((cf a i:Int):Rat)=c*cf b i)(x:Rat):aX a x=c*aX b x:=by
 unfold aX;rw[<-iI];refine oT (fun i=> ?_) x;rw[mG (fun q=>c*q) (gX _),dS,dS,h];grind
def pR(r:List Int)(x:Rat):aX r x=((bC r:Int):Rat)*aX (aS r) x:=DR (fun i=>by rw[<-lW r i,eJ,Rat.mul_comm]) x
def DS(x:Rat):aX [] x=0:=rfl
def axV{B:Nat}{a b g:List Int}(h:Euc B a b g):aN b->∀d,DvE (aX a) d->DvE (aX b) d->DvE (aX g) d:=by
 induction h with
 |done a=>exact fun _ d h _=>h
 | @one a b i=>
  intro k d _ h;obtain⟨y,rfl⟩:=List.length_eq_one_iff.1 i;have z:=gJ (k y rfl);obtain⟨u,p⟩:=h;refine⟨u.map (fun q=>(1/(y:Rat))*q),fun x=> ?_⟩;have c:=p x;have e:aX [y] x=y:=by show(0:Rat)*x+1*(y:Rat)=y;grind
  have l:aX [1] x=1:=by show(0:Rat)*x+1*((1:Int):Rat)=1;rw[Rat.intCast_one];grind
  rw[e] at c;rw[l,iI,Rat.mul_assoc,<-c];grind
 | @step a b q r g m i h t s=>
  intro k d n j;refine s (gV h.r_trim) d j ?_;by_cases f:r=[]
  ·have o:aS r=[]:=bX (by rw[dF,f];rfl);rw[o];exact⟨[],fun x=>by show(0:Rat)=0*_;grind⟩
  ·have w:=gJ (nI h.r_trim f)
   obtain⟨v,hv⟩:=(n.lin j (m:Rat) (aT (-1) q)).congr (g:=aX r) (fun x=>by
    have:=sH h.id_ x;have e:aI (aT (-1) q) x= -aX q x:=by rw[uA,aX,uA];grind
    rw[e];grind)
   refine⟨v.map (fun q=>(1/((bC r:Int):Rat))*q),fun x=> ?_⟩;have c:=hv x;rw[pR] at c;rw[iI,Rat.mul_assoc,<-c];grind
def fJ(h:List Rat):Nat->List Rat
 |0=>[1]
 |n+1=>fG (fJ h n) h
def LN(h:List Rat)(n:Nat)(x:Rat):aI h x*bM (fJ h n) x=(n:Rat)*aI (fJ h n) x*bM h x:=by
 induction n with
 |zero=>show aI h x*(0*x+0)=((0:Nat):Rat)*_*_;rw[show((0:Nat):Rat)=0 from rfl];grind
 |succ n a=>
  show aI h x*bM (fG (fJ h n) h) x=((n+1:Nat):Rat)*aI (fG (fJ h n) h) x*bM h x
  rw[LM,fY,Rat.natCast_add,show((1:Nat):Rat)=1 from rfl];generalize bM (fJ h n) x=p at *;generalize aI (fJ h n) x=q at *;generalize aI h x=y at *;have:y*(p*y+q*bM h x)=y*p*y+y*q*bM h x:=by grind
  rw[this,a];grind
def axW{h:List Rat}{L:Nat}(d:cf h L≠0)(c:∀i,L<i->cf h i=0)(n:Nat):cf (fJ h n) (n*L)≠0∧∀i,n*L<i->cf (fJ h n) i=0:=by
 induction n with
 |zero=>exact⟨by rw[Nat.zero_mul];show(1:Rat)≠0;decide,fun i a=>by show cf [1] i=0;exact bV (by show 1<=i;omega)⟩
 |succ n b=>
  rw[Nat.add_mul,Nat.one_mul];refine⟨?_,fun i a=> ?_⟩
  ·show cf (fG (fJ h n) h) (n*L+L)≠0
   rw[uU,p5 b.2 c];exact m6 b.1 d
  ·show cf (fG (fJ h n) h) i=0
   rw[uU];exact rG (m:=n*L+1) (n:=L+1) (fun i a=>b.2 i (by omega)) (fun i a=>c i (by omega)) (by omega)
def axX{g:List Int}(f:g≠[])(t:aN g){h:List Rat}{L:Nat}(j:1<=L)(l:cf h L≠0)(q:∀i,L<i->cf h i=0):¬∀n,DvE (aX g) (fJ h n):=fun m=>by
 obtain⟨c,o⟩:=m g.length;have b:∀i,cf (aT 1 g) i=conv (cf (aW aV c)) (cf (fJ h g.length)) i:=fun i=>by
  rw[gL (iS c) (fun _=>rfl),<-uU];exact LL (fun x=>by rw[fY];exact o x) i
 have u:=List.length_pos_iff.2 f;have s:=jS c;generalize aW aV c=d at *;by_cases e:d=[]
 ·have:=b (g.length-1);rw[e,lK (fun k=>eR k),dS,Rat.one_mul] at this;exact gJ ((fT f).1 t) this
 ·have p:=(fT e).1 s;obtain⟨r,p2⟩:=axW l q g.length;have a:=b (d.length-1+g.length*L);rw[p5 (fun i hi=>bV (by omega)) p2,bV (by rw[fX];have:=Nat.le_mul_of_pos_right g.length j;omega)] at a;exact m6 p r a.symm
def yM(a:List Int)(x:Rat):aX (bB a) x=bM (aT 1 a) x:=by
 rw[qW];unfold aX;refine oT (fun i=> ?_) x;rw[dS,tV,dS,sB,eJ,Rat.one_mul,Rat.one_mul];congr 1
def axY{B:Nat}{w s:List Int}(h:Sqp B w s)(Z:aN w){d:List Rat}(H:DvE (aX s) d)(I:DvE (aX (bB s)) d):∀i,1<=i->cf d i=0:=by
 obtain⟨g,K,N,Y, -, -,P⟩:=h.out;obtain⟨a,f⟩:=H;obtain⟨b,M⟩:=I;have z:=lE Z;have u:∀x,aX w x=aX s x*aX g x:=fun x=>by
  have:=sH (A:=w) (Q:=s) (B:=g) (C:=[]) (m:=1) (fun i=>by rw[eR,Int.one_mul,P];omega) x;rw[Rat.intCast_one,DS] at this;grind
 have S:∀x,bM (aT 1 s) x=bM a x*aI d x+aI a x*bM d x:=uV (fun x=>f x);have T:∀x,bM (aT 1 w) x=bM (aT 1 s) x*aX g x+aX s x*bM (aT 1 g) x:=uV (fun x=>u x);have L:∀n,DvE (aX g) (fJ d n):=fun n=>by
  induction n with
  |zero=>exact⟨aT 1 g,fun x=>by show aX g x=aX g x*(0*x+1);grind⟩
  |succ n U=>
   obtain⟨c,k⟩:=U;have O:∀x,bM (aT 1 g) x=bM c x*aI (fJ d n) x+aI c x*bM (fJ d n) x:=uV (fun x=>k x);refine axV K (gV z) _ ⟨fG a c,fun x=> ?_⟩ ?_
   ·show aX w x=aI (fG a c) x*aI (fG (fJ d n) d) x
    rw[u,f,k,fY,fY];grind
   ·have J:DvE (aX (bB w)) (fJ d (n+1)):=by
     refine⟨j0 (fG b c) (j0 (fG a (fW c)) ((fG c (j0 b ((fW a).map (fun y=>(-1)*y)))).map (fun y=>(n:Rat)*y))),fun x=> ?_⟩;show _=_*aI (fG (fJ d n) d) x
     have e1:=S x;have D:=T x;have E:=O x;have F:=LN d n x;have o:=M x;have p:=f x;have G:=k x;rw[yM] at o;rw[yM,lG,lG,iI,fY,fY,fY,fY,lG,iI,<-qW,<-qW];have V:aI a x*bM d x=aI b x*aI d x-bM a x*aI d x:=by grind
     have W:aX s x*(aI c x*bM (fJ d n) x)=aI a x*aI c x*((n:Rat)*aI (fJ d n) x*bM d x):=by rw[<-F,p];grind
     have X:aI a x*aI c x*((n:Rat)*aI (fJ d n) x*bM d x)=aI c x*(n:Rat)*aI (fJ d n) x*(aI b x*aI d x-bM a x*aI d x):=by rw[<-V];grind
     rw[D,E,Rat.mul_add,W,X,o,G,p];grind
    by_cases r:bB w=[]
    ·have R:aS (bB w)=[]:=bX (by rw[dF,r];rfl);rw[R];exact⟨[],fun x=>by show(0:Rat)=0*_;grind⟩
    ·have ac:=gJ (nI z r);obtain⟨v,hv⟩:=J;refine⟨v.map (fun q=>(1/((bC (bB w):Int):Rat))*q),fun x=> ?_⟩;have e:=hv x;rw[pR] at e;rw[iI,Rat.mul_assoc,<-e];grind
 intro i hi;by_cases l:aW aV d=[]
 ·rw[<-iS d i,l,eR]
 ·have hl:=List.length_pos_iff.2 l;have t:=(fT l).1 (jS d);rw[iS] at t;rcases dE 1 (aW aV d).length with e|e
  ·exact absurd L (axX N Y (show 1<=(aW aV d).length-1 by omega) t (fun j hj=>by rw[<-iS d j];exact bV (by omega)))
  ·rw[<-iS d i];exact bV (by omega)
def DK(l:List Rat){B R:Rat}(m:0<=B)(s:0<=R)(h:∀q∈l,ab q B):(∀x,ab x R->ab (aI l x) (B*(R+2)^l.length))∧(∀x,ab x R->ab (bM l x) (B*(R+2)^l.length))∧(∀x y,ab x R->ab y R->x<=y->ab (aI l y-aI l x) (B*(R+2)^l.length*(y-x)))∧(∀x y,ab x R->ab y R->∃r,ab r (B*(R+2)^l.length)∧aI l y=aI l x+(y-x)*(bM l x+(y-x)*r)):=by
 induction l with
 |nil=>
  have i:ab 0 (B*(R+2)^([]:List Rat).length):=by
   rw[List.length_nil,Rat.pow_zero,Rat.mul_one];constructor<;>grind
  refine⟨fun x _=>i,fun x _=>i,fun x y _ _ n=> ?_,fun x y _ _=>⟨0,i,by show(0:Rat)=0+(y-x)*(0+(y-x)*0);grind⟩⟩;show ab (0-0) _
  rw[List.length_nil,Rat.pow_zero,Rat.mul_one];have:=cA m (show 0<=y-x by grind);constructor<;>grind
 |cons a l z=>
  obtain⟨d,f,j,k⟩:=z (fun q v=>h q (j8 _ v));have t:=h a iC;have u:=mT (Z:=R+2) (by grind) l.length;rw[eG,Rat.pow_succ];obtain⟨W,g⟩:∃W,B*(R+2)^l.length=W:=⟨_,rfl⟩;have D:B<=W:=by
   have:=cA m (show 0<=(R+2)^l.length-1 by grind);grind
  rw[<-Rat.mul_assoc,g];rw[g] at d f j k;clear g u;have E:0<=W*R:=cA (by grind) s;have e:W*(R+2)=W*R+W+W:=by grind
  rw[e];refine⟨fun x b=> ?_,fun x b=> ?_,fun x y b c n=> ?_,fun x y b c=> ?_⟩
  ·rw[kE];exact(((d x b).mul b).add t).mono (by grind)
  ·show ab (bM l x*x+aI l x) _
   exact(((f x b).mul b).add (d x b)).mono (by grind)
  ·have o:aI (a :: l) y-aI (a :: l) x=(aI l y-aI l x)*y+aI l x*(y-x):=by rw[kE,kE];grind
   rw[o];have A:=(j x y b c n).mul c;have C:ab (aI l x*(y-x)) (W*(y-x)):=(d x b).mul ⟨by grind,by grind⟩;have F:=cA (show 0<=W by grind) (show 0<=y-x by grind);exact(A.add C).mono (by grind)
  ·obtain⟨r,w,p⟩:=k x y b c;refine⟨r*y+bM l x,((w.mul c).add (f x b)).mono (by grind),?_⟩;show aI l y*y+a=aI l x*x+a+(y-x)*(bM l x*x+aI l x+(y-x)*(r*y+bM l x))
   rw[p];grind
def wq(k:Nat):Rat:=(((2:Int)^(64*k):Int):Rat)
def yJ{n:Int}{k:Nat}(h:nl n.natAbs<=k):ab (n:Rat) (wq k):=by
 have a:=aZ (cV n.natAbs) (cO (by unfold BN;decide) h);have b:(n.natAbs:Int)<(2:Int)^(64*k):=by
  have e:((2:Nat)^(64*k):Nat)=BN^k:=by rw[Nat.pow_mul];rfl
  have:((n.natAbs:Nat):Int)<((BN^k:Nat):Int):=by exact_mod_cast a
  rw[<-e] at this;exact_mod_cast this
 unfold wq;constructor
 ·have: -((2:Int)^(64*k))<=n:=by omega
  rw[<-Rat.intCast_neg];exact_mod_cast this
 ·have:n<=(2:Int)^(64*k):=by omega
  exact_mod_cast this
def uQ(a:List Int)(x:Rat):aX a x=aI (aT 1 a) x:=rfl
def DL{a:List Int}{k:Nat}(h:∀n∈a,nl n.natAbs<=k):∀q∈aT 1 a,ab q (wq k):=fun q b=>by
 obtain⟨n,hn,rfl⟩:=List.mem_map.1 b;rw[Rat.one_mul];exact yJ (h n hn)
def axC{K:Nat}{a b:List Int}{c:List (List Int)}(h:StT K a b c):∃z,(a :: c).getLast?=some z∧DvE (aX a) (aT 1 z)∧DvE (aX b) (aT 1 z):=by
 induction h with
 |done a=>exact⟨a,rfl,⟨[1],fun x=>by rw[uQ];show _=(0*x+1)*_;grind⟩,⟨[],fun x=>by show(0:Rat)=0*_;grind⟩⟩
 | @step a b q r m c A h t w=>
  obtain⟨z,s,f,n⟩:=w;refine⟨z,by rw[List.getLast?_cons_cons];exact s,?_,f⟩;have o:=gJ h.m0;have p:DvE (aX r) (aT 1 z):=by
   obtain⟨u,d⟩:=n;by_cases j:0<m
   ·rw[if_pos j] at d;refine⟨u.map (fun y=>(-((bC r:Int):Rat))*y),fun x=> ?_⟩;have e:=d x;have l:aX ((aS r).map (·*(-1))) x= -1*aX (aS r) x:=DR (c:= -1) (fun i=>by rw[mG (·*(-1)) (by decide),eJ];have:((-1:Int):Rat)= -1:=rfl;rw[this];grind) x;rw[pR,iI];rw[l] at e;grind
   ·rw[if_neg j] at d;refine⟨u.map (fun y=>((bC r:Int):Rat)*y),fun x=> ?_⟩;have e:=d x;rw[pR,iI];grind
  obtain⟨v,hv⟩:=(p.lin f 1 (aT 1 q)).congr (g:=fun x=>(m:Rat)*aX a x) (fun x=>by
   have:=sH h.id_ x;rw[this,uQ q];grind)
  refine⟨v.map (fun y=>(1/(m:Rat))*y),fun x=> ?_⟩;have e:=hv x;have k:(m:Rat)*aX a x=aI v x*aI (aT 1 z) x:=e;rw[iI];have:(1/(m:Rat))*((m:Rat)*aX a x)=aX a x:=by rw[<-Rat.mul_assoc,gW o,Rat.one_mul]
  rw[<-this,k];grind
def axD{z:List Int}(g:z≠[])(j:aN z)(h:∀i,1<=i->cf z i=0)(x:Rat):big 1 (aX z x):=by
 have c:cf z (z.length-1)≠0:=(fT g).1 j;have d:cf z 0≠0:=by
  by_cases f:z.length-1=0
  ·rwa [f] at c
  ·exact absurd (h _ (by omega)) c
 have e:aX z x=((cf z 0:Int):Rat):=by
  rw[uQ,oT (b:=[((cf z 0:Int):Rat)]) (fun i=> ?_)]
  ·show(0:Rat)*x+_=_;grind
  ·rw[dS,Rat.one_mul];cases i with
   |zero=>rfl
   |succ i=>rw[h (i+1) (by omega),bV (l:=[((cf z 0:Int):Rat)]) (by simp)];rfl
 rw[e];rcases Int.lt_or_gt_of_ne d with h|h
 ·exact .inr (by
   have:cf z 0<= -1:=by omega
   have a:((cf z 0:Int):Rat)<=((-1:Int):Rat):=by exact_mod_cast this
   exact a)
 ·exact .inl (by
   have:1<=cf z 0:=by omega
   have a:((1:Int):Rat)<=((cf z 0:Int):Rat):=by exact_mod_cast this
   exact a)
def yI(a:List Int)(x:Rat):sF x (aX a)=aP a 0 x:=by
 unfold sF aP;rw[if_pos rfl,JU,uQ];congr 2;exact oT (fun i=>by rw[dS,Rat.one_mul,mG (fun n:Int=>(n:Rat)) Rat.intCast_zero]) x
def ax8(s:List Int)(c:List (List Int))(x:Rat):aY 0 ((aX s :: c.map aX).map (sF x))=aY 0 ((s :: c).map (fun a=>aP a 0 x)):=by
 rw[show(aX s :: c.map aX)=(s :: c).map aX from rfl,List.map_map];congr 1;exact List.map_congr_left (fun a _=>yI a x)
def ax9{r:List Int}{K:Nat}(h:∀n∈r,nl n.natAbs<=K):ab (((bC r:Int)):Rat) (wq K):=yJ (by rw[dD];exact az4 h)
def LE(x:Rat)(m k:Nat):x^(m+k)=x^m*x^k:=by
 induction k with
 |zero=>rw[gQ,Rat.pow_zero,Rat.mul_one]
 |succ k a=>rw[Nat.add_succ,Rat.pow_succ,Rat.pow_succ,a,Rat.mul_assoc]
def pP{n:Int}(h:0<n):(1:Rat)<=(n:Rat):=by
 have:((1:Int):Rat)<=(n:Rat):=by exact_mod_cast (show(1:Int)<=n by omega)
 exact this
def axA{K:Nat}{R Q:Rat}(C:0<=R)(S:wq K*(R+2)^7<=Q){a b:List Int}{c:List (List Int)}(h:StT K a b c):a.length<=7->b.length<=7->(∀z,(a :: c).getLast?=some z->∀x,big 1 (aX z x))->Chn R Q Q 1 (aX a) (c.map aX):=by
 have V:=mT (Z:=R+2) (by grind) 7;have l:0<=wq K:=by
  unfold wq;have:(0:Int)<=2^(64*K):=fP (Int.pow_pos (by decide));exact_mod_cast this
 have W:wq K<=Q:=by
  have:=cA l (show 0<=(R+2)^7-1 by grind);grind
 have J:∀n,n<=7->(R+2)^n<=(R+2)^7:=fun n hn=>by
  obtain⟨k,G⟩:∃k,7=n+k:=⟨7-n,by omega⟩;rw[G,LE];have f:=mT (Z:=R+2) (by grind) n;have B:=mT (Z:=R+2) (by grind) k;have:=cA (show 0<=(R+2)^n by grind) (show 0<=(R+2)^k-1 by grind);grind
 induction h with
 |done a=>exact fun _ _ s=> .last (fun x _=>s a rfl x)
 | @step a b q r m c T h t y=>
  intro s H O;have w:(if 0<m then (aS r).map (·*(-1)) else aS r).length=r.length:=by
   split
   ·rw[cH,dF]
   ·exact dF r
  have o:=y H (by have:=h.r_lt;omega) (fun z P=>O z (by rw[List.getLast?_cons_cons];exact P));have D:∀x,aX r x=((bC r:Int):Rat)*aX (aS r) x:=pR r;have F:r≠[]->0<(bC r:Int):=fun j=>by have:=nI h.r_trim j;omega
  have M:∀x,0<m->aX ((aS r).map (·*(-1))) x= -1*aX (aS r) x:=fun x _=>DR (c:= -1) (fun i=>by rw[mG (·*(-1)) (by decide),eJ];have:((-1:Int):Rat)= -1:=rfl;rw[this];grind) x;have hrel:r≠[]->∀x,ab x R->∃q c d,ab q Q∧1<=c∧c<=Q∧1<=d∧d<=Q∧c*aX a x=q*aX b x-d*aX (if 0<m then (aS r).map (·*(-1)) else aS r) x:=fun j x N=>by
   have e:=sH h.id_ x;have p:=F j;have U:=(ax9 h.br).2;have u:=yJ h.bm;have X:=u.1;have Y:=u.2
   have v:ab (aX q x) Q:=((DK (aT 1 q) l C (DL h.bq)).1 x N).mono (by
    rw[fX];have f:=J q.length (by have:=h.q_len;omega);have:=cA l (show 0<=(R+2)^7-(R+2)^q.length by grind);grind)
   rw[D] at e;by_cases g:0<m
   ·rw[if_pos g,M x g];exact⟨aX q x,m,(bC r:Int),v,pP g,by grind,pP p,by grind,by grind⟩
   ·rw[if_neg g];have I:0< -m:=by have:=h.m0;omega
    have f:=pP I;rw[Rat.intCast_neg] at f;exact⟨-aX q x, -(m:Rat),(bC r:Int),v.neg,f,by grind,pP p,by grind,by grind⟩
  rw[fM];obtain⟨A,L⟩:∃A,(if 0<m then (aS r).map (·*(-1)) else aS r)=A:=⟨_,rfl⟩;rw[L] at t hrel w;clear y;cases t with
  |done=>exact .two o
  |step E B t2=>
   refine .step (hrel (fun e=>E (bX ?_))) o;rw[w,e];rfl
def p2(j:Nat):Rat:=(((2:Int)^j:Int):Rat)
def jQ(i j:Nat):p2 (i+j)=p2 i*p2 j:=by unfold p2;rw[Int.pow_add,eJ]
def jZ(j:Nat):1<=p2 j:=pP (Int.pow_pos (by decide))
def DG:p2 0=1:=rfl
def uP:p2 1=2:=rfl
def DH{i j:Nat}(h:i<=j):p2 i<=p2 j:=by
 obtain⟨k,rfl⟩:∃k,j=i+k:=⟨j-i,by omega⟩;rw[jQ];have:=cA (show 0<=p2 i by have:=jZ i;grind) (show 0<=p2 k-1 by have:=jZ k;grind);grind
def DI(i l:Nat):p2 i^l=p2 (i*l):=by
 induction l with
 |zero=>rw[Rat.pow_zero,Nat.mul_zero,DG]
 |succ l a=>rw[Rat.pow_succ,a,Nat.mul_succ,jQ]
def DJ(k:Nat):wq k=p2 (64*k):=rfl
def LF{K:Nat}{w s:List Int}{c:List (List Int)}(h:Cn K w s c)(v:aN w)(r:∀n∈aS (bB s),nl n.natAbs<=K):∀z,(s :: c).getLast?=some z->z≠[]∧aN z∧∀i,1<=i->cf z i=0:=fun z f=>by
 have t:=gV (lE h.sq.ts);have d:=h.st.mem t r;obtain⟨a,g,k,l⟩:=axC h.st;obtain rfl:a=z:=by rw[f] at g;injection g with e;exact e.symm
 obtain⟨u,p⟩:=l;have o:=axY h.sq v k ⟨u.map (fun y=>((bC (bB s):Int):Rat)*y),fun x=>by rw[pR,p,iI];grind⟩;have q:=List.mem_of_getLast? f;have j:a≠[]∧aN a:=by
  rcases List.mem_cons.1 q with e|b
  ·rw[e];exact⟨h.sq.ne,h.sq.ts⟩
  ·exact⟨(d _ b).1,(d _ b).2.1⟩
 refine⟨j.1,j.2,fun i m=> ?_⟩;have:=o i m;rw[dS,Rat.one_mul] at this;exact Rat.intCast_inj.1 this
def axB{K n:Nat}{w s:List Int}{c:List (List Int)}(h:Cn K w s c)(tw:aN w)(q:s.length<=7)(C:∀n∈s,nl n.natAbs<=K)(O:∀n∈aS (bB s),nl n.natAbs<=K)(hn:n<=330):
  Vs (p2 n) (1/p2 (13*(64*(K+37))+15)) (fun x=>aY 0 ((s :: c).map (fun a=>aP a 0 x))) (fun x=>aP s 0 x):=by
 have p:0<=p2 n:=by have:=jZ n;grind
 have td:=gV (lE h.sq.ts);have ld:(aS (bB s)).length<=6:=by rw[dF,lZ];omega
 have aj:=h.st.mem td O;have l:0<=wq K:=by rw[DJ];have:=jZ (64*K);grind
 have hS:p2 n+2<=p2 (n+2):=by
  have B:=jZ n;have e:p2 (n+2)=p2 n*4:=by rw[jQ];rfl
  rw[e];grind
 have am:(p2 n+2)^7<=p2 ((n+2)*7):=by
  rw[<-DI];have A:∀(x y:Rat),0<=x->x<=y->∀m:Nat,x^m<=y^m∧0<=x^m:=fun x y g J m=>by
   induction m with
   |zero=>rw[Rat.pow_zero,Rat.pow_zero];exact⟨Rat.le_refl,by decide⟩
   |succ m N=>
    rw[Rat.pow_succ,Rat.pow_succ];have n1:=cA (show 0<=y^m-x^m by grind) (show 0<=y by grind);have n2:=cA N.2 (show 0<=y-x by grind);exact⟨by grind,cA N.2 g⟩
  exact(A _ _ (by grind) hS 7).1
 obtain⟨Q,f⟩:∃Q,p2 (64*(K+37))=Q:=⟨_,rfl⟩;have E:wq K*(p2 n+2)^7<=Q:=by
  have B:p2 (64*K)*p2 ((n+2)*7)<=Q:=by rw[<-jQ,<-f];exact DH (by omega)
  have:=cA l (show 0<=p2 ((n+2)*7)-(p2 n+2)^7 by grind);rw[DJ] at *;grind
 have ae:1<=Q:=by rw[<-f];exact jZ _
 have I:∀m,m<=7->wq K*(p2 n+2)^m<=Q:=fun m hm=>by
  obtain⟨k,hk⟩:∃k,7=m+k:=⟨7-m,by omega⟩;rw[hk,LE] at E;have B:=mT (Z:=p2 n+2) (by grind) m;have h2:=mT (Z:=p2 n+2) (by grind) k;have:=cA (cA l (show 0<=(p2 n+2)^m by grind)) (show 0<=(p2 n+2)^k-1 by grind);grind
 have ah:∀x,aX (bB s) x=((bC (bB s):Int):Rat)*aX (aS (bB s)) x:=pR _;have ai:∀z,(s :: c).getLast?=some z->∀x,big 1 (aX z x):=fun z j x=>by
  obtain⟨z0,tz,hc⟩:=LF h tw O z j;exact axD z0 tz hc x
 have ag:=axA p E h.st q (by omega) ai;have ac:∀G∈aX s :: c.map aX,uR (p2 n) Q G:=fun G o x y u v J=>by
  have j:∃z,G=aX z∧z.length<=7∧∀n∈z,nl n.natAbs<=K:=by
   rcases List.mem_cons.1 o with e|o
   ·exact⟨s,e,q,C⟩
   ·obtain⟨z,j,rfl⟩:=List.mem_map.1 o;obtain⟨-, -,h3,V⟩:=aj z j;exact⟨z,rfl,by omega,V⟩
  obtain⟨z,rfl,ak,al⟩:=j;refine((DK (aT 1 z) l p (DL al)).2.2.1 x y u v J).mono ?_;rw[fX];have:=cA (show 0<=Q-wq K*(p2 n+2)^z.length by have:=I z.length ak;grind) (show 0<=y-x by grind);grind
 have F:(c.map aX).length<=6:=by rw[cH];have:=h.st.len;omega
 have hN:p2 (13*(64*(K+37))+15)=p2 15*Q^13:=by rw[<-f,DI,<-jQ,Nat.add_comm,dN]
 have ad:=jZ (13*(64*(K+37))+15);refine⟨by rw[Rat.div_def,Rat.one_mul];exact Rat.inv_pos.2 (by grind),fun a b ha i af hd=> ?_⟩;have H:=axM (d:=1/p2 (13*(64*(K+37))+15)) (show 0<=Q by grind) ae (show(0:Rat)<1 by decide) (show 0<=Q by grind) (show 0<=Q by grind) ag ac (fun G l' e x y u v=> ?_) (by rw[Rat.div_def,Rat.one_mul];exact Rat.inv_pos.2 (by grind)) ?_ a b ha i af hd
 ·unfold Lc at *;simp only[ax8,yI] at H;exact H
 ·have A:∀b,StT K s b c->b=aS (bB s)->c.map aX=G :: l'->b≠[]∧G=aX b:=fun b t _ e=>by
   cases t with
   |done=>cases e
   |step i h t=>rw[fM] at e;injection e with e1 _;exact⟨i,e1.symm⟩
  obtain⟨i,rfl⟩:=A _ h.st rfl e;have g:bB s≠[]:=fun g=>i (bX (by rw[dF,g];rfl));have hg:(0:Int)<(bC (bB s):Int):=by have:=nI (lE h.sq.ts) g;omega
  obtain⟨r,hr,T⟩:=(DK (aT 1 s) l p (DL C)).2.2.2 x y u v;refine⟨((bC (bB s):Int):Rat),r,pP hg,hr.mono (by rw[fX];exact I _ q),?_⟩;rw[<-ah,yM];exact T
 ·obtain⟨M,D⟩:∃M,64*(K+37)=M:=⟨_,rfl⟩;obtain⟨L,W⟩:∃L,(c.map aX).length=L:=⟨_,rfl⟩;rw[W] at F⊢;rw[D] at ad⊢;rw[D] at f;have S:Q+Q=p2 (M+1):=by rw[jQ,f,uP];grind
  have eQ:Q+Q+1<=p2 (M+2):=by
   have e:p2 (M+2)=Q*4:=by rw[jQ,f];rfl
   rw[e];grind
  rw[S] at *;rw[DI];have R:(2:Rat)*p2 ((M+1)*L)=p2 ((M+1)*L+1):=by rw[jQ,uP,Rat.mul_comm]
  rw[R];have h6:(M+1)*L<=(M+1)*6:=eV _ F;have an:p2 (M+2)*p2 ((M+1)*L)*p2 ((M+1)*L+1)<=p2 (13*M+15):=by
   rw[<-jQ,<-jQ];exact DH (by omega)
  have n0:0<=p2 ((M+1)*L)*p2 ((M+1)*L+1):=by rw[<-jQ];have:=jZ ((M+1)*L+((M+1)*L+1));grind
  generalize p2 ((M+1)*L)=X at *;generalize p2 ((M+1)*L+1)=Y at *;generalize p2 (13*M+15)=P at *;generalize p2 (M+1)=Z at *;generalize p2 (M+2)=U at *;have n1:=cA n0 (show 0<=U-(Z+1) by grind);have hP:0<P:=by grind
  have ei:1/P*P=1:=gW (by grind);have hi:0<=1/P:=by rw[Rat.div_def,Rat.one_mul];exact Rat.le_of_lt (Rat.inv_pos.2 hP)
  have n2:=cA hi (show 0<=P-(Z+1)*X*Y by grind);grind
def cN(u:Int)(j:Nat):Rat:=(u:Rat)/p2 j
def yG{u:Int}{j n:Nat}(h: -((2:Int)^(n+j))<=u): -p2 n<=cN u j:=by
 have c:=jZ j;have e:cN u j*p2 j=u:=gW (by grind);have d: -(p2 n*p2 j)<=(u:Rat):=by
  rw[<-jQ];unfold p2;rw[<-Rat.intCast_neg];exact_mod_cast h
 by_cases k: -p2 n<=cN u j
 ·exact k
 ·have:=Rat.mul_pos (show 0< -p2 n-cN u j by grind) (show 0<p2 j by grind);grind
def yH{u:Int}{j n:Nat}(h:u<=(2:Int)^(n+j)):cN u j<=p2 n:=by
 have c:=jZ j;have e:cN u j*p2 j=u:=gW (by grind);have d:(u:Rat)<=p2 n*p2 j:=by
  rw[<-jQ];unfold p2;exact_mod_cast h
 by_cases k:cN u j<=p2 n
 ·exact k
 ·have:=Rat.mul_pos (show 0<cN u j-p2 n by grind) (show 0<p2 j by grind);grind
def DE{m k:Nat}(h:m<=64*k){u:Int}(f:u.natAbs<=2^m):nl u.natAbs<=k+1:=by
 refine cJ ?_;have c:2^m<=2^(64*k):=cO (by decide) h;have d:(2:Nat)^(64*k)=BN^k:=by rw[Nat.pow_mul];rfl
 have e:BN^k<BN^(k+1):=Nat.pow_lt_pow_right (by unfold BN;decide) (Nat.lt_succ_self k);omega
def DF(m:Nat):((2:Int)^m).natAbs=2^m:=by
 rw[Int.natAbs_pow];rfl
def uO{u:Int}{j n k:Nat}(d: -((2:Int)^(n+j))<=u)(f:u<=(2:Int)^(n+j))(c:n+j<=64*k):RL (k+1) (cN u j):=by
 have e:=DF (n+j);have g:(0:Int)<2^(n+j):=Int.pow_pos (by decide);refine pM (DE c (by omega)) (DE (m:=j) (k:=k) (by omega) ?_) (by omega);rw[DF];exact aE
def LC(u:Int)(j:Nat):cN (2*u) (j+1)=cN u j:=by
 unfold cN;rw[jQ,uP,eJ,show((2:Int):Rat)=2 from rfl];have:=jZ j;grind
def ax6(u t:Int)(j:Nat):(cN u j+cN (u+t) j)/2=cN (2*u+t) (j+1):=by
 unfold cN;rw[jQ,uP,Rat.intCast_add,Rat.intCast_add,eJ,show((2:Int):Rat)=2 from rfl];have:=jZ j;grind
def LD{u t:Int}(d:0<t)(j:Nat):cN u j<cN (u+t) j:=by
 have g:=jZ j;have e:cN u j*p2 j=u:=gW (by grind);have c:cN (u+t) j*p2 j=((u+t:Int):Rat):=gW (by grind);rw[Rat.intCast_add] at c;have f:=pP d;by_cases k:cN u j<cN (u+t) j
 ·exact k
 ·have:=cA (show 0<=cN u j-cN (u+t) j by grind) (show 0<=p2 j by grind);grind
inductive ExQ(K:Nat)(V:Rat->Nat)(s:Rat->Int):Rat->Rat->List (Rat×Rat)->Prop
 |none {a b:Rat} (h:V a=V b):ExQ K V s a b []
 |hit {a b:Rat} (h:V a=V b+1) (hb:s b=0):ExQ K V s a b [(b,b)]
 |one {a b:Rat} (h:V a=V b+1) (hb:s b≠0) (ha:s a≠0):ExQ K V s a b [(a,b)]
 |split {a b:Rat} {l m:List (Rat×Rat)} (h:V b<V a) (h':V a=V b+1->s b≠0∧s a=0) (hk:RL K ((a+b)/2)) (hl:ExQ K V s a ((a+b)/2) l) (hm:ExQ K V s ((a+b)/2) b m):ExQ K V s a b (l++m)
section
variable {K K':Nat}{V V':Rat->Nat}{s s':Rat->Int}{a b:Rat}{l:List (Rat×Rat)}
def ExQ.exk(h:ExQ K V s a b l):ExK K (fun _ _=>True) V s a b l:=by
 induction h with
 |none h=>exact .none (by omega)
 |hit h c=>exact .hit h c
 |one h c e=>exact .one h c e
 |split h d f _ _ g i=>exact .split h d trivial f g i
def ExQ.mono(h:ExQ K V s a b l)(e:K<=K'):ExQ K' V s a b l:=by
 induction h with
 |none h=>exact .none h
 |hit h c=>exact .hit h c
 |one h c f=>exact .one h c f
 |split h d g _ _ i j=>exact .split h d (bU g e) i j
def ExK.unique{D m:Rat->Rat->Prop}(h:ExK K D V s a b l):∀{f:List (Rat×Rat)},ExK K' m V' s' a b f->(∀x,V x=V' x)->(∀x,s x=0↔s' x=0)->l=f:=by
 induction h with
 |none h=>intro f e c d;cases e with
  |none=>rfl
  |hit k=>rw[<-c,<-c] at k;omega
  |one k=>rw[<-c,<-c] at k;omega
  |split k=>rw[<-c,<-c] at k;omega
 |hit h g=>intro f e c d;cases e with
  |none k=>rw[<-c,<-c] at k;omega
  |hit=>rfl
  |one _ k=>exact absurd ((d _).1 g) k
  |split _ k=>exact absurd ((d _).1 g) (k (by rw[<-c,<-c];exact h)).1
 |one h g n=>intro f e c d;cases e with
  |none k=>rw[<-c,<-c] at k;omega
  |hit _ k=>exact absurd ((d _).2 k) g
  |one=>rfl
  |split _ k=>exact absurd ((d _).2 (k (by rw[<-c,<-c];exact h)).2) n
 |split h i _ _ u v o p=>intro f e c d;cases e with
  |none k=>rw[<-c,<-c] at k;omega
  |hit k j=>rw[<-c,<-c] at k;exact absurd ((d _).2 j) (i k).1
  |one k j q=>rw[<-c,<-c] at k;exact absurd ((d _).1 (i k).2) q
  |split _ _ _ _ r t=>rw[o r c d,p t c d]
end
def Vs.exk{d:Rat}{V:Rat->Nat}{s:Rat->Int}{n N m:Nat}(h:Vs (p2 n) d V s)(G:1/p2 N<=d)(R:n+(N+n+1)<=64*m):∀(k j:Nat) (u:Int),j+k=N+n+1-> -((2:Int)^(n+j))<=u->u+2^(n+1)<=(2:Int)^(n+j)->
  ∃l,ExQ (m+1) V s (cN u j) (cN (u+2^(n+1)) j) l∧(∀p∈l,RL (m+1) p.1∧RL (m+1) p.2)∧l.length+V (cN (u+2^(n+1)) j)<=V (cN u j):=by
 intro k;induction k with
 |zero=>
  intro j u H o q;have c:(0:Int)<2^(n+1):=Int.pow_pos (by decide);have r:ab (cN u j) (p2 n):=⟨yG o,yH (by omega)⟩;have t:ab (cN (u+2^(n+1)) j) (p2 n):=⟨yG (by omega),yH q⟩;have y:RL (m+1) (cN u j):=uO o (by omega) (by omega);have g:RL (m+1) (cN (u+2^(n+1)) j):=uO (by omega) q (by omega);have v:=LD (u:=u) c j;have I:cN (u+2^(n+1)) j-cN u j<=d:=by
   have e:cN (u+2^(n+1)) j-cN u j=1/p2 N:=by
    obtain rfl:j=N+(n+1):=by omega
    unfold cN;rw[jQ,Rat.intCast_add,show(((2:Int)^(n+1):Int):Rat)=p2 (n+1) from rfl];have:=jZ N;have:=jZ (n+1);grind
   rw[e];exact G
  rcases h.loc _ _ r t v I with ⟨f, -⟩|⟨f,i, -⟩
  ·exact⟨_,.none f,(fun p c=>by cases c),by rw[List.length_nil];omega⟩
  ·by_cases z:s (cN (u+2^(n+1)) j)=0
   ·exact⟨_,.hit f z,fun p c=>by rw[List.mem_singleton.1 c];exact⟨g,g⟩,by rw[iJ];omega⟩
   ·exact⟨_,.one f z i,fun p c=>by rw[List.mem_singleton.1 c];exact⟨y,g⟩,by rw[iJ];omega⟩
 |succ k A=>
  intro j u H o q;have c:(0:Int)<2^(n+1):=Int.pow_pos (by decide);have r:ab (cN u j) (p2 n):=⟨yG o,yH (by omega)⟩;have t:ab (cN (u+2^(n+1)) j) (p2 n):=⟨yG (by omega),yH q⟩;have y:RL (m+1) (cN u j):=uO o (by omega) (by omega);have g:RL (m+1) (cN (u+2^(n+1)) j):=uO (by omega) q (by omega);have v:=LD (u:=u) c j;have S:=h.mono _ _ r t v;have Q:(2:Int)^(n+(j+1))=2*2^(n+j):=by rw[show n+(j+1)=n+j+1 by omega,gR];omega
  have E:RL (m+1) (cN (2*u+2^(n+1)) (j+1)):=uO (n:=n) (by omega) (by omega) (by omega);by_cases P:V (cN u j)<=V (cN (u+2^(n+1)) j)
  ·exact⟨_,.none (by omega),(fun p c=>by cases c),by rw[List.length_nil];omega⟩
  ·by_cases f:V (cN u j)=V (cN (u+2^(n+1)) j)+1∧s (cN (u+2^(n+1)) j)=0
   ·exact⟨_,.hit f.1 f.2,fun p c=>by rw[List.mem_singleton.1 c];exact⟨g,g⟩,by rw[iJ];omega⟩
   ·by_cases i:V (cN u j)=V (cN (u+2^(n+1)) j)+1∧s (cN u j)≠0
    ·exact⟨_,.one i.1 (fun k=>f ⟨i.1,k⟩) i.2,fun p c=>by rw[List.mem_singleton.1 c];exact⟨y,g⟩,by rw[iJ];omega⟩
    ·obtain⟨l,w,M,C⟩:=A (j+1) (2*u) (by omega) (by omega) (by omega);obtain⟨L,x,O,D⟩:=A (j+1) (2*u+2^(n+1)) (by omega) (by omega) (by omega);have F:cN (2*u+2^(n+1)+2^(n+1)) (j+1)=cN (u+2^(n+1)) j:=by rw[<-LC (u+2^(n+1)) j];congr 1;omega
     rw[F] at x D;rw[LC] at w C;rw[<-ax6] at w C x D E;refine⟨l++L,.split (by omega) (fun k=>⟨fun J=>f ⟨k,J⟩,?_⟩) E w x,fun p c=> ?_,by rw[bE];omega⟩
     ·by_cases B:s (cN u j)=0
      ·exact B
      ·exact absurd ⟨k,B⟩ i
     ·rcases List.mem_append.1 c with c|c
      ·exact M p c
      ·exact O p c
def ax7{w s:List Int}{c:List (List Int)}(h:kL w s c)(y:aN w){n:Nat}(hn:n<=330):∃l,ExQ 1000000000 (fun x=>aY 0 ((s :: c).map (fun a=>aP a 0 x))) (fun x=>aP s 0 x) (((-((2:Int)^n):Int)):Rat) ((((2:Int)^n:Int)):Rat) l∧(∀p∈l,RL 1000000000 p.1∧RL 1000000000 p.2)∧l.length<=8:=by
 obtain⟨f,A,g, -, -⟩:=h;have i:=g.nums;have r:=g.1;have t:=gU (pL i (by omega));have hv:=axB f y r (fun n hn=>aH (i n hn) (by decide)) (fun n hn=>aH (t n hn) (by decide)) hn;have z:(2:Int)^(n+1)=2*2^n:=by rw[gR];omega
 have d:(0:Int)<2^n:=Int.pow_pos (by decide);obtain⟨l,j,k,v⟩:=hv.exk (N:=13*(64*(35080695+37))+15) (m:=456049527) (Rat.le_refl) (by omega) (13*(64*(35080695+37))+15+n+1) 0 (-(2^n)) (by omega) (by rw[gQ];exact Int.le_refl _) (by simp only[gQ];omega);have e:∀u:Int,cN u 0=(u:Rat):=fun u=>by unfold cN;rw[DG];grind
 rw[e,e,show -(2:Int)^n+2^(n+1)=2^n by omega] at j v;have o:=qR ((s :: c).map (fun a=>aP a 0 (((-((2:Int)^n):Int)):Rat))) 0;rw[cH,eG] at o;have q:=f.st.len;rw[dF,lZ] at q;exact⟨l,j.mono (by decide),fun p d=>⟨bU (k p d).1 (by decide),bU (k p d).2 (by decide)⟩,by omega⟩
def axZ{l:List Rat}{x0:Rat}(h:∀x,x≠x0->aI l x=0):aI l x0=0:=by
 have g:∀x,aI (fG l [-x0,1]) x=0:=fun x=>by
  rw[fY];by_cases f:x=x0
  ·have:aI [-x0,1] x=0:=by show(0*x+1)*x+ -x0=0;grind
   rw[this,gX]
  ·rw[h x f,Rat.zero_mul]
 have b:=DQ g;by_cases a:aW aV l=[]
 ·rw[<-oT (iS l) x0,a];rfl
 ·exfalso;have d:=(fT a).1 (jS l);have j:=List.length_pos_iff.2 a;have e:conv (cf (aW aV l)) (cf [-x0,1]) ((aW aV l).length-1+1)=0:=by
   rw[gL (iS l) (fun _=>rfl),<-uU];exact b _
  rw[p5 (fun i c=>bV (by omega)) (fun i c=>bV (by show 2<=i;omega))] at e;exact m6 d (show(1:Rat)≠0 by decide) e
def ay0(x0:Rat):∀l:List Rat,∃q:List Rat,q.length<=l.length-1∧∀x,aI l x=aI q x*(x-x0)+aI l x0:=by
 intro l;induction l with
 |nil=>exact⟨[],aE,fun x=>by show(0:Rat)=0*(x-x0)+0;grind⟩
 |cons a l c=>
  cases l with
  |nil=>exact⟨[],aE,fun x=>by show 0*x+a=0*(x-x0)+(0*x0+a);grind⟩
  |cons b l=>
   obtain⟨q,d,h⟩:=c;exact⟨aI (b :: l) x0 :: q,by simp only[eG] at *;omega,fun x=>by rw[kE a,h x,kE _ q,kE a (b :: l) x0];grind⟩
def sI(x0 x:Rat):aI [-x0,1] x=x-x0∧bM [-x0,1] x=1:=by
 constructor
 ·show(0*x+1)*x+ -x0=x-x0;grind
 ·show((0*x+0)*x+(0*x+1))=1;grind
def ay1(x0:Rat):∀(n:Nat) (l:List Rat),l.length<=n->(∃x,aI l x≠0)->∃(m:Nat) (h:List Rat),aI h x0≠0∧∀x,aI l x=aI (fJ [-x0,1] m) x*aI h x:=by
 intro n;induction n with
 |zero=>
  intro l c ⟨x,b⟩;obtain rfl:=bX (Nat.le_zero.1 c);exact absurd rfl b
 |succ n g=>
  intro l c ⟨x,b⟩;by_cases a:aI l x0=0
  ·obtain⟨q,i,e⟩:=ay0 x0 l;obtain⟨m,h,d,f⟩:=g q (by omega) ⟨x,fun k=>b (by rw[e,k,a];grind)⟩
   exact⟨m+1,h,d,fun y=>by
    show _=aI (fG (fJ [-x0,1] m) [-x0,1]) y*_
    rw[e,a,f,fY,(sI x0 y).1];grind⟩
  ·exact⟨0,l,a,fun y=>by show _=aI [1] y*_;show _=(0*y+1)*_;grind⟩
def ay2{x0 x:Rat}(h:x≠x0)(m:Nat):aI (fJ [-x0,1] m) x≠0:=by
 induction m with
 |zero=>show(0*x+1:Rat)≠0;grind
 |succ m a=>
  show aI (fG (fJ [-x0,1] m) [-x0,1]) x≠0
  rw[fY,(sI x0 x).1];exact m6 a (fun e=>h (by grind))
def ay3{g:List Int}(b:g≠[])(c:aN g):∃x,aX g x≠0:=by
 apply Classical.byContradiction;intro h;have a:∀x,aI (aT 1 g) x=0:=fun x=>Classical.byContradiction (fun k=>h ⟨x,k⟩);have:=DQ a (g.length-1);rw[dS,Rat.one_mul] at this;exact gJ ((fT b).1 c) this
def ay4{B:Nat}{w s:List Int}(h:Sqp B w s)(tw:aN w)(x0:Rat):aX w x0=0↔aX s x0=0:=by
 obtain⟨g,I,hg,tg, -, -,O⟩:=h.out;have d:∀x,aX w x=aX s x*aX g x:=fun x=>by
  have:=sH (A:=w) (Q:=s) (B:=g) (C:=[]) (m:=1) (fun i=>by rw[eR,Int.one_mul,O];omega) x;rw[Rat.intCast_one,DS] at this;grind
 refine⟨fun b=> ?_,fun b=>by rw[d,b,Rat.zero_mul]⟩;apply Classical.byContradiction;intro v;have N:aX g x0=0:=by
  rw[d] at b;exact(Rat.mul_eq_zero.1 b).resolve_left v
 obtain⟨k,u,R,U⟩:=(JS I).2;have S:=gJ R;have K:∀x,(k:Rat)*bM (aT 1 w) x=((bC (bB w):Int):Rat)*(aX u x*aX g x):=fun x=>by
  have a:=sH (A:=aS (bB w)) (Q:=u) (B:=g) (C:=[]) (m:=k) (fun i=>by rw[eR,U];omega) x;rw[DS] at a;rw[<-yM,pR];grind
 obtain⟨m,q,t,c⟩:=ay1 x0 (aT 1 g).length (aT 1 g) aE (ay3 hg tg);have T:m≠0:=fun e=>by
  subst e;have a:=c x0;rw[show aI (fJ [-x0,1] 0) x0=0*x0+1 from rfl] at a;have o:aI (aT 1 g) x0=0:=N;rw[o] at a;exact t (by grind)
 have V:∀x,bM (aT 1 w) x=bM (aT 1 s) x*aI (aT 1 g) x+aI (aT 1 s) x*bM (aT 1 g) x:=uV (fun x=>d x);have L:∀x,bM (aT 1 g) x=bM (fJ [-x0,1] m) x*aI q x+aI (fJ [-x0,1] m) x*bM q x:=uV c;obtain⟨G,J⟩:∃G:Rat,((bC (bB w):Int):Rat)=G:=⟨_,rfl⟩
 have ac:=axZ (x0:=x0) (l:=j0 ((fG (fG (aT 1 u) q) [-x0,1]).map (fun y=>G*y)) ((j0 (fG (fG (fW (aT 1 s)) q) [-x0,1]) (j0 ((fG (aT 1 s) q).map (fun y=>(m:Rat)*y)) (fG (fG (aT 1 s) (fW q)) [-x0,1]))).map (fun y=>(-(k:Rat))*y))) (fun x hx=>by
  rw[lG,iI,iI,lG,lG,iI,fY,fY,fY,fY,fY,fY,fY,<-qW,<-qW,(sI x0 x).1];have hP:=ay2 hx m;have a:=K x;have o:=V x;have Y:=L x;have E:=LN [-x0,1] m x;have Z:=c x;have F:aX g x=aI (aT 1 g) x:=rfl;have H:aX u x=aI (aT 1 u) x:=rfl;rw[(sI x0 x).1,(sI x0 x).2] at E;rw[J,F,H] at a;generalize aI (fJ [-x0,1] m) x=P at *;generalize bM (fJ [-x0,1] m) x=P' at *;generalize aI (aT 1 g) x=p at *;generalize bM (aT 1 g) x=r at *;generalize bM (aT 1 w) x=w1 at *;generalize aI (aT 1 s) x=n at *;generalize bM (aT 1 s) x=z at *;generalize aI (aT 1 u) x=u0 at *;generalize aI q x=j at *;generalize bM q x=X at *;generalize (m:Rat)=M at *;generalize (k:Rat)=f at *;clear b v N c T d V L K O I R S U t F H J;obtain⟨D,hD⟩:∃D,x-x0=D:=⟨_,rfl⟩;rw[hD] at E⊢;have af:P*(G*(u0*j*D)+ -f*(z*j*D+(M*(n*j)+n*X*D)))=0:=by
   have k1:r*D=M*P*j+P*X*D:=by rw[Y];grind
   have W:f*w1*D=G*(u0*p)*D:=by rw[a]
   rw[o] at W;have k3:f*(z*p+n*r)*D=f*(z*p*D+n*(r*D)):=by grind
   rw[k3,k1,Z] at W;grind
  exact(Rat.mul_eq_zero.1 af).resolve_left hP)
 rw[lG,iI,iI,lG,lG,iI,fY,fY,fY,fY,fY,fY,fY,(sI x0 x0).1] at ac;have ad:(m:Rat)≠0:=by
  have:((m:Nat):Rat)≠((0:Nat):Rat):=fun e=>T (by exact_mod_cast e);exact this
 have ae:aI (aT 1 s) x0≠0:=v;refine m6 S (m6 ad (m6 ae t)) ?_;grind
def LO{e:Int}(c:e=1∨e= -1)(t:List Int):(∀s∈t,s=1∨s=0∨s= -1)->∀l:Int,l=1∨l= -1->aY l (t++[e])%2=if l=e then 0 else 1:=by
 induction t with
 |nil=>
  intro _ l a;rw[iM,kP _ _ _ (by omega)];rcases a with rfl|rfl<;>rcases c with rfl|rfl<;>decide
 |cons s t f=>
  intro h l a;have b:=fun l a=>f (fun s d=>h s (j8 _ d)) l a;rw[List.cons_append];rcases h s iC with rfl|rfl|rfl
  ·rw[kP _ _ _ (by decide)];have:=b 1 (.inl rfl);rcases a with rfl|rfl<;>rcases c with rfl|rfl<;>simp at this⊢<;>omega
  ·rw[DO];exact b l a
  ·rw[kP _ _ _ (by decide)];have:=b (-1) (.inr rfl);rcases a with rfl|rfl<;>rcases c with rfl|rfl<;>simp at this⊢<;>omega
def qX(a:List Int)(i:Int)(x:Rat):aP a i x=1∨aP a i x=0∨aP a i x= -1:=by
 have k:∀n:Int,n.sign=1∨n.sign=0∨n.sign= -1:=fun n=>by
  rcases Int.lt_trichotomy n 0 with h|h|h
  ·exact .inr (.inr (Int.sign_eq_neg_one_of_neg h))
  ·rw[h];exact .inr (.inl rfl)
  ·exact .inl (Int.sign_eq_one_of_pos h)
 unfold aP;split
 ·exact k _
 ·split
  ·have:=k (cf a (a.length-1));omega
  ·exact k _
def ay5{z:List Int}(h:∀i,1<=i->cf z i=0)(x:Rat):aX z x=((cf z 0:Int):Rat):=by
 rw[uQ,oT (b:=[((cf z 0:Int):Rat)]) (fun i=> ?_)]
 ·show(0:Rat)*x+_=_;grind
 ·rw[dS,Rat.one_mul];cases i with
  |zero=>rfl
  |succ i=>rw[h (i+1) (by omega),bV (l:=[((cf z 0:Int):Rat)]) (by simp)];rfl
def ay6{K:Nat}{w s:List Int}{c:List (List Int)}(h:Cn K w s c)(C:aN w)(u:∀n∈aS (bB s),nl n.natAbs<=K){x y:Rat}(p:aP s 0 x≠0)(q:aP s 0 y≠0)(hn:fF s c 0 x 0 y=1):aP s 0 x*aP s 0 y<0:=by
 unfold fF at hn;obtain⟨z,g⟩:∃z,(s :: c).getLast?=some z:=⟨_,List.getLast?_eq_some_getLast (by simp)⟩;obtain⟨E,D,m⟩:=LF h C u z g;have l:∀x,aP z 0 x=(cf z 0).sign:=fun x=>by
  rw[<-yI];unfold sF;rw[ay5 m,xJ]
 rw[fM,fM,kP _ _ _ p,kP _ _ _ q,if_neg (by simp),if_neg (by simp)] at hn;have A:=qX s 0 x;have B:=qX s 0 y;rcases List.eq_nil_or_concat c with rfl|⟨f,d,rfl⟩
 ·exfalso;rw[List.map_nil,List.map_nil] at hn;simp[aY] at hn
 ·rw[List.concat_eq_append] at g hn;rw[List.getLast?_cons,List.getLast?_append] at g;obtain rfl:d=z:=by simpa using g
  have F:(cf d 0).sign≠0:=fun e=>by
   have i:cf d (d.length-1)≠0:=(fT E).1 D;have r:=Int.sign_eq_zero_iff_zero.1 e;by_cases t:d.length-1=0
   ·rw[t] at i;exact i r
   ·exact i (m _ (by omega))
  have o:(cf d 0).sign=1∨(cf d 0).sign= -1:=by
   have:=qX d 0 0;rw[l] at this;omega
  rw[List.map_append,List.map_append,List.map_singleton,List.map_singleton,l,l] at hn;have v:=LO o (f.map (fun a=>aP a 0 x)) (fun s j=>by obtain⟨a, -,rfl⟩:=List.mem_map.1 j;exact qX a 0 x) (aP s 0 x) (by omega);have p2:=LO o (f.map (fun a=>aP a 0 y)) (fun s j=>by obtain⟨a, -,rfl⟩:=List.mem_map.1 j;exact qX a 0 y) (aP s 0 y) (by omega);generalize aY (aP s 0 x) (f.map (fun a=>aP a 0 x)++[(cf d 0).sign])=H at *;generalize aY (aP s 0 y) (f.map (fun a=>aP a 0 y)++[(cf d 0).sign])=I at *;generalize (cf d 0).sign=e at *;have G:aP s 0 x≠aP s 0 y:=fun k=>by
   rw[k] at v;omega
  generalize aP s 0 x=a at *;generalize aP s 0 y=b at *;rcases A with rfl|rfl|rfl<;>rcases B with rfl|rfl|rfl<;>first|omega|(exfalso;exact p rfl)|(exfalso;exact q rfl)|decide
