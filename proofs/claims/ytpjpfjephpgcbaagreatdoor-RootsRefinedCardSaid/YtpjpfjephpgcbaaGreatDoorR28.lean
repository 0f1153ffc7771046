/- Laws. -/
import Derived.Test.YtpjpfjephpgcbaaGreatDoorR26
import Derived.Test.YtpjpfjephpgcbaaGreatDoorR27
set_option linter.all false
set_option maxHeartbeats 8000000
set_option maxRecDepth 99999
namespace Go.Proofs.YtpjpfjephpgcbaaGreatDoor
open Go.RowKit Sos Tryz
variable{B K i k n:Nat}{a b s:List Int}{c:List (List Int)}{C:List (List Rat)}{e t:TypeId}{A R S:List Rat}{W w w':World}{v:Value}{f:Bool}{x y:Rat}
def DB(p:List Rat)(v:Value)(w:World)(hv:QsAt w v p)(K:Nat)(t:∀q∈p,RL K q)(i:1<=K)(L:p≠[]->cf p (p.length-1)≠0)(S:p.length<=1024)(ac:K<=60000000000):
  Calls prog 126 #[v] w (lT w (oQ p)):=by
 obtain⟨A,c,rfl,hc⟩:=hv.form;go_enter func126,ntmps126;by_cases d:p.length=0
 ·have f:Hid (oQ p=[]):=by
   have:p=[]:=bX d;rw[this];rfl
  have Y:((p.length:Int)==0)=true:=by rw[d];rfl
  clear d;go_wp2;go_ret;exact⟨_,rfl,by rw[f.out];exact QsAt.nil _,aG _ _⟩
 ·have Y:((p.length:Int)==0)=false:=by simpa using d
  obtain⟨l,k⟩:∃l,p.length-1=l:=⟨_,rfl⟩;have af:(p.length:Int)-1=(l:Int):=by omega
  have T:l<p.length:=by omega
  have ad:(0:Int)<=(l:Int):=by omega
  have ae:(l:Int)<(p.length:Int):=by omega
  have ag:IntKind.i64.wrap (l:Int)=(l:Int):=IntWalk.i64_in _ ⟨by omega,by omega⟩;have m:=L (fun e=>d (by rw[e];rfl));obtain⟨F,Z,D,V,G,s4,E,X,H,rfl,Q,I,R⟩:=hv.cell T;have f:Hid (aW aV (oA [] (1/cf p l) p)=oQ p):=by unfold Hid oQ;rw[k]
  rw[k] at m;have o:RL K (cf p l):=lV t (iG i) l;have j:RL K 1:=bU (az3 (n:=1) (by decide)) i;have C:∀W,Calls prog 58 #[.int .i64 1] W (eS W 1):=fun W=>r7 1 W (by decide);have z:=fun W u v h g=>vD 1 (cf p l) u v W h g K j o (by omega) m;have B:=fun W u v x h g J=>KX [] (1/cf p l) p u v x W h g J K (K+K) (fun q U=>by cases U) t (xS j o) i (by simp) S (by omega);rw[f.out] at B;unfold eS at C z;clear m o d k j;generalize cf p l=x at *;generalize 1/x=y at *;go_wp2_with fail
  go_region_held3 (fun w'=>R4 w' F (l*4) (.bool Z) (.slice D V G) (.bool s4) (.slice E X H))
   (with_reducible exact I.up Q)
   (first
    |(go_at_call 58;refine(C _).mono ?_;rintro e5 w5 ⟨v5,rfl,r,N⟩;obtain⟨s5,A5,k5,c5,s6,A6,k6,c6,rfl⟩:=r.form;have:=St.mk N)
    |(go_at_call 119;refine(z _ _ _ r.up R.up).mono ?_;rintro e7 w7 ⟨v7,rfl,s,O⟩;obtain⟨s7,A7,k7,c7,s8,A8,k8,c8,rfl⟩:=s.form;have:=St.mk O)
    |(go_at_call 124;refine(B _ _ _ _ (QsAt.nil _) s.up hv.up).mono ?_;rintro e9 w9 ⟨v9,rfl,M,P⟩;have:=St.mk P))
  all_goals (
   go_wp2;go_ret;exact⟨_,rfl,M,Up.out (a:=w) (b:=w9)⟩)
def ZI(m:List Int->List Int->List Int->Prop)(z:Nat)(aj:∀{a g:List Int},m a [] g->aN a->cE a=cE g)(am:∀{A c Q R:List Rat} {a b g:List Int},Prp A a->Prp c b->b≠[]->m a b g->DivQ A c Q R->∃d,Prp R d∧m b d g∧(∀n∈d,nl n.natAbs<=z)∧d.length<b.length)(A c:List Rat)(a b g:List Int)(va vb:Value)(w:World)(l:QsAt w va A)(i:QsAt w vb c)(Y:Prp A a)(Z:Prp c b)(T:m a b g)(K:Nat)(G:∀q∈A,RL K q)(H:∀q∈c,RL K q)(ad:z<=K)(an:1<=z)(x:A.length<=8)(y:c.length<=8)(hK:K<=10000000):
  Calls prog 125 #[va,vb] w (lT w (cE g)):=by
 go_enter func125,ntmps125;go_wp2_with fail;go_loopg [0,1] c.length (fun k v0 v1 wr=>∃(A c:List Rat) (a b:List Int),Hid (c.length=k)∧QsAt wr v0 A∧QsAt wr v1 c∧Hid (Prp A a∧Prp c b∧m a b g)∧Hid ((∀q∈A,RL K q)∧∀q∈c,RL K q)∧A.length<=8∧c.length<=8∧Below w.1.size w wr)
 case atStart=>exact⟨A,c,a,b,rfl,l,i,⟨Y,Z,T⟩,⟨G,H⟩,x,y,aG _ _⟩
 case round=>
  clear l i Y Z T G H x y;clear A c a b;obtain⟨A,c,a,b,s,l,i,f,p,x,y,j⟩:=hrel;generalize wr=wx at *;obtain⟨A1,c1,rfl,aq⟩:=l.form;obtain⟨A2,c2,rfl,ar⟩:=i.form;cases gk with
  |zero=>
   have q0:¬(0:Int)<(c.length:Int):=by have:=s.out;omega
   have B:Hid (oQ A=cE g):=by
    have ah:b=[]:=bX (by rw[<-f.out.2.1.1];exact s.out);have t:=f.out.2.2;rw[ah] at t;exact(qT f.out.1).trans (aj t f.out.1.2.1)
   have r:=fun W h=>DB A (.slice A1 A.length c1) W h K p.out.1 (by omega) (fun e=>f.out.1.ne (fun C=>e (bX (by rw[f.out.1.1,C];rfl)))) (by omega) (by omega);rw[B.out] at r;go_wp2_with fail;refine(r _ l).mono ?_;rintro e3 w3 ⟨v3,rfl,t,ag⟩;go_wp2;go_ret;exact⟨_,rfl,t,aC j ag⟩
  |succ k=>
   have q0:(0:Int)<(c.length:Int):=by have:=s.out;omega
   have ae:1<=c.length:=by omega
   have M:b≠[]:=fun e=>by
    have h:=f.out.2.1.1;rw[e] at h;have D:c.length=0:=h;omega
   have ai:=JY K A.length;have V:2^A.length<=2^8:=cO (by decide) x;have al:=aqK V (show 3*K+1<=30000001 by omega);have P:=fun W u v h D=>L3 A c u v W h D K p.out.1 p.out.2 (by omega) (by omega) ae (f.out.2.1.ne M) 16000000000 (by omega) (by decide);have r:=fun (R:List Rat) W v h hR hl h0=>DB R v W h 16000000000 hR (by decide) h0 hl (by decide);clear ai V al;go_wp2_with fail;refine(P _ _ _ l i).mono ?_;rintro e4 w4 ⟨v4,u4,Q,R,rfl,h4,X,F,af,J,ao,ap,N⟩;obtain⟨d,o,L,U,S⟩:=am f.out.1 f.out.2.1 M f.out.2.2 F;have I:R≠[]->cf R (R.length-1)≠0:=fun e=>o.ne (fun C=>e (bX (by rw[o.1,C];rfl)));replace i:=i.be N;replace j:=aC j N;have B:=aB (qT o);have HN:Hid (Prp c b∧Prp (cE d) d∧m b d g):=⟨f.out.2.1,uD o.2.1,L⟩;have ak:(cE d).length=d.length:=(uD o.2.1).1;have au:d.length<c.length:=by rw[f.out.2.1.1];exact S
   have ac:Hid ((∀q∈c,RL K q)∧∀q∈cE d,RL K q):=⟨p.out.2,CU (fun n hn=>aH (U n hn) ad) (by omega)⟩;clear P F af l o L U S f p h4;go_wp2_with fail;refine(r R _ _ X J (by omega) I).mono ?_;rintro e5 w5 ⟨v5,rfl,E,O⟩;rw[B.out] at E;replace i:=i.be O;replace j:=aC j O;clear r X J I;go_wp2;go_roundg d.length
   case rel=>exact⟨c,cE d,b,d,by unfold Hid;exact ak,i,E,HN,ac,y,by omega,j⟩
   case measure=>have:=s.out;omega
def ZJ(c:Nat)(A d:List Rat)(a b g:List Int)(i j:Value)(w:World)(e:QsAt w i A)(f:QsAt w j d)(v:Prp A a)(x:Prp d b)(T:Trc c a b g)(K:Nat)(o:∀q∈A,RL K q)(p:∀q∈d,RL K q)(k:c<=K)(l:1<=c)(s:A.length<=8)(u:d.length<=8)(n:K<=10000000):
  Calls prog 125 #[i,j] w (lT w (cE g)):=
 ZI (Trc c) c (fun h t=>h.done t) (fun e f r h m=>XN e f r h m) A d a b g i j w e f v x T K o p k l s u n
def ZN(w:World):Calls prog 118 #[.int .i64 (-1)] w (nN w (-1)):=by
 have z:IntKind.u64.wrap (-1)=18446744073709551615:=by decide
 have A:IntKind.u64.wrap (-18446744073709551615)=1:=by decide
 have b:(1:Int)%4294967296=1:=by decide
 have C:(1:Int)/4294967296=0:=by decide
 obtain⟨W,h,a,R⟩:=bI w [.bool false,.slice none 0 0] 40;have c:=R.g2;go_enter func118,ntmps118;go_wp2_with fail;(try rw[h]);clear h;obtain⟨s,g,j,B⟩:=bI W [.int .u32 1,.int .u32 0] 153;rw[g];clear g;have l:=oW [1,0] W.1.size 1 2 s B (fun d p=>by simp at p;unfold aD;omega) (by simp[nv]) aE (by simp);simp only[eG,azS] at l;refine l.mono ?_;rintro u E ⟨v,rfl,r,rfl⟩;replace R:=R.be j;replace c:=R.g2;replace a:=aC a j;go_wp2_with fail;refine(pU true v 1 (-1) _ r (aH (cJ (m:=1) (by unfold BN;omega)) (by decide)) rfl (by simp)).mono ?_;rintro x F ⟨D,rfl,b,k⟩;obtain⟨o,e,n,f,rfl⟩:=b.form;replace R:=R.be k;replace c:=R.g2;replace a:=aC a k;go_wp2_with fail;obtain⟨t,i,R,a,q,y⟩:=R.mut2 a (by omega) (.bool o) (.slice e n f) rfl rfl;replace b:=b.ke q;rw[i];clear i;replace c:=R.k2;exact aM (v:= .agg #[.bool o,.slice e n f]) (by simp[results,results118,go_sem,R.k2]) rfl ⟨_,rfl,b,a⟩
def ZO(w:World):Calls prog 58 #[.int .i64 (-1)] w (eS w (-1)):=by
 have d:Hid ((-1:Rat).num= -1∧bS (-1:Rat)=0):=⟨rfl,fV.2 rfl⟩;obtain⟨W,g,a,R⟩:=bI w [.bool false,.slice none 0 0,.bool false,.slice none 0 0] 42;have f:=R.g4;go_enter func58,ntmps58;go_wp2_with fail;(try rw[g]);clear g;refine(ZN _).mono ?_;rintro n q ⟨p,rfl,b,i⟩;obtain⟨k,c,j,e,rfl⟩:=b.form;replace R:=R.be i;replace f:=R.g4;replace a:=aC a i;go_wp2_with fail;obtain⟨m,h,R,a,l,o⟩:=R.mut4 a (by omega) (.bool k) (.slice c j e) (.bool false) (.slice none 0 0) rfl rfl;replace b:=b.ke l;rw[h];clear h;replace f:=R.k4;exact aM (v:= .agg #[.bool k,.slice c j e,.bool false,.slice none 0 0]) (by simp[results,results58,go_sem,R.k4]) rfl ⟨_,rfl,NQ.of b (NI.zero _) d.out.1 d.out.2,a⟩
def ChT.last{b c:Rat}(h:ChT B a b [] c C):C=[]:=by
 cases h with
 |done=>rfl
 |step d=>exact absurd rfl d
def ChT.split{g c:Rat}(h:ChT B a g b c C)(d:b≠[]):∃r' f C2,C=aT c b :: C2∧ChT B b c r' f C2∧r'.length<b.length∧(∀Q R,DivQ (aT g a) (aT c b) Q R->aW aV (oA [] (-1) R)=aT f r')∧cf (aT c b) (b.length-1)≠0:=by
 cases h with
 |done=>exact absurd rfl d
 |step d h e m l k j n hn t=>
  refine⟨_,_,_,rfl,t,by rw[l];exact h.r_lt,fun Q R i=>CS d h e m k j i,?_⟩;rw[dS];exact m6 e.2.1 (gJ ((fT d).1 e.2.2))
def ChT.trim{e c:Rat}(h:ChT B a e b c C):aN (aT c b):=by
 cases h with
 |done=>exact fun x f=>by simp[aT] at f
 |step i h d m l k j g hn t=>exact CQ (.inl d.2.1) d.2.2
def ChT.nums{d c:Rat}(h:ChT B a d b c C)(e:∀X∈C,∀q∈X,RL K q):∀q∈aT c b,RL K q:=by
 cases h with
 |done=>exact fun q f=>by simp[aT] at f
 |step j h g n m l k i hn t=>exact e _ iC
def MJ(b:1<=K)(h:aW aV (oA [] (-1) R)=S)(c:∀q∈S,RL K q):∀q∈R,RL K q:=fun q d=>by
 obtain⟨i,hi⟩:=List.mem_iff_getElem?.1 d;have e:cf S i= -q:=by
  rw[<-h,iS,xW,eR];have:cf R i=q:=by unfold cf;rw[eE,hi];rfl
  rw[this];grind
 have a:=lV c (iG b) i;rw[e] at a;exact⟨by have:=a.1;rwa [Rat.neg_num,azJ] at this,a.2⟩
def MK:RL 1 (-1:Rat):=⟨by rw[Rat.neg_num,azJ];exact rY.1,rY.2⟩
def E9(A:List Rat){j c:Rat}(D:ChT B a j b c C)(ea:aT j a=A)(eb:aT c b=fW A)(v:Value)(w:World)(hv:QsAt w v A)(K:Nat)(hK:∀X∈A :: C,∀q∈X,RL K q)(N:1<=K)(V:A.length<=7)(bz:K<=250000000):
  Calls prog 62 #[v] w (vC w (A :: C)):=by
 obtain⟨A0,c0,rfl,bp⟩:=hv.form;have S:=fun W h=>JF A (.slice A0 A.length c0) W h K (hK A iC) (by omega) N (by omega);have a6:aW aV (fW A)=aT c b:=by rw[<-eb];exact qB D.trim
 rw[a6] at S;have bu:b.length<=7:=by
  have:=congrArg List.length eb;rw[fX,qO] at this;omega
 have ac:Hid (A=aT j a∧ChT B a j b c C∧([]++[A])++C=A :: C):=⟨ea.symm,D,rfl⟩;have HK:=aB hK;have l:Below w.1.size w (w.alloc (.cells #[.slice A0 A.length c0] 45)):=(aG _ _).alloc aE _;have d:=QQs.one hv aE;replace hv:=hv.be l;unfold lT at S;unfold vC;clear a6 eb ea D hK;go_enter func62,ntmps62;go_wp2_with fail;refine(S _ hv).mono ?_;rintro e1 w1 ⟨v1,rfl,ae,a4⟩;replace d:=QQs.be d a4;have f:=aC l a4;have bf:Hid (b.length=b.length):=rfl;have L:Hid ((aT c b).length=b.length):=fX c b;generalize a3:aT c b=Y at *;have aw:=aB a3;obtain⟨A1,c1,rfl,bq⟩:=ae.form;clear S l a3;go_wp2_with fail;go_loopg [3,4] b.length (fun k vo vn wr=>∃(X Y:List Rat) (a b:List Int) (j c:Rat) (C' g:List (List Rat)),Hid (b.length=k)∧QQs wr w.1.size 45 vo (g++[X])∧QsAt wr vn Y∧Hid (X=aT j a∧Y=aT c b∧ChT B a j b c C'∧(g++[X])++C'=A :: C)∧Hid (Y.length=b.length)∧X.length<=7∧g.length+b.length<=7∧Below w.1.size w wr)
 case atStart=>exact⟨A,Y,a,b,j,c,C,[],rfl,d,ae,⟨ac.out.1,aw.out.symm,ac.out.2⟩,L,V,by simp;omega,f⟩
 case round=>
  clear d ae f hv L ac aw V bu bp bq bf;obtain⟨X,Y,a,b,j,c,C',g,HL,d,E,HT,L,b2,bw,f⟩:=hrel;have am:=L.out;generalize wr=F at *;obtain⟨r,ah⟩:∃r,g++[X]=r:=⟨_,rfl⟩;have t:=aB ah;rw[ah] at d;clear ah;obtain⟨Af,bx,rfl,b0⟩:=d.form;obtain⟨Ay,cy,rfl,b1⟩:=E.form;by_cases h0:b.length=0
  ·have q0:¬(0:Int)<(Y.length:Int):=by omega
   have z:r=A :: C:=by
    rw[<-t.out];have O:b=[]:=bX h0;obtain⟨-, -,h3,I⟩:=HT.out;rw[O] at h3;rw[h3.last,fH] at I;exact I
   have HE:=aB z;clear z h0 am;go_wp2;go_ret;refine⟨_,rfl,?_,f⟩;rw[<-HE.out];exact d
  ·have q0:(0:Int)<(Y.length:Int):=by omega
   have O:b≠[]:=fun e=>h0 (by rw[e];rfl);obtain⟨eX,y,D,z⟩:=HT.out;obtain⟨i,n,C2,rfl,ai,b7,T,aj⟩:=D.split O;rw[<-eX,<-y] at T;rw[<-y,<-am] at aj;have kC:∀Z∈(g++[X])++aT c b :: C2,∀q∈Z,RL K q:=by rw[z];exact HK.out
   have kX:∀q∈X,RL K q:=kC X (by simp);have kY:∀q∈Y,RL K q:=kC Y (by rw[y];simp);have kN:=ai.nums (fun Z hZ=>kC Z (by simp[hZ]));have bs:=JY K (X.length-Y.length+1);have o:2^(X.length-Y.length+1)<=2^7:=cO (by decide) (by omega);have bv:=aqK o (show 3*K+1<=750000001 by omega);have a7:=fun W u v h H=>L2 X Y u v W h H K kX kY N (by omega) (by omega) aj 200000000000 (by omega) (fun _=>by omega) (by decide);have a9:=fun R W u v x h H ad (hR:∀q∈R,RL K q) V=>KX [] (-1) R u v x W h H ad K 1 (fun q hq=>by cases hq) hR MK N (by simp) V (by omega);have au:Hid (∀Q R,DivQ X Y Q R->aW aV (oA [] (-1) R)=aT n i∧(∀q∈R,RL K q)):=fun Q R hD=>⟨T Q R hD,MJ N (T Q R hD) kN⟩;have G:Hid (Y=aT c b∧ChT B b c i n C2∧((g++[X])++[Y])++C2=A :: C):=⟨y,ai,by rw[<-z,y];simp⟩;have bm:Y.length<=7:=by omega
   clear am bs o bv eX y D z ai T aj kC kX kY kN HT O;have l:Below F.1.size F (F.alloc (.cells #[.slice Ay Y.length cy] 45)):=(aG _ _).alloc aE _;have X1:=Bx.new F [.slice Ay Y.length cy] 45;replace E:=E.be l;replace d:=QQs.be d l;have b9:w.1.size<=F.1.size:=f.size;replace f:=aC f l;have ax:=X1.cell 0 rfl;obtain⟨bc,o,ap,bb⟩:=id d;have aq:bc.length=g.length+1:=by rw[ap,<-t.out,bE];rfl
   go_wp2_with (at_builtin;refine K4 rfl rfl 45 24 underlying117 ML w.1.size _ bc rfl o F.1.size (.slice Ay Y.length cy) rfl ax ⟨_,_,_,rfl⟩ (by rw[aq];omega) (by rw[aq];unfold maxLen;omega) f.size ?_;intro v8 w8 a8 bt U);have p:=QQs.push o ap bb E a8 U;have J:=E.grown o (by decide) U;have s:=K5 f U o aE;obtain⟨A8,c8,rfl,br⟩:=p.form;have az:(r++[Y])[g.length]? =some X:=by rw[<-t.out];simp
   have af:(r++[Y]).length=g.length+2:=by rw[<-t.out];simp
   obtain⟨b8,u8,rfl,bo,a5,ao⟩:=p.at_ az;clear az d E l X1 ax a8 bt U o ap bb aq f;rw[t.out] at G;obtain⟨M,ag⟩:∃M,r++[Y]=M:=⟨_,rfl⟩;have ar:=aB ag;rw[ag] at p af G br⊢;clear ag;obtain⟨m,hm⟩:∃m,g.length=m:=⟨_,rfl⟩;have HM:=aB hm;rw[hm] at af a5 bw;clear hm;have b3:(M.length:Int)-2=(m:Int):=by omega
   have b4:(0:Int)<=(m:Int):=by omega
   have b5:(m:Int)<(M.length:Int):=by omega
   have b6:IntKind.i64.wrap (m:Int)=(m:Int):=IntWalk.i64_in _ ⟨by omega,by omega⟩;obtain⟨Au,cu,rfl, -⟩:=ao.form;clear af;go_wp2_with fail;rw[run_len_slice (P:=prog) _ 117 3 _ _ _ (by simp[go_sem])];go_wp2_with fail;refine(a7 _ _ _ ao J).mono ?_;rintro e4 w4 ⟨v4,u4,Q,R,rfl,I,i4,ay,bh,bj,bi,bk,ak⟩;obtain⟨a0,a1⟩:=au.out Q R ay;have an:=fun W u v x h H ad=>a9 R W u v x h H ad a1 (by omega);rw[a0] at an;have ba:=fun W=>ZO W;unfold lT at an;unfold eS at ba;replace p:=QQs.be p ak;replace J:=J.be ak;replace s:=aC s ak;have bg:Hid ((aT n i).length=i.length):=fX n i;obtain⟨A4,c4,rfl, -⟩:=I.form;obtain⟨A5,c5,rfl, -⟩:=i4.form;clear a7 a9 au a0 a1 ay bh bj bi bk I ao a5 bo;have av:Hid (aT n i=aT n i):=rfl;generalize a2:aT n i=Y2 at *;replace av:=aB a2.symm;clear a2;go_wp2_with fail;refine(ba _).mono ?_;rintro e5 w5 ⟨v5,rfl,h5,al⟩;obtain⟨s5,B5,k5,d5,s6,B6,k6,d6,rfl⟩:=h5.form;go_wp2_with fail;refine(an _ _ _ _ (QsAt.nil _) h5 (i4.be al)).mono ?_;rintro e6 w6 ⟨v6,rfl,h6,bn⟩;have hB:=aC al bn;replace p:=QQs.be p hB;replace J:=J.be hB;replace s:=aC s hB;go_wp2;go_roundg i.length
   case rel=>exact⟨Y,Y2,b,i,c,n,C2,r,rfl,by rw[ar.out];exact p,h6,⟨G.out.1,av.out,G.out.2.1,by rw[ar.out];exact G.out.2.2⟩,bg,bm,by have:=HM.out;have:=congrArg List.length t.out;simp at this;omega,s⟩
   case measure=>have:=HL.out;omega
def Bx.put5n{b:Nat}{j k l m n:Value}(h:Bx W b [j,k,l,m,n] t)(A:Below B w W)(a:B<=b)(d e f g i:Value)(hn:(cS (some j)&&(cS (some k)&&(cS (some l)&&(cS (some m)&&cS (some n)))))=true):
  ∃c,((((W.setCell ⟨b,0,none⟩ d).setCell ⟨b,1,none⟩ e).setCell ⟨b,2,none⟩ f).setCell ⟨b,3,none⟩ g).setCell ⟨b,4,none⟩ i=c∧Bx c b [d,e,f,g,i] t∧Below B w c∧KM W c:=by
 simp only[az7] at hn;obtain⟨H,rfl,u,o,C,M⟩:=h.mut1 A a 0 d hn.1;obtain⟨I,rfl,v,p,D,N⟩:=u.mut1 o a 1 e hn.2.1;obtain⟨J,rfl,x,q,E,O⟩:=v.mut1 p a 2 f hn.2.2.1;obtain⟨K,rfl,y,r,F,P⟩:=x.mut1 q a 3 g hn.2.2.2.1;obtain⟨L,rfl,z,s,G,Q⟩:=y.mut1 r a 4 i hn.2.2.2.2;exact⟨_,rfl,z,s,(((C.trans D).trans E).trans F).trans G⟩
def REnd(w:World)(v:Value)(f:Bool)(x:Rat):Prop:=∃h a e c i b g d,v= .agg #[.bool f,.bool h,.slice a e c,.bool i,.slice b g d]∧NQ w (.agg #[.bool h,.slice a e c,.bool i,.slice b g d]) x
def REnd.be(h:REnd w v f x)(g:Below w.1.size w w'):REnd w' v f x:=by
 obtain⟨k,a,i,c,l,b,j,d,e,h⟩:=h;exact⟨k,a,i,c,l,b,j,d,e,h.be g⟩
def REnd.up{a b:World}[u:Up a b](h:REnd a v f x):REnd b v f x:=h.be u.out
def vB(x:Rat)(v:Value)(w:World)(hv:NQ w v x):Calls prog 49 #[v] w (fun e w'=>∃l,e= .returned l∧REnd w' l false x∧Below w.1.size w w'):=by
 obtain⟨h,a,f,c,i,b,g,d,rfl⟩:=hv.form;obtain⟨W,j,k,X,R⟩:=eL w [.bool h,.slice a f c,.bool i,.slice b g d] 42 [.bool false,.bool false,.slice none 0 0,.bool false,.slice none 0 0] 100;have r:=aa X.g4 R.g5;go_enter func49,ntmps49;go_wp2_with fail;(try rw[j]);clear j;obtain⟨q,n,m,o,p⟩:=R.put5n k (Nat.le_succ _) (.bool false) (.bool h) (.slice a f c) (.bool i) (.slice b g d) rfl;rw[n];exact aM (v:= .agg #[.bool false,.bool h,.slice a f c,.bool i,.slice b g d]) (by simp[results,results49,go_sem,m.k5]) rfl ⟨_,rfl,⟨_,_,_,_,_,_,_,_,rfl,(hv.be k).ke p⟩,o⟩
def yS(x y:Rat)(l m:Value)(w:World)(g:NQ w l x)(i:NQ w m y)(K:Nat)(j:RL K x)(k:RL K y)(C:2*K+1<=549755813888):Calls prog 46 #[l,m] w (eO w (x-y).num.sign):=by
 obtain⟨I,n,E,r,J,o,F,s,rfl⟩:=g.form;obtain⟨L,p,G,t,M,q,H,z,rfl⟩:=i.form;have e:=fun W u v h A=>EC x y u v W h A K j k C;have Q:=(JM j k).1;have f:=fun W v h=>oC (x-y) v W h (by omega);unfold eS at e;unfold eO at f;unfold eO;generalize x-y=d at *;obtain⟨W,b,a,X,Y⟩:=eL w [.bool I,.slice n E r,.bool J,.slice o F s] 42 [.bool L,.slice p G t,.bool M,.slice q H z] 42;have N:=aa X.g4 Y.g4;go_enter func46,ntmps46;go_wp2_with fail;(try rw[b]);clear b;refine(e _ _ _ (g.be a) (i.be a)).mono ?_;rintro O S ⟨R,rfl,B,c⟩;go_wp2_with fail;refine(f _ _ B).mono ?_;rintro P T ⟨rfl,D⟩;go_wp2;go_ret;exact⟨rfl,a.trans ((aC c D).mono a.size)⟩
def E8(A:List Rat)(k s:List Int)(v:Value)(w:World)(hv:QsAt w v A)(b:Prp A k)(i:Sqp 24057 k s)(m:∀q∈A,RL 1 q)(y:A.length<=7)(E:∀n∈k,nl n.natAbs<=9):
  Calls prog 63 #[v] w (lT w (cE s)):=by
 obtain⟨o,p,rfl,al⟩:=hv.form;obtain⟨F,J⟩:=MI b;obtain⟨g,t,j,H,pg,ai,P⟩:=i.out;have V:=gU (pL (K:=9) E (by have:=b.1;omega));obtain⟨-,Y,lg⟩:=y5 t (by decide) b.2.1 F.2.1 (fun n hn=>aH (E n hn) (by decide)) (fun n hn=>aH (V n hn) (by decide));have x:=fun W h=>JF A (.slice o A.length p) W h 1 m (by omega) (by decide) (by decide);rw[J] at x;have U:∀q∈fW A,RL 24057 q:=fun q B=>bU (JE m (by omega) (by decide) q B) (by decide);have lD:=qO A;have C:∀q∈A,RL 24057 q:=fun q B=>bU (m q B) (by decide);have O:=fun W u h r=>ZJ 24057 A (fW A) k (aS (bB k)) g (.slice o A.length p) u W h r b F (.inl t) 24057 C U aE (by decide) (by omega) (by omega) (by decide);have l:=uD H;have ah:(cE g).length=g.length:=l.1;have ag:=List.length_pos_iff.2 j;have X:2*kM 24057 7<=20000000:=by decide
 have af:=fun W u h r=>L3 A (cE g) (.slice o A.length p) u W h r 24057 C (CU Y (by decide)) (by decide) (by omega) (by omega) (l.ne j) 20000000 (aH (eV 2 (uF 24057 y)) X) (by decide);have HQ:Hid (∀Q R,DivQ A (cE g) Q R->oQ Q=cE s∧(Q≠[]->cf Q (Q.length-1)≠0)):=fun Q R hD=>by
  obtain⟨c,hc,e⟩:=b.eq_smul;obtain⟨f,hf,I⟩:=CP hc i.ts H j P;rw[<-e] at I;obtain⟨rfl, -⟩:=hD.unique I (l.ne j) (by omega);have Z:=jY hf i.ts;exact⟨qT Z,fun h=>Z.ne i.ne⟩
 have z:=fun (Q:List Rat) W u h d y h0=>DB Q u W h 20000000 d (by decide) h0 y (by decide);unfold lT at x O z;unfold lT;clear U C l ah ag X V lg F J t j H pg ai P Y lD m E i b;generalize fW A=D at *;generalize cE g=G at *;generalize cE s=S at *;go_enter func63,ntmps63;go_wp2_with fail;refine(x _ hv).mono ?_;rintro e1 w1 ⟨v1,rfl,h1,a⟩;replace hv:=hv.be a;go_wp2_with fail;refine(O _ _ hv h1).mono ?_;rintro e2 w2 ⟨v2,rfl,h2,N⟩;replace hv:=hv.be N;replace a:=aC a N;go_wp2_with fail;refine(af _ _ hv h2).mono ?_;rintro e3 w3 ⟨v3,u3,Q,R,rfl,h3,i3,L,M,ac,aj,ak,ad⟩;replace a:=aC a ad;have d:=HQ.out Q R L;have T:=fun W u h=>z Q W u h M (by omega) d.2;rw[d.1] at T;clear d z M ac L;go_wp2_with fail;refine(T _ _ h3).mono ?_;rintro e4 w4 ⟨v4,rfl,h4,ae⟩;go_wp2;go_ret;exact⟨_,rfl,h4,aC a ae⟩
def eI(f b:Bool):Int:=if f=true then (if b=true then -1 else 1) else 0
def MH(A:List Rat)(i:Int)(x:Rat): -1<=cyE A i x∧cyE A i x<=1:=by
 unfold cyE;split
 ·exact qU _
 ·split
  ·have:=qU (cf A (A.length-1)).num;omega
  ·exact qU _
def E7(c:List (List Rat))(B:Nat)(f bl:Bool)(x:Rat)(v u:Value)(w:World)(hv:QQs w B 45 v c)(hx:REnd w u f x)(ba:c.length<=1024)(K:Nat)(F:∀A∈c,A≠[]∧A.length<=8∧∀q∈A,RL K q)(kx:RL K x)(h1:1<=K)(az:K<=1100000000):
  Calls prog 104 #[v,u,.bool bl] w (eO w (aY 0 (c.map (fun A=>cyE A (eI f bl) x)):Nat)):=by
 obtain⟨s1,N,k1,Q,s2,O,k2,R,rfl,hx⟩:=hx;obtain⟨A0,c0,rfl,a3⟩:=hv.form;unfold eO;obtain⟨V,Y⟩:∃V,aY 0 (c.map (fun A=>cyE A (eI f bl) x))=V:=⟨_,rfl⟩;rw[Y];have HV:Hid (0+aY 0 ((c.drop 0).map (fun A=>cyE A (eI f bl) x))=V):=by unfold Hid;rw[azZ,bA];exact Y
 clear Y
 have af:=fun p W u h T (G:p∈c)=>CD p x u (.agg #[.bool s1,.slice N k1 Q,.bool s2,.slice O k2 R]) W h T K (F p G).2.2 kx (by have:=(F p G).2.1;omega) (by
  have:=dK (2*K+1) (F p G).2.1;omega)
 have ap:=fun p (G:p∈c)=>CJ (F p G).2.2 kx;unfold eS at af;obtain⟨W,eW,e,X⟩:=bI w [.bool f,.bool s1,.slice N k1 Q,.bool s2,.slice O k2 R] 100;have cM:=X.g5;go_enter func104,ntmps104;go_wp2_with fail;(try rw[eW]);clear eW;go_loopg [7,8,9] c.length (fun k vb vc vi wr=>∃(j C:Nat) (b:Int),Hid (j+k=c.length)∧vc= .int .i64 C∧vb= .int .i64 b∧vi= .int .i64 j∧C<=j∧ -1<=b∧b<=1∧Hid (C+aY b ((c.drop j).map (fun A=>cyE A (eI f bl) x))=V)∧Bx wr w.1.size [.bool f,.bool s1,.slice N k1 Q,.bool s2,.slice O k2 R] 100∧Below w.1.size w wr)
 case atStart=>exact⟨0,0,0,by unfold Hid;omega,rfl,rfl,rfl,aE,by decide,by decide,HV,X,e⟩
 case round=>
  clear HV X e;obtain⟨j,C,b,n,rfl,rfl,rfl,hC,am,an,P,X,e⟩:=hrel;generalize wr=M at *;have a5:(0:Int)<=(j:Int):=by omega
  cases gk with
  |zero=>
   have hj:j=c.length:=n.out;have HC:Hid (C=V):=by
    have:=P.out;rw[hj,azY] at this;exact this
   subst hj;go_wp2;go_ret;exact⟨by rw[HC.out];rfl,e⟩
  |succ k=>
   have aq:j<c.length:=by have:=n.out;omega
   have a6:(j:Int)<(c.length:Int):=by omega
   obtain⟨a,t⟩:∃a,c[j]? =some a:=⟨_,aR aq⟩;have s:=dG t;obtain⟨bb,u,rfl,ah,hu,E⟩:=(QQs.be hv e).at_ t;obtain⟨Au,cu,rfl,a4⟩:=E.form;have aj:aY b ((c.drop j).map (fun A=>cyE A (eI f bl) x))=if cyE a (eI f bl) x=0 then aY b ((c.drop (j+1)).map (fun A=>cyE A (eI f bl) x)) else (if b≠0∧cyE a (eI f bl) x≠b then 1 else 0)+aY (cyE a (eI f bl) x) ((c.drop (j+1)).map (fun A=>cyE A (eI f bl) x)):=KD (fun A=>cyE A (eI f bl) x) t b;have m:=MH a (eI f bl) x;have d:=P.out;rw[aj] at d;obtain⟨Z,ak,ac⟩:=F a s;have cX:=X.k5;have a1:=e.size;clear aj P;obtain⟨S,U⟩:∃S,cyE a (eI f bl) x=S:=⟨_,rfl⟩;rw[U] at d m;have z:=aB U;replace d:=aB d;clear U;go_upto_if 18 with fail;go_cut [10] (fun ay wx=>ay= .int .i64 S∧Below M.1.size M wx)
   case first=>
    have ai:=List.length_pos_iff.2 Z;obtain⟨l,ae⟩:∃l,a.length-1=l:=⟨_,rfl⟩;have a9:(a.length:Int)-1=(l:Int):=by omega
    have av:l<a.length:=by omega
    have a7:(0:Int)<=(l:Int):=by omega
    have a8:(l:Int)<(a.length:Int):=by omega
    have bg:IntKind.i64.wrap (l:Int)=(l:Int):=IntWalk.i64_in _ ⟨by omega,by omega⟩;cases f with
    |true=>
     obtain⟨b2,s3,A3,k3,c3,s4,A4,k4,c4,rfl,a2,g0,hi⟩:=E.cell av;have aw:=(lV ac (iG h1) l).1;have H:=fun W v h=>oC (cf a l) v W h (by omega);have i:Hid ((if eI true bl<0∧a.length%2=0 then -(cf a l).num.sign else (cf a l).num.sign)=S):=by
      unfold Hid;rw[<-z.out];unfold cyE;have he:eI true bl≠0:=by cases bl<;>decide
      rw[if_neg he,ae]
     have a0:=qU (cf a l).num;unfold eO at H;clear ae ai aw z E Z ac s t;generalize (cf a l).num.sign=L at *;have bf:IntKind.i64.wrap (-L)= -L:=IntWalk.i64_in _ ⟨by omega,by omega⟩;go_wp2_with fail
     go_region_with (first
      |(go_at_call 34;refine(H _ _ hi.up).mono ?_;rintro e5 w5 ⟨rfl,ad⟩;have:=St.mk ad))
     all_goals (
      have o:=Up.out (a:=M) (b:=w5);have bc:=(o.cell (p:=⟨bb,j,none⟩) ah).trans hu;cases bl with
      |false=>
       rw[show eI true false=1 from rfl,if_neg (fun h=>absurd h.1 (by decide))] at i;go_wp2;go_meet;exact⟨by rw[i.out],o⟩
      |true=>
       by_cases J:a.length%2=0
       ·have r0:(a.length:Int).tmod 2=0:=by rw[bz3 (by omega)];omega
        rw[show eI true true= -1 from rfl,if_pos ⟨by decide,J⟩] at i;clear J;go_wp2;go_meet;exact⟨by rw[i.out],o⟩
       ·have r0:(a.length:Int).tmod 2=1:=by rw[bz3 (by omega)];omega
        rw[if_neg (fun h=>J h.2)] at i;clear J;go_wp2;go_meet;exact⟨by rw[i.out],o⟩)
    |false=>
     have ar:=(ap a s).1;have al:=fun W u h T=>af a W u h T s;have au:=dK (2*K+1) ak;have H:=fun W v h=>oC (aI a x) v W h (by omega);have i:Hid ((aI a x).num.sign=S):=by
      unfold Hid;rw[<-z.out];rfl
     unfold eO at H;have ax:=hx.be e;clear au ar ae ai z Z ac s t;generalize aI a x=y at *;go_wp2_with fail
     go_region_with (first
      |(go_at_call 47;refine(al _ _ E.up ax.up).mono ?_;rintro e4 w4 ⟨v4,rfl,h4,ao⟩;have:=St.mk ao)
      |(go_at_call 34;refine(H _ _ h4.up).mono ?_;rintro e5 w5 ⟨rfl,ad⟩;have:=St.mk ad))
     all_goals (
      have o:=Up.out (a:=M) (b:=w5);go_wp2;go_meet;exact⟨by rw[i.out],o⟩)
   case rest=>
    obtain⟨rfl,ag⟩:=hcut;generalize wc=wz at *;replace X:=X.be ag;replace e:=aC e ag;clear cX hu E ah s t z;have g:=d.out;clear d;by_cases r:S=0
    ·subst r;rw[if_pos rfl] at g;have d:=aB g;clear g;go_wp2;go_roundg k
     case rel=>exact⟨j+1,C,b,by have:=n.out;unfold Hid;omega,rfl,rfl,by go_num,by omega,am,an,d.out,X,e⟩
     case measure=>omega
    ·rw[if_neg r] at g;have q0:(S != 0)=true:=by simpa using r
     by_cases D:b=0
     ·subst D;rw[if_neg (fun h=>h.1 rfl),bA] at g;have d:=aB g;clear g r;go_wp2;go_roundg k
      case rel=>exact⟨j+1,C,S,by have:=n.out;unfold Hid;omega,rfl,rfl,by go_num,by omega,m.1,m.2,d.out,X,e⟩
      case measure=>omega
     ·have q1:(b != 0)=true:=by simpa using D
      by_cases I:S=b
      ·subst I;rw[if_neg (fun h=>h.2 rfl),bA] at g;have d:=aB g;clear g r D;go_wp2;go_roundg k
       case rel=>exact⟨j+1,C,S,by have:=n.out;unfold Hid;omega,rfl,rfl,by go_num,by omega,m.1,m.2,d.out,X,e⟩
       case measure=>omega
      ·rw[if_pos ⟨D,I⟩] at g;have d:=aB g;have q2:(S != b)=true:=by simpa using I
       clear g r D I;go_wp2;go_roundg k
       case rel=>exact⟨j+1,C+1,S,by have:=n.out;unfold Hid;omega,by go_num,rfl,by go_num,by omega,m.1,m.2,by have:=d.out;unfold Hid;omega,X,e⟩
       case measure=>omega
def E5{n:Int}(h:nl n.natAbs<=K)(a:1<=K):RL K (n:Rat):=⟨by rw[Rat.num_intCast];exact h,by rw[Rat.den_intCast];exact aH (cJ (m:=1) (by unfold BN;decide)) a⟩
def bqK{w:List Int}(o:Cn 110079 w s c)(p:Sz s):∃(a b:List Int) (k l:Rat) (C:List (List Rat)),ChT 110079 a k b l C∧aT k a=cE s∧aT l b=fW (cE s)∧(∀X∈cE s :: C,X≠[]∧X.length<=7∧∀q∈X,RL 250000000 q)∧C.length<=7∧∀i x j y,xT (cE s :: C) i x j y=fF s c i x j y:=by
 obtain⟨C,t,v⟩:=o.rat (by decide);have h:=p.nums;have J:=p.1;have r:=pL h (by omega);have F:=gU r;have u:RL 150 (1/((cf s (s.length-1):Int):Rat)):=by
  have:=pM (n:=1) (d:=cf s (s.length-1)) (K:=150) (aH (cJ (m:=1) (by unfold BN;decide)) (by decide)) (iU h _) (by decide);rwa [bxS] at this
 have E:RL 151 ((bC (bB s):Int):Rat):=E5 (by rw[dD];exact az4 r) (by decide);have G:(aS (bB s)).length<=6:=by rw[dF,lZ];omega
 have D:=t.sizes (by decide) 300000 (bU u (by decide)) (bU (o6 u E) (by decide)) (fun n hn=>aH (F n hn) (by decide));have H:(cE s).length=s.length:=cH _;have L:=dK 110079 G;refine⟨_,_,_,_,C,t,(pN s).symm,by rw[pN,CN],fun X f=> ?_,by have:=t.len;omega,fun i x j y=>Cn.count (B:=0) (w:=w) v i x j y⟩;rcases List.mem_cons.1 f with rfl|f
 ·exact⟨fun e=>o.sq.ne (bX (by rw[<-H,e];rfl)),by omega,fun q g=>bU (CU h (by decide) q g) (by decide)⟩
 ·obtain⟨I,z,A⟩:=D X f;exact⟨z,by omega,fun q g=>bU (A q g) (by omega)⟩
def cxF(A:List Rat)(w0 s:List Int)(c:List (List Int))(f g:Bool)(x y:Rat)(v u1 u2:Value)(w:World)(hv:QsAt w v A)(T:Cn 110079 w0 s c)(hz:Sz s)(ac:∀W,QsAt W v A->Calls prog 63 #[v] W (lT W (cE s)))(q:REnd w u1 f x)(r:REnd w u2 g y)(kx:RL 250000000 x)(ky:RL 250000000 y):
  Calls prog 48 #[v,u1,u2] w (eO w (fF s c (eI f true) x (eI g false) y)):=by
 obtain⟨A0,c0,rfl,ai⟩:=hv.form;have m:=fun W h=>ac W h;obtain⟨a,b,fa,fb,C,U,P,Q,e,aj,V⟩:=bqK T hz;have n:=fun W v h=>E9 (cE s) U P Q v W h 250000000 (fun X i=>(e X i).2.2) (by decide) (e _ iC).2.1 aE;have Z:=V (eI f true) x (eI g false) y;have o:=fun (p bl:Bool) (z:Rat) (kz:RL 250000000 z) B W v u h h'=>E7 (cE s :: C) B p bl z v u W h h' (by rw[eG];omega) 250000000 (fun X i=>⟨(e X i).1,by have:=(e X i).2.1;omega,(e X i).2.2⟩) kz (by decide) (by decide);have v1:=o f true x kx;have v2:=o g false y ky;have b1:=qR ((cE s :: C).map (fun A=>cyE A (eI f true) x)) 0;have b2:=qR ((cE s :: C).map (fun A=>cyE A (eI g false) y)) 0;rw[cH,eG] at b1 b2;rw[<-Z];unfold xT;unfold eO at v1 v2;unfold lT at m;unfold vC at n;unfold eO;obtain⟨s1,D,k1,J,s2,E,k2,K,rfl,q⟩:=q;obtain⟨s3,F,k3,M,s4,G,k4,N,rfl,r⟩:=r;clear o Z V e U P Q T hz ac kx ky;generalize aY 0 ((cE s :: C).map (fun A=>cyE A (eI f true) x))=H at *;generalize aY 0 ((cE s :: C).map (fun A=>cyE A (eI g false) y))=I at *;generalize cE s :: C=L at *;generalize cE s=S at *;have hw:IntKind.i64.wrap ((H:Int)-(I:Int))=(H:Int)-(I:Int):=IntWalk.i64_in _ ⟨by omega,by omega⟩;obtain⟨W,O,d,X,Y⟩:=eL w [.bool f,.bool s1,.slice D k1 J,.bool s2,.slice E k2 K] 100 [.bool g,.bool s3,.slice F k3 M,.bool s4,.slice G k4 N] 100;have cM:=aa X.g5 Y.g5;go_enter func48,ntmps48;go_wp2_with fail;(try rw[O]);clear O;refine(m _ (hv.be d)).mono ?_;rintro e1 w1 ⟨ak,rfl,R,k⟩;replace X:=X.be k;replace Y:=Y.be k;replace d:=aC d k;have cX:=X.k5;have cY:=Y.k5;go_wp2_with fail;refine(n _ _ R).mono ?_;rintro e2 w2 ⟨al,rfl,j,l⟩;replace X:=X.be l;replace Y:=Y.be l;replace d:=aC d l;obtain⟨AL,cL,rfl, -⟩:=j.form;replace cX:=X.k5;replace cY:=Y.k5;have ae:REnd w2 (.agg #[.bool f,.bool s1,.slice D k1 J,.bool s2,.slice E k2 K]) f x:=⟨_,_,_,_,_,_,_,_,rfl,q.be d⟩;have af:REnd w2 (.agg #[.bool g,.bool s3,.slice F k3 M,.bool s4,.slice G k4 N]) g y:=⟨_,_,_,_,_,_,_,_,rfl,r.be d⟩;clear m n R;go_wp2_with fail
 go_region_with (first
  |(go_at_call 104;(first|(with_reducible refine(v1 _ _ _ _ (QQs.up j) ae.up).mono ?_)|(with_reducible refine(v2 _ _ _ _ (QQs.up j) af.up).mono ?_));rintro e5 t ⟨rfl,ad⟩;have:=St.mk ad;have ag:=(X.up (b:=t)).k5;have ah:=(Y.up (b:=t)).k5))
 all_goals (
  go_wp2;go_ret;exact⟨rfl,bJ (b:=t) d⟩)
def MG(A:List Rat)(b s:List Int)(c:List (List Int))(f g:Bool)(x y:Rat)(v u1 u2:Value)(w:World)(hv:QsAt w v A)(m:Prp A b)(a:CnZ b s c)(j:∀q∈A,RL 1 q)(d:A.length<=7)(e:REnd w u1 f x)(i:REnd w u2 g y)(k:RL 250000000 x)(l:RL 250000000 y):
  Calls prog 48 #[v,u1,u2] w (eO w (fF s c (eI f true) x (eI g false) y)):=
 cxF A b s c f g x y v u1 u2 w hv a.1 a.2.2.1 (fun W h=>E8 A b s v W h m a.2.1 j d a.2.2.2.2) e i k l
def yA(w:World)(a:List (List UInt8))(e:Ending)(w':World):Prop:=∃v,e= .returned (.tuple #[v,.int .i64 (dM a)])∧QsAt w' v (oP a)∧Below w.1.size w w'
def L5(a:List (List UInt8))(v:Value)(w:World)(hv:StrsAt w v a)(e:a.length<=7)(g:∀l∈a,l.length<=6):Calls prog 23 #[v] w (yA w a):=by
 obtain⟨A,c,rfl,t⟩:=hv.form;have m:∀q∈aU a,RL 1 q:=pI (fun l e=>aH (g l e) (by decide));have f:=fun W h=>VQ a (.slice A a.length c) W h (by omega) (fun l e=>aH (g l e) (by decide)) (fun q s=>bU (m q s) (by decide));have r:=DC a;unfold qP at f;unfold yA;clear m g;generalize dM a=E at *;generalize oP a=Q at *;generalize vl a=V at *;rcases r with ⟨rfl,rfl,p, -⟩|⟨rfl,rfl,rfl⟩|⟨rfl,rfl,rfl⟩
 ·have u:((Q.length:Int)==0)=false:=by rw[beq_eq_false_iff_ne];omega
  clear p;go_enter func23,ntmps23;go_wp2_with fail;refine(f _ hv).mono ?_;rintro k o ⟨n,rfl,b,d⟩;obtain⟨i,j,rfl, -⟩:=b.form;go_wp2;go_ret2;exact⟨_,rfl,b,d⟩
 ·skip;go_enter func23,ntmps23;go_wp2_with fail;refine(f _ hv).mono ?_;rintro k o ⟨n,rfl,b,d⟩;obtain⟨i,j,rfl, -⟩:=b.form;go_wp2;go_ret2;exact⟨_,rfl,QsAt.nil _,d⟩
 ·skip;go_enter func23,ntmps23;go_wp2_with fail;refine(f _ hv).mono ?_;rintro k o ⟨n,rfl,b,d⟩;obtain⟨i,j,rfl, -⟩:=b.form;go_wp2;go_ret2;exact⟨_,rfl,QsAt.nil _,d⟩
def L4(h:∀q∈A,RL K q)(a:1<=K):RL (4*K+1) (jF A):=by
 unfold jF;exact bU (wW (K:=K+K) (KN h (lV h (iG a) _) a _) (bU rY (by omega))) (by omega)
def IvN(w:World)(v:Value)(x y:Rat):Prop:=∃n a i e o b j f p c k g q d m h,v= .agg #[.bool n,.slice a i e,.bool o,.slice b j f,.bool p,.slice c k g,.bool q,.slice d m h]∧NQ w (.agg #[.bool n,.slice a i e,.bool o,.slice b j f]) x∧NQ w (.agg #[.bool p,.slice c k g,.bool q,.slice d m h]) y
def IvN.of{o p q r:Bool}{a b c d:Option Addr}{j e f m g:Nat}(h:NQ w (.agg #[.bool o,.slice a j e,.bool p,.slice b k f]) x)(s:NQ w (.agg #[.bool q,.slice c m g,.bool r,.slice d n i]) y):IvN w (.agg #[.bool o,.slice a j e,.bool p,.slice b k f,.bool q,.slice c m g,.bool r,.slice d n i]) x y:=⟨_,_,_,_,_,_,_,_,_,_,_,_,_,_,_,_,rfl,h,s⟩
def IvN.ke(h:IvN w v x y)(a:KM w w'):IvN w' v x y:=by
 obtain⟨r,d,n,i,s,e,o,j,t,f,p,k,u,g,q,m,rfl,b,c⟩:=h;exact IvN.of (b.ke a) (c.ke a)
def IvN.be(h:IvN w v x y)(a:Below w.1.size w w'):IvN w' v x y:=h.ke (KM.be a)
def IvN.up{a b:World}[u:Up a b](h:IvN a v x y):IvN b v x y:=h.be u.out
def IvRw(w:World)(rows:List (List Value))(l:List (Rat×Rat)):Prop:=rows.length=l.length∧∀(i:Nat) (p:Rat×Rat),l[i]? =some p->∃cs,rows[i]? =some cs∧IvN w (.agg cs.toArray) p.1 p.2
def RowIv(w:World)(base:Nat)(v:Value)(l:List (Rat×Rat)):Prop:=∃rows,GrowD w base 51 8 v rows∧IvRw w rows l
section
variable {w w':World}{base:Nat}{v:Value}{l:List (Rat×Rat)}{rows:List (List Value)}
def IvRw.ke(h:IvRw w rows l)(b:KM w w'):IvRw w' rows l:=⟨h.1,fun i p c=>by
 obtain⟨cs,e,a⟩:=h.2 i p c;exact⟨cs,e,a.ke b⟩⟩
def RowIv.be(h:RowIv w base v l)(a:Below w.1.size w w'):RowIv w' base v l:=by
 obtain⟨rows,b,c⟩:=h;exact⟨rows,b.be a,c.ke (KM.be a)⟩
def RowIv.up{a b:World}[u:Up a b](h:RowIv a base v l):RowIv b base v l:=h.be u.out
def RowIv.lt(h:RowIv w base v l):∀g,v.ownBlock=some g->base<=g∧g<w.1.size:=by
 obtain⟨rows,a,b⟩:=h;exact a.lt
def RowIv.nil(w:World)(base:Nat):RowIv w base (.slice none 0 0) []:=⟨[],GrowD.nil,rfl,fun i p h=>by simp at h⟩
def RowIv.form(h:RowIv w base v l):∃A c,v= .slice A l.length c∧l.length<=c:=by
 obtain⟨rows,a,b⟩:=h;rw[<-b.1];exact a.form
def RowIv.get{A:Option Addr}{c:Nat}(h:RowIv w base (.slice A n c) l){p:Rat×Rat}(hi:l[i]? =some p):∃b x d r k y f s m z g t o B j u q,A=some ⟨b,0,none⟩∧b<w.1.size∧
  (w.cell? ⟨b,i*8,none⟩=some (.bool x)∧w.cell? ⟨b,i*8+1,none⟩=some (.slice d r k)∧w.cell? ⟨b,i*8+2,none⟩=some (.bool y)∧w.cell? ⟨b,i*8+3,none⟩=some (.slice f s m)∧w.cell? ⟨b,i*8+4,none⟩=some (.bool z)∧w.cell? ⟨b,i*8+5,none⟩=some (.slice g t o)∧w.cell? ⟨b,i*8+6,none⟩=some (.bool B)∧w.cell? ⟨b,i*8+7,none⟩=some (.slice j u q))∧
  IvN w (.agg #[.bool x,.slice d r k,.bool y,.slice f s m,.bool z,.slice g t o,.bool B,.slice j u q]) p.1 p.2:=by
 obtain⟨rows,F,G⟩:=h;obtain⟨K,e,x,d,r,k,y,f,s,m,z,g,t,o,B,j,u,q,C,I,J⟩:=G.2 i p hi;injection C with C;have D:=congrArg Array.toList C;rw[List.toList_toArray] at D;subst D;obtain⟨b,E, -,H,a⟩:=F.at_ e;exact⟨b,x,d,r,k,y,f,s,m,z,g,t,o,B,j,u,q,E,H,⟨a 0 _ rfl,a 1 _ rfl,a 2 _ rfl,a 3 _ rfl,a 4 _ rfl,a 5 _ rfl,a 6 _ rfl,a 7 _ rfl⟩,IvN.of I J⟩
def GrowD.km(h:GrowD w base e k v rows)(c:w.grownBy w' v.ownBlock):KM w w':=⟨c.size,fun p i x a=>by
 refine(World.cell?_of_block (c.block p.block (block_lt_of_cell a) (fun b=> ?_))).trans a;have hn:=h.2.2 p.block b.symm;rcases h.1.2 with ⟨rfl,_⟩|⟨g,f,cur,rfl,_,d,_⟩
 ·simp[Value.ownBlock] at b
 ·simp[Value.ownBlock] at b;unfold World.cell? at a;rw[b] at hn;rw[b,d] at a;simp only at a;split at a
  ·cases a
  ·rw[<-Array.getElem?_toList] at a;exact hn _ _ _ d _ (dG a) i x rfl⟩
def IvRw.push(h:IvRw w rows l)(c:KM w w'){cs:List Value}(hi:IvN w (.agg cs.toArray) x y):IvRw w' (rows++[cs]) (l++[(x,y)]):=by
 have f:=h.ke c;refine⟨by rw[bE,bE,h.1];rfl,fun i p a=> ?_⟩;rcases dE i l.length with b|b
 ·rw[gA b] at a;obtain⟨d,e,g⟩:=f.2 i p a;exact⟨d,by rw[gA (by have:=h.1;omega)];exact e,g⟩
 ·have j:=(List.getElem?_eq_some_iff.1 a).1;rw[bE,iJ] at j;obtain rfl:i=l.length:=by omega
  rw[fK aE,azV] at a;have k:(x,y)=p:=by simpa using a
  subst k;exact⟨cs,by rw[fK (by have:=h.1;omega),h.1,azV];rfl,hi.ke c⟩
end
section
variable {V:Rat->Nat}{sg:Rat->Int}{er:Rat->Rat}{K:Nat}{wb:World}{vp vl:Value}(hV:∀x,V x<=1024)(hK2:K<=1000000000)
 (hva:∀(x:Rat) (bl:Bool) (W:World) (u:Value),Below wb.1.size wb W->REnd W u false x->RL K x->Calls prog 104 #[vl,u,.bool bl] W (eO W (V x:Nat)))
 (hat:∀(x:Rat) (W:World) (u:Value),Below wb.1.size wb W->NQ W u x->RL K x->Calls prog 47 #[vp,u] W (eS W (er x)))
 (hsg:∀(x:Rat) (W:World) (u:Value),NQ W u (er x)->RL K x->Calls prog 34 #[u] W (eO W (sg x)))
include hV hK2 hva hat hsg
end
def DX(a:∀q∈A,RL K q)(c:RL K x)(b:A.length<=7):nl (aI A x).num.natAbs<=14*K+8:=by
 have d:=(CJ a c).1;have:=dK (2*K+1) b;omega
def DY(a:n<=7)(b:K<=1000000000):2*(1+n*(2*K+1)+K)+1<=549755813888:=by
 have:=dK (2*K+1) a;omega
def qZ(A:List Rat)(x y:Rat)(N:Int):Bool:=if x<y then (!decide ((aI A x).num.sign=0)&& !decide ((aI A y).num.sign=0))&&decide (N=1) else decide (x=y)&&decide ((aI A x).num.sign=0)
def M4{w:List Int}(f:Prp A w)(g:CnZ w s c)(x y:Rat):qZ A x y (fF s c 0 x 0 y)=pS s x y (fF s c 0 x 0 y):=by
 have h:=ax5 f g (x:=x) (y:=y);unfold qZ pS;by_cases b:x<y
 ·have i:x≠y:=fun e=>by grind
  rw[if_pos b,if_pos b,bxH];simp only[az7,Bool.not_eq_true',jA,iQ];constructor
  ·intro k;rcases h.2 (.inl ⟨b,k.1.1,k.1.2,k.2⟩) with ⟨-,a,d⟩|⟨a, -⟩
   ·exact⟨a,d⟩
   ·exact absurd a i
  ·intro k;rcases h.1 (.inl ⟨b,k.1,k.2⟩) with ⟨-,a,d,j⟩|⟨a, -⟩
   ·exact⟨⟨a,d⟩,j⟩
   ·exact absurd a i
 ·rw[if_neg b,if_neg b];congr 1;exact decide_eq_decide.2 (sG f g.2.1 x)
def M5(A:List Rat)(w0 s:List Int)(c:List (List Int))(x y:Rat)(v u:Value)(w:World)(hv:QsAt w v A)(hu:IvN w u x y)(pA:Prp A w0)(hZ:CnZ w0 s c)(J:∀q∈A,RL 1 q)(I:A.length<=7)(C:RL 250000000 x)(E:RL 250000000 y):
  Calls prog 18 #[v,u] w fun e w'=>e= .returned (.bool (qZ A x y (fF s c 0 x 0 y)))∧Below w.1.size w w':=by
 obtain⟨A0,c0,rfl,aj⟩:=hv.form;obtain⟨s1,A1,k1,c1,s2,A2,k2,c2,s3,A3,k3,c3,s4,A4,k4,c4,rfl,V,hy⟩:=hu;have Q:=fun W v u1 u2 h h1 G=>MG A w0 s c false false x y v u1 u2 W h pA hZ J I h1 G C E;have O:=fun z u W h l (Z:RL 250000000 z)=>CD A z (.slice A0 A.length c0) u W h l 250000000 (fun q R=>bU (J q R) (by decide)) Z (by omega) (DY I (by decide));have S:=fun (z:Rat) (W:World) (u:Value) (h:NQ W u (aI A z)) (Z:RL 250000000 z)=>oC (aI A z) u W h (aH (DX (fun q R=>bU (J q R) (by decide)) Z I) (by decide));have t1:=fun u W h l=>O x u W h l C;have t2:=fun u W h l=>O y u W h l E;have K:=fun W u h=>S x W u h C;have L:=fun W u h=>S y W u h E;have P:=fun W u v h l=>yS x y u v W h l 250000000 C E (by decide);have E1:=fun u W h=>vB x u W h;have E2:=fun u W h=>vB y u W h;have g:qZ A x y (fF s c 0 x 0 y)=if x<y then (!decide ((aI A x).num.sign=0)&& !decide ((aI A y).num.sign=0))&&decide (fF s c 0 x 0 y=1) else decide (x=y)&&decide ((aI A x).num.sign=0):=rfl;obtain⟨T,hT⟩:∃T,qZ A x y (fF s c 0 x 0 y)=T:=⟨_,rfl⟩;rw[hT] at g⊢;have ac:=iY (x-y);unfold eO at Q K L P;unfold eS at t1 t2;rw[show eI false true=0 from rfl,show eI false false=0 from rfl] at Q;clear O S C E hT pA hZ J I;generalize aI A x=ex at *;generalize aI A y=ey at *;generalize fF s c 0 x 0 y=N at *;generalize ex.num.sign=F at *;generalize ey.num.sign=Sy at *;have hD:x<y∧(x-y).num.sign= -1∨¬x<y∧x=y∧(x-y).num.sign=0∨¬x<y∧x≠y∧(x-y).num.sign=1:=by
  rcases ac with h|h|h
  ·exact .inl ⟨by grind,(fS _).2 h⟩
  ·exact .inr (.inl ⟨by grind,by grind,by rw[h];rfl⟩)
  ·exact .inr (.inr ⟨by grind,by grind,(fS _).1 h⟩)
 clear ac;generalize (x-y).num.sign=D at *;obtain⟨W,eW,t,X⟩:=bI w [.bool s1,.slice A1 k1 c1,.bool s2,.slice A2 k2 c2,.bool s3,.slice A3 k3 c3,.bool s4,.slice A4 k4 c4] 51;have cM:=X.g8;go_enter func18,ntmps18;go_wp2_with fail;(try rw[eW]);clear eW;refine(P _ _ _ (V.be t) (hy.be t)).mono ?_;rintro e1 w1 ⟨rfl,ae⟩;have:=St.mk ae;have ad:=(X.up (b:=w1)).k8;go_wp2_with fail;refine(t1 _ _ (hv.be t).up (V.be t).up).mono ?_;rintro e2 w2 ⟨v2,rfl,G,af⟩;have:=St.mk af;go_wp2_with fail;refine(K _ _ G).mono ?_;rintro e3 w3 ⟨rfl,ag⟩;have:=St.mk ag;have j:=X.up (b:=w3);have ai:=j.k8;have d:=bJ (b:=w3) t;have U:=hv.be d;have ah:=V.be d;have Y:=hy.be d;clear P t1 K ad G;rcases hD with ⟨k,rfl⟩|⟨k,B,rfl⟩|⟨k,B,rfl⟩
 ·rw[if_pos k] at g;have n:=aB g;clear g k;by_cases r:F=0
  ·subst r;have i:Hid (T=false):=by unfold Hid;rw[n.out];simp
   clear n;go_wp2_with fail;go_quiet (fail);go_wp2;go_ret;exact⟨by rw[i.out];rfl,d.os,d.tape,d.output,d.size,d.block⟩
  ·have q0:(F==0)=false:=by simpa using r
   by_cases H:Sy=0
   ·subst H;have i:Hid (T=false):=by unfold Hid;rw[n.out];simp
    clear n r;go_wp2_with fail
    first
     |(go_region_with (first
          |(go_at_call 47;refine(t2 _ _ U.up Y.up).mono ?_;rintro o a ⟨v7,rfl,M,f⟩;have:=St.mk f;have p:=(j.up (b:=a)).k8;have m:=bJ (b:=a) d)
          |(go_at_call 34;refine(L _ _ M.up).mono ?_;rintro o a ⟨rfl,f⟩;have:=St.mk f;have p:=(j.up (b:=a)).k8;have m:=bJ (b:=a) d))
       all_goals (
        go_wp2;go_ret;exact⟨by rw[i.out];rfl,m⟩))
     |fail
   ·have q1:(Sy != 0)=true:=by simpa using H
    have i:Hid (T=(N==1)):=by unfold Hid;rw[n.out,decide_eq_false r,decide_eq_false H];by_cases h:N=1<;>simp[h]
    clear n r H;go_wp2_with fail
    go_region_held3 (fun w'=>C8 w' w.1.size (.bool s1) (.slice A1 k1 c1) (.bool s2) (.slice A2 k2 c2) (.bool s3) (.slice A3 k3 c3) (.bool s4) (.slice A4 k4 c4)) (with_reducible exact j.up.k8)
     (first
      |(go_at_call 47;refine(t2 _ _ U.up Y.up).mono ?_;rintro o a ⟨v7,rfl,M,f⟩;have:=St.mk f;have p:=(j.up (b:=a)).k8;have m:=bJ (b:=a) d)
      |(go_at_call 34;refine(L _ _ M.up).mono ?_;rintro o a ⟨rfl,f⟩;have:=St.mk f;have p:=(j.up (b:=a)).k8;have m:=bJ (b:=a) d)
      |(go_at_call 49;(first|((with_reducible refine(E1 _ _ ah.up).mono ?_);rintro o a ⟨v8,rfl,h8,f⟩)|((with_reducible refine(E2 _ _ Y.up).mono ?_);rintro o a ⟨v9,rfl,h9,f⟩));have:=St.mk f;have p:=(j.up (b:=a)).k8;have m:=bJ (b:=a) d)
      |(go_at_call 48;refine(Q _ _ _ _ U.up h8.up h9.up).mono ?_;rintro o a ⟨rfl,f⟩;have:=St.mk f;have p:=(j.up (b:=a)).k8;have m:=bJ (b:=a) d)
      |fail)
    all_goals (
     go_wp2;go_ret;exact⟨by rw[i.out];rfl,m⟩)
 ·rw[if_neg k] at g;have i:Hid (T=(F==0)):=by unfold Hid;rw[g,decide_eq_true B,Bool.true_and];by_cases h:F=0<;>simp[h]
  clear g k B;go_wp2;go_ret;exact⟨by rw[i.out];rfl,d⟩
 ·rw[if_neg k] at g;have i:Hid (T=false):=by unfold Hid;rw[g,decide_eq_false B,Bool.false_and]
  clear g k B;go_wp2;go_ret;exact⟨by rw[i.out];rfl,d⟩
def LY:bD [48]=some 0:=by decide
def ayM:bD [49]=some 1:=by decide
def ayN:bD [45,50]=some (-2):=by decide
