/- Laws. -/
import Derived.Test.YtpjpfjephpgcbaaGreatDoorQ26
import Derived.Test.YtpjpfjephpgcbaaGreatDoorQ27
set_option linter.all false
set_option maxHeartbeats 8000000
set_option maxRecDepth 99999
namespace Go.Proofs.YtpjpfjephpgcbaaGreatDoor
open Go.RowKit Sos Tryz
variable{B K g i k n:Nat}{a b s:List Int}{c:List (List Int)}{C:List (List Rat)}{e t:TypeId}{A R S:List Rat}{W w w' w1:World}{l:List (Rat×Rat)}{u v:Value}{f:Bool}{x y:Rat}{Q p:Rat×Rat}{cs:List Value}
def DB(p:List Rat)(v:Value)(w:World)(hv:QsAt w v p)(K:Nat)(t:∀q∈p,RL K q)(i:1<=K)(L:p≠[]->cf p (p.length-1)≠0)(S:p.length<=1024)(ac:K<=60000000000):
  Calls prog 126 #[v] w (lT w (oQ p)):=by
 obtain⟨A,c,rfl,hc⟩:=hv.form;go_enter func126,ntmps126;by_cases d:p.length=0
 ·have f:Hid (oQ p=[]):=by
   have:p=[]:=bX d;rw[this];rfl
  have Y:((p.length:Int)==0)=true:=by rw[d];rfl
  clear d;go_wp2;go_ret;exact⟨_,rfl,by rw[f.out];exact QsAt.nil _,aG _ _⟩
 ·have Y:((p.length:Int)==0)=false:=by simpa using d
  obtain⟨l,k⟩:∃l,p.length-1=l:=⟨_,rfl⟩;have af:(p.length:Int)-1=(l:Int):=by omega
  have T:l<p.length:=by omega
  have ad:(0:Int)<=(l:Int):=by omega
  have ae:(l:Int)<(p.length:Int):=by omega
  have ag:IntKind.i64.wrap (l:Int)=(l:Int):=IntWalk.i64_in _ ⟨by omega,by omega⟩;have m:=L (fun e=>d (by rw[e];rfl));obtain⟨F,Z,D,V,G,s4,E,X,H,rfl,Q,I,R⟩:=hv.cell T;have f:Hid (aW aV (oA [] (1/cf p l) p)=oQ p):=by unfold Hid oQ;rw[k]
  rw[k] at m;have o:RL K (cf p l):=lV t (iG i) l;have j:RL K 1:=bU (az3 (n:=1) (by decide)) i;have C:∀W,Calls prog 58 #[.int .i64 1] W (eS W 1):=fun W=>r7 1 W (by decide);have z:=fun W u v h g=>vD 1 (cf p l) u v W h g K j o (by omega) m;have B:=fun W u v x h g J=>KX [] (1/cf p l) p u v x W h g J K (K+K) (fun q U=>by cases U) t (xS j o) i (by simp) S (by omega);rw[f.out] at B;unfold eS at C z;clear m o d k j;generalize cf p l=x at *;generalize 1/x=y at *;go_wp2_with fail
  go_region_held3 (fun w'=>R4 w' F (l*4) (.bool Z) (.slice D V G) (.bool s4) (.slice E X H))
   (with_reducible exact I.up Q)
   (first
    |(go_at_call 58;refine(C _).mono ?_;rintro e5 w5 ⟨v5,rfl,r,N⟩;obtain⟨s5,A5,k5,c5,s6,A6,k6,c6,rfl⟩:=r.form;have:=St.mk N)
    |(go_at_call 119;refine(z _ _ _ r.up R.up).mono ?_;rintro e7 w7 ⟨v7,rfl,s,O⟩;obtain⟨s7,A7,k7,c7,s8,A8,k8,c8,rfl⟩:=s.form;have:=St.mk O)
    |(go_at_call 124;refine(B _ _ _ _ (QsAt.nil _) s.up hv.up).mono ?_;rintro e9 w9 ⟨v9,rfl,M,P⟩;have:=St.mk P))
  all_goals (
   go_wp2;go_ret;exact⟨_,rfl,M,Up.out (a:=w) (b:=w9)⟩)
def ZI(m:List Int->List Int->List Int->Prop)(z:Nat)(aj:∀{a g:List Int},m a [] g->aN a->cE a=cE g)(am:∀{A c Q R:List Rat} {a b g:List Int},Prp A a->Prp c b->b≠[]->m a b g->DivQ A c Q R->∃d,Prp R d∧m b d g∧(∀n∈d,nl n.natAbs<=z)∧d.length<b.length)(A c:List Rat)(a b g:List Int)(va vb:Value)(w:World)(l:QsAt w va A)(i:QsAt w vb c)(Y:Prp A a)(Z:Prp c b)(T:m a b g)(K:Nat)(G:∀q∈A,RL K q)(H:∀q∈c,RL K q)(ad:z<=K)(an:1<=z)(x:A.length<=8)(y:c.length<=8)(hK:K<=10000000):
  Calls prog 125 #[va,vb] w (lT w (cE g)):=by
 go_enter func125,ntmps125;go_wp2_with fail;go_loopg [0,1] c.length (fun k v0 v1 wr=>∃(A c:List Rat) (a b:List Int),Hid (c.length=k)∧QsAt wr v0 A∧QsAt wr v1 c∧Hid (Prp A a∧Prp c b∧m a b g)∧Hid ((∀q∈A,RL K q)∧∀q∈c,RL K q)∧A.length<=8∧c.length<=8∧Below w.1.size w wr)
 case atStart=>exact⟨A,c,a,b,rfl,l,i,⟨Y,Z,T⟩,⟨G,H⟩,x,y,aG _ _⟩
 case round=>
  clear l i Y Z T G H x y;clear A c a b;obtain⟨A,c,a,b,s,l,i,f,p,x,y,j⟩:=hrel;generalize wr=wx at *;obtain⟨A1,c1,rfl,aq⟩:=l.form;obtain⟨A2,c2,rfl,ar⟩:=i.form;cases gk with
  |zero=>
   have q0:¬(0:Int)<(c.length:Int):=by have:=s.out;omega
   have B:Hid (oQ A=cE g):=by
    have ah:b=[]:=bX (by rw[<-f.out.2.1.1];exact s.out);have t:=f.out.2.2;rw[ah] at t;exact(qT f.out.1).trans (aj t f.out.1.2.1)
   have r:=fun W h=>DB A (.slice A1 A.length c1) W h K p.out.1 (by omega) (fun e=>f.out.1.ne (fun C=>e (bX (by rw[f.out.1.1,C];rfl)))) (by omega) (by omega);rw[B.out] at r;go_wp2_with fail;refine(r _ l).mono ?_;rintro e3 w3 ⟨v3,rfl,t,ag⟩;go_wp2;go_ret;exact⟨_,rfl,t,aC j ag⟩
  |succ k=>
   have q0:(0:Int)<(c.length:Int):=by have:=s.out;omega
   have ae:1<=c.length:=by omega
   have M:b≠[]:=fun e=>by
    have h:=f.out.2.1.1;rw[e] at h;have D:c.length=0:=h;omega
   have ai:=JY K A.length;have V:2^A.length<=2^8:=cO (by decide) x;have al:=aqK V (show 3*K+1<=30000001 by omega);have P:=fun W u v h D=>L3 A c u v W h D K p.out.1 p.out.2 (by omega) (by omega) ae (f.out.2.1.ne M) 16000000000 (by omega) (by decide);have r:=fun (R:List Rat) W v h hR hl h0=>DB R v W h 16000000000 hR (by decide) h0 hl (by decide);clear ai V al;go_wp2_with fail;refine(P _ _ _ l i).mono ?_;rintro e4 w4 ⟨v4,u4,Q,R,rfl,h4,X,F,af,J,ao,ap,N⟩;obtain⟨d,o,L,U,S⟩:=am f.out.1 f.out.2.1 M f.out.2.2 F;have I:R≠[]->cf R (R.length-1)≠0:=fun e=>o.ne (fun C=>e (bX (by rw[o.1,C];rfl)));replace i:=i.be N;replace j:=aC j N;have B:=aB (qT o);have HN:Hid (Prp c b∧Prp (cE d) d∧m b d g):=⟨f.out.2.1,uD o.2.1,L⟩;have ak:(cE d).length=d.length:=(uD o.2.1).1;have au:d.length<c.length:=by rw[f.out.2.1.1];exact S
   have ac:Hid ((∀q∈c,RL K q)∧∀q∈cE d,RL K q):=⟨p.out.2,CU (fun n hn=>aH (U n hn) ad) (by omega)⟩;clear P F af l o L U S f p h4;go_wp2_with fail;refine(r R _ _ X J (by omega) I).mono ?_;rintro e5 w5 ⟨v5,rfl,E,O⟩;rw[B.out] at E;replace i:=i.be O;replace j:=aC j O;clear r X J I;go_wp2;go_roundg d.length
   case rel=>exact⟨c,cE d,b,d,by unfold Hid;exact ak,i,E,HN,ac,y,by omega,j⟩
   case measure=>have:=s.out;omega
def ZJ(c:Nat)(A d:List Rat)(a b g:List Int)(i j:Value)(w:World)(e:QsAt w i A)(f:QsAt w j d)(v:Prp A a)(x:Prp d b)(T:Trc c a b g)(K:Nat)(o:∀q∈A,RL K q)(p:∀q∈d,RL K q)(k:c<=K)(l:1<=c)(s:A.length<=8)(u:d.length<=8)(n:K<=10000000):
  Calls prog 125 #[i,j] w (lT w (cE g)):=
 ZI (Trc c) c (fun h t=>h.done t) (fun e f r h m=>XN e f r h m) A d a b g i j w e f v x T K o p k l s u n
def ZN(w:World):Calls prog 118 #[.int .i64 (-1)] w (nN w (-1)):=by
 have z:IntKind.u64.wrap (-1)=18446744073709551615:=by decide
 have A:IntKind.u64.wrap (-18446744073709551615)=1:=by decide
 have b:(1:Int)%4294967296=1:=by decide
 have C:(1:Int)/4294967296=0:=by decide
 obtain⟨W,h,a,R⟩:=bI w [.bool false,.slice none 0 0] 40;have c:=R.g2;go_enter func118,ntmps118;go_wp2_with fail;(try rw[h]);clear h;obtain⟨s,g,j,B⟩:=bI W [.int .u32 1,.int .u32 0] 153;rw[g];clear g;have l:=oW [1,0] W.1.size 1 2 s B (fun d p=>by simp at p;unfold aD;omega) (by simp[nv]) aE (by simp);simp only[eG,azS] at l;refine l.mono ?_;rintro u E ⟨v,rfl,r,rfl⟩;replace R:=R.be j;replace c:=R.g2;replace a:=aC a j;go_wp2_with fail;refine(pU true v 1 (-1) _ r (aH (cJ (m:=1) (by unfold BN;omega)) (by decide)) rfl (by simp)).mono ?_;rintro x F ⟨D,rfl,b,k⟩;obtain⟨o,e,n,f,rfl⟩:=b.form;replace R:=R.be k;replace c:=R.g2;replace a:=aC a k;go_wp2_with fail;obtain⟨t,i,R,a,q,y⟩:=R.mut2 a (by omega) (.bool o) (.slice e n f) rfl rfl;replace b:=b.ke q;rw[i];clear i;replace c:=R.k2;exact aM (v:= .agg #[.bool o,.slice e n f]) (by simp[results,results118,go_sem,R.k2]) rfl ⟨_,rfl,b,a⟩
def ZO(w:World):Calls prog 58 #[.int .i64 (-1)] w (eS w (-1)):=by
 have d:Hid ((-1:Rat).num= -1∧bS (-1:Rat)=0):=⟨rfl,fV.2 rfl⟩;obtain⟨W,g,a,R⟩:=bI w [.bool false,.slice none 0 0,.bool false,.slice none 0 0] 42;have f:=R.g4;go_enter func58,ntmps58;go_wp2_with fail;(try rw[g]);clear g;refine(ZN _).mono ?_;rintro n q ⟨p,rfl,b,i⟩;obtain⟨k,c,j,e,rfl⟩:=b.form;replace R:=R.be i;replace f:=R.g4;replace a:=aC a i;go_wp2_with fail;obtain⟨m,h,R,a,l,o⟩:=R.mut4 a (by omega) (.bool k) (.slice c j e) (.bool false) (.slice none 0 0) rfl rfl;replace b:=b.ke l;rw[h];clear h;replace f:=R.k4;exact aM (v:= .agg #[.bool k,.slice c j e,.bool false,.slice none 0 0]) (by simp[results,results58,go_sem,R.k4]) rfl ⟨_,rfl,NQ.of b (NI.zero _) d.out.1 d.out.2,a⟩
def ChT.last{b c:Rat}(h:ChT B a b [] c C):C=[]:=by
 cases h with
 |done=>rfl
 |step d=>exact absurd rfl d
def ChT.split{g c:Rat}(h:ChT B a g b c C)(d:b≠[]):∃r' f C2,C=aT c b :: C2∧ChT B b c r' f C2∧r'.length<b.length∧(∀Q R,DivQ (aT g a) (aT c b) Q R->aW aV (oA [] (-1) R)=aT f r')∧cf (aT c b) (b.length-1)≠0:=by
 cases h with
 |done=>exact absurd rfl d
 |step d h e m l k j n hn t=>
  refine⟨_,_,_,rfl,t,by rw[l];exact h.r_lt,fun Q R i=>CS d h e m k j i,?_⟩;rw[dS];exact m6 e.2.1 (gJ ((fT d).1 e.2.2))
def ChT.trim{e c:Rat}(h:ChT B a e b c C):aN (aT c b):=by
 cases h with
 |done=>exact fun x f=>by simp[aT] at f
 |step i h d m l k j g hn t=>exact CQ (.inl d.2.1) d.2.2
def ChT.nums{d c:Rat}(h:ChT B a d b c C)(e:∀X∈C,∀q∈X,RL K q):∀q∈aT c b,RL K q:=by
 cases h with
 |done=>exact fun q f=>by simp[aT] at f
 |step j h g n m l k i hn t=>exact e _ iC
def MJ(b:1<=K)(h:aW aV (oA [] (-1) R)=S)(c:∀q∈S,RL K q):∀q∈R,RL K q:=fun q d=>by
 obtain⟨i,hi⟩:=List.mem_iff_getElem?.1 d;have e:cf S i= -q:=by
  rw[<-h,iS,xW,eR];have:cf R i=q:=by unfold cf;rw[eE,hi];rfl
  rw[this];grind
 have a:=lV c (iG b) i;rw[e] at a;exact⟨by have:=a.1;rwa [Rat.neg_num,azJ] at this,a.2⟩
def MK:RL 1 (-1:Rat):=⟨by rw[Rat.neg_num,azJ];exact rY.1,rY.2⟩
def E9(A:List Rat){j c:Rat}(D:ChT B a j b c C)(ea:aT j a=A)(eb:aT c b=fW A)(v:Value)(w:World)(hv:QsAt w v A)(K:Nat)(hK:∀X∈A :: C,∀q∈X,RL K q)(N:1<=K)(V:A.length<=7)(bz:K<=250000000):
  Calls prog 62 #[v] w (vC w (A :: C)):=by
 obtain⟨A0,c0,rfl,bp⟩:=hv.form;have S:=fun W h=>JF A (.slice A0 A.length c0) W h K (hK A iC) (by omega) N (by omega);have a6:aW aV (fW A)=aT c b:=by rw[<-eb];exact qB D.trim
 rw[a6] at S;have bu:b.length<=7:=by
  have:=congrArg List.length eb;rw[fX,qO] at this;omega
 have ac:Hid (A=aT j a∧ChT B a j b c C∧([]++[A])++C=A :: C):=⟨ea.symm,D,rfl⟩;have HK:=aB hK;have l:Below w.1.size w (w.alloc (.cells #[.slice A0 A.length c0] 45)):=(aG _ _).alloc aE _;have d:=QQs.one hv aE;replace hv:=hv.be l;unfold lT at S;unfold vC;clear a6 eb ea D hK;go_enter func62,ntmps62;go_wp2_with fail;refine(S _ hv).mono ?_;rintro e1 w1 ⟨v1,rfl,ae,a4⟩;replace d:=QQs.be d a4;have f:=aC l a4;have bf:Hid (b.length=b.length):=rfl;have L:Hid ((aT c b).length=b.length):=fX c b;generalize a3:aT c b=Y at *;have aw:=aB a3;obtain⟨A1,c1,rfl,bq⟩:=ae.form;clear S l a3;go_wp2_with fail;go_loopg [3,4] b.length (fun k vo vn wr=>∃(X Y:List Rat) (a b:List Int) (j c:Rat) (C' g:List (List Rat)),Hid (b.length=k)∧QQs wr w.1.size 45 vo (g++[X])∧QsAt wr vn Y∧Hid (X=aT j a∧Y=aT c b∧ChT B a j b c C'∧(g++[X])++C'=A :: C)∧Hid (Y.length=b.length)∧X.length<=7∧g.length+b.length<=7∧Below w.1.size w wr)
 case atStart=>exact⟨A,Y,a,b,j,c,C,[],rfl,d,ae,⟨ac.out.1,aw.out.symm,ac.out.2⟩,L,V,by simp;omega,f⟩
 case round=>
  clear d ae f hv L ac aw V bu bp bq bf;obtain⟨X,Y,a,b,j,c,C',g,HL,d,E,HT,L,b2,bw,f⟩:=hrel;have am:=L.out;generalize wr=F at *;obtain⟨r,ah⟩:∃r,g++[X]=r:=⟨_,rfl⟩;have t:=aB ah;rw[ah] at d;clear ah;obtain⟨Af,bx,rfl,b0⟩:=d.form;obtain⟨Ay,cy,rfl,b1⟩:=E.form;by_cases h0:b.length=0
  ·have q0:¬(0:Int)<(Y.length:Int):=by omega
   have z:r=A :: C:=by
    rw[<-t.out];have O:b=[]:=bX h0;obtain⟨-, -,h3,I⟩:=HT.out;rw[O] at h3;rw[h3.last,fH] at I;exact I
   have HE:=aB z;clear z h0 am;go_wp2;go_ret;refine⟨_,rfl,?_,f⟩;rw[<-HE.out];exact d
  ·have q0:(0:Int)<(Y.length:Int):=by omega
   have O:b≠[]:=fun e=>h0 (by rw[e];rfl);obtain⟨eX,y,D,z⟩:=HT.out;obtain⟨i,n,C2,rfl,ai,b7,T,aj⟩:=D.split O;rw[<-eX,<-y] at T;rw[<-y,<-am] at aj;have kC:∀Z∈(g++[X])++aT c b :: C2,∀q∈Z,RL K q:=by rw[z];exact HK.out
   have kX:∀q∈X,RL K q:=kC X (by simp);have kY:∀q∈Y,RL K q:=kC Y (by rw[y];simp);have kN:=ai.nums (fun Z hZ=>kC Z (by simp[hZ]));have bs:=JY K (X.length-Y.length+1);have o:2^(X.length-Y.length+1)<=2^7:=cO (by decide) (by omega);have bv:=aqK o (show 3*K+1<=750000001 by omega);have a7:=fun W u v h H=>L2 X Y u v W h H K kX kY N (by omega) (by omega) aj 200000000000 (by omega) (fun _=>by omega) (by decide);have a9:=fun R W u v x h H ad (hR:∀q∈R,RL K q) V=>KX [] (-1) R u v x W h H ad K 1 (fun q hq=>by cases hq) hR MK N (by simp) V (by omega);have au:Hid (∀Q R,DivQ X Y Q R->aW aV (oA [] (-1) R)=aT n i∧(∀q∈R,RL K q)):=fun Q R hD=>⟨T Q R hD,MJ N (T Q R hD) kN⟩;have G:Hid (Y=aT c b∧ChT B b c i n C2∧((g++[X])++[Y])++C2=A :: C):=⟨y,ai,by rw[<-z,y];simp⟩;have bm:Y.length<=7:=by omega
   clear am bs o bv eX y D z ai T aj kC kX kY kN HT O;have l:Below F.1.size F (F.alloc (.cells #[.slice Ay Y.length cy] 45)):=(aG _ _).alloc aE _;have X1:=Bx.new F [.slice Ay Y.length cy] 45;replace E:=E.be l;replace d:=QQs.be d l;have b9:w.1.size<=F.1.size:=f.size;replace f:=aC f l;have ax:=X1.cell 0 rfl;obtain⟨bc,o,ap,bb⟩:=id d;have aq:bc.length=g.length+1:=by rw[ap,<-t.out,bE];rfl
   go_wp2_with (at_builtin;refine K4 rfl rfl 45 24 underlying117 ML w.1.size _ bc rfl o F.1.size (.slice Ay Y.length cy) rfl ax ⟨_,_,_,rfl⟩ (by rw[aq];omega) (by rw[aq];unfold maxLen;omega) f.size ?_;intro v8 w8 a8 bt U);have p:=QQs.push o ap bb E a8 U;have J:=E.grown o (by decide) U;have s:=K5 f U o aE;obtain⟨A8,c8,rfl,br⟩:=p.form;have az:(r++[Y])[g.length]? =some X:=by rw[<-t.out];simp
   have af:(r++[Y]).length=g.length+2:=by rw[<-t.out];simp
   obtain⟨b8,u8,rfl,bo,a5,ao⟩:=p.at_ az;clear az d E l X1 ax a8 bt U o ap bb aq f;rw[t.out] at G;obtain⟨M,ag⟩:∃M,r++[Y]=M:=⟨_,rfl⟩;have ar:=aB ag;rw[ag] at p af G br⊢;clear ag;obtain⟨m,hm⟩:∃m,g.length=m:=⟨_,rfl⟩;have HM:=aB hm;rw[hm] at af a5 bw;clear hm;have b3:(M.length:Int)-2=(m:Int):=by omega
   have b4:(0:Int)<=(m:Int):=by omega
   have b5:(m:Int)<(M.length:Int):=by omega
   have b6:IntKind.i64.wrap (m:Int)=(m:Int):=IntWalk.i64_in _ ⟨by omega,by omega⟩;obtain⟨Au,cu,rfl, -⟩:=ao.form;clear af;go_wp2_with fail;rw[run_len_slice (P:=prog) _ 117 3 _ _ _ (by simp[go_sem])];go_wp2_with fail;refine(a7 _ _ _ ao J).mono ?_;rintro e4 w4 ⟨v4,u4,Q,R,rfl,I,i4,ay,bh,bj,bi,bk,ak⟩;obtain⟨a0,a1⟩:=au.out Q R ay;have an:=fun W u v x h H ad=>a9 R W u v x h H ad a1 (by omega);rw[a0] at an;have ba:=fun W=>ZO W;unfold lT at an;unfold eS at ba;replace p:=QQs.be p ak;replace J:=J.be ak;replace s:=aC s ak;have bg:Hid ((aT n i).length=i.length):=fX n i;obtain⟨A4,c4,rfl, -⟩:=I.form;obtain⟨A5,c5,rfl, -⟩:=i4.form;clear a7 a9 au a0 a1 ay bh bj bi bk I ao a5 bo;have av:Hid (aT n i=aT n i):=rfl;generalize a2:aT n i=Y2 at *;replace av:=aB a2.symm;clear a2;go_wp2_with fail;refine(ba _).mono ?_;rintro e5 w5 ⟨v5,rfl,h5,al⟩;obtain⟨s5,B5,k5,d5,s6,B6,k6,d6,rfl⟩:=h5.form;go_wp2_with fail;refine(an _ _ _ _ (QsAt.nil _) h5 (i4.be al)).mono ?_;rintro e6 w6 ⟨v6,rfl,h6,bn⟩;have hB:=aC al bn;replace p:=QQs.be p hB;replace J:=J.be hB;replace s:=aC s hB;go_wp2;go_roundg i.length
   case rel=>exact⟨Y,Y2,b,i,c,n,C2,r,rfl,by rw[ar.out];exact p,h6,⟨G.out.1,av.out,G.out.2.1,by rw[ar.out];exact G.out.2.2⟩,bg,bm,by have:=HM.out;have:=congrArg List.length t.out;simp at this;omega,s⟩
   case measure=>have:=HL.out;omega
def Bx.put5n{b:Nat}{j k l m n:Value}(h:Bx W b [j,k,l,m,n] t)(A:Below B w W)(a:B<=b)(d e f g i:Value)(hn:(cS (some j)&&(cS (some k)&&(cS (some l)&&(cS (some m)&&cS (some n)))))=true):
  ∃c,((((W.setCell ⟨b,0,none⟩ d).setCell ⟨b,1,none⟩ e).setCell ⟨b,2,none⟩ f).setCell ⟨b,3,none⟩ g).setCell ⟨b,4,none⟩ i=c∧Bx c b [d,e,f,g,i] t∧Below B w c∧KM W c:=by
 simp only[az7] at hn;obtain⟨H,rfl,u,o,C,M⟩:=h.mut1 A a 0 d hn.1;obtain⟨I,rfl,v,p,D,N⟩:=u.mut1 o a 1 e hn.2.1;obtain⟨J,rfl,x,q,E,O⟩:=v.mut1 p a 2 f hn.2.2.1;obtain⟨K,rfl,y,r,F,P⟩:=x.mut1 q a 3 g hn.2.2.2.1;obtain⟨L,rfl,z,s,G,Q⟩:=y.mut1 r a 4 i hn.2.2.2.2;exact⟨_,rfl,z,s,(((C.trans D).trans E).trans F).trans G⟩
def REnd(w:World)(v:Value)(f:Bool)(x:Rat):Prop:=∃h a e c i b g d,v= .agg #[.bool f,.bool h,.slice a e c,.bool i,.slice b g d]∧NQ w (.agg #[.bool h,.slice a e c,.bool i,.slice b g d]) x
def REnd.be(h:REnd w v f x)(g:Below w.1.size w w'):REnd w' v f x:=by
 obtain⟨k,a,i,c,l,b,j,d,e,h⟩:=h;exact⟨k,a,i,c,l,b,j,d,e,h.be g⟩
def REnd.up{a b:World}[u:Up a b](h:REnd a v f x):REnd b v f x:=h.be u.out
def vB(x:Rat)(v:Value)(w:World)(hv:NQ w v x):Calls prog 49 #[v] w (fun e w'=>∃l,e= .returned l∧REnd w' l false x∧Below w.1.size w w'):=by
 obtain⟨h,a,f,c,i,b,g,d,rfl⟩:=hv.form;obtain⟨W,j,k,X,R⟩:=eL w [.bool h,.slice a f c,.bool i,.slice b g d] 42 [.bool false,.bool false,.slice none 0 0,.bool false,.slice none 0 0] 100;have r:=aa X.g4 R.g5;go_enter func49,ntmps49;go_wp2_with fail;(try rw[j]);clear j;obtain⟨q,n,m,o,p⟩:=R.put5n k (Nat.le_succ _) (.bool false) (.bool h) (.slice a f c) (.bool i) (.slice b g d) rfl;rw[n];exact aM (v:= .agg #[.bool false,.bool h,.slice a f c,.bool i,.slice b g d]) (by simp[results,results49,go_sem,m.k5]) rfl ⟨_,rfl,⟨_,_,_,_,_,_,_,_,rfl,(hv.be k).ke p⟩,o⟩
def yS(x y:Rat)(l m:Value)(w:World)(g:NQ w l x)(i:NQ w m y)(K:Nat)(j:RL K x)(k:RL K y)(C:2*K+1<=549755813888):Calls prog 46 #[l,m] w (eO w (x-y).num.sign):=by
 obtain⟨I,n,E,r,J,o,F,s,rfl⟩:=g.form;obtain⟨L,p,G,t,M,q,H,z,rfl⟩:=i.form;have e:=fun W u v h A=>EC x y u v W h A K j k C;have Q:=(JM j k).1;have f:=fun W v h=>oC (x-y) v W h (by omega);unfold eS at e;unfold eO at f;unfold eO;generalize x-y=d at *;obtain⟨W,b,a,X,Y⟩:=eL w [.bool I,.slice n E r,.bool J,.slice o F s] 42 [.bool L,.slice p G t,.bool M,.slice q H z] 42;have N:=aa X.g4 Y.g4;go_enter func46,ntmps46;go_wp2_with fail;(try rw[b]);clear b;refine(e _ _ _ (g.be a) (i.be a)).mono ?_;rintro O S ⟨R,rfl,B,c⟩;go_wp2_with fail;refine(f _ _ B).mono ?_;rintro P T ⟨rfl,D⟩;go_wp2;go_ret;exact⟨rfl,a.trans ((aC c D).mono a.size)⟩
def E8(A:List Rat)(k s:List Int)(v:Value)(w:World)(hv:QsAt w v A)(b:Prp A k)(i:Sqp 24057 k s)(m:∀q∈A,RL 1 q)(y:A.length<=7)(E:∀n∈k,nl n.natAbs<=9):
  Calls prog 63 #[v] w (lT w (cE s)):=by
 obtain⟨o,p,rfl,al⟩:=hv.form;obtain⟨F,J⟩:=MI b;obtain⟨g,t,j,H,pg,ai,P⟩:=i.out;have V:=gU (pL (K:=9) E (by have:=b.1;omega));obtain⟨-,Y,lg⟩:=y5 t (by decide) b.2.1 F.2.1 (fun n hn=>aH (E n hn) (by decide)) (fun n hn=>aH (V n hn) (by decide));have x:=fun W h=>JF A (.slice o A.length p) W h 1 m (by omega) (by decide) (by decide);rw[J] at x;have U:∀q∈fW A,RL 24057 q:=fun q B=>bU (JE m (by omega) (by decide) q B) (by decide);have lD:=qO A;have C:∀q∈A,RL 24057 q:=fun q B=>bU (m q B) (by decide);have O:=fun W u h r=>ZJ 24057 A (fW A) k (aS (bB k)) g (.slice o A.length p) u W h r b F (.inl t) 24057 C U aE (by decide) (by omega) (by omega) (by decide);have l:=uD H;have ah:(cE g).length=g.length:=l.1;have ag:=List.length_pos_iff.2 j;have X:2*kM 24057 7<=20000000:=by decide
 have af:=fun W u h r=>L3 A (cE g) (.slice o A.length p) u W h r 24057 C (CU Y (by decide)) (by decide) (by omega) (by omega) (l.ne j) 20000000 (aH (eV 2 (uF 24057 y)) X) (by decide);have HQ:Hid (∀Q R,DivQ A (cE g) Q R->oQ Q=cE s∧(Q≠[]->cf Q (Q.length-1)≠0)):=fun Q R hD=>by
  obtain⟨c,hc,e⟩:=b.eq_smul;obtain⟨f,hf,I⟩:=CP hc i.ts H j P;rw[<-e] at I;obtain⟨rfl, -⟩:=hD.unique I (l.ne j) (by omega);have Z:=jY hf i.ts;exact⟨qT Z,fun h=>Z.ne i.ne⟩
 have z:=fun (Q:List Rat) W u h d y h0=>DB Q u W h 20000000 d (by decide) h0 y (by decide);unfold lT at x O z;unfold lT;clear U C l ah ag X V lg F J t j H pg ai P Y lD m E i b;generalize fW A=D at *;generalize cE g=G at *;generalize cE s=S at *;go_enter func63,ntmps63;go_wp2_with fail;refine(x _ hv).mono ?_;rintro e1 w1 ⟨v1,rfl,h1,a⟩;replace hv:=hv.be a;go_wp2_with fail;refine(O _ _ hv h1).mono ?_;rintro e2 w2 ⟨v2,rfl,h2,N⟩;replace hv:=hv.be N;replace a:=aC a N;go_wp2_with fail;refine(af _ _ hv h2).mono ?_;rintro e3 w3 ⟨v3,u3,Q,R,rfl,h3,i3,L,M,ac,aj,ak,ad⟩;replace a:=aC a ad;have d:=HQ.out Q R L;have T:=fun W u h=>z Q W u h M (by omega) d.2;rw[d.1] at T;clear d z M ac L;go_wp2_with fail;refine(T _ _ h3).mono ?_;rintro e4 w4 ⟨v4,rfl,h4,ae⟩;go_wp2;go_ret;exact⟨_,rfl,h4,aC a ae⟩
def eI(f b:Bool):Int:=if f=true then (if b=true then -1 else 1) else 0
def MH(A:List Rat)(i:Int)(x:Rat): -1<=cyE A i x∧cyE A i x<=1:=by
 unfold cyE;split
 ·exact qU _
 ·split
  ·have:=qU (cf A (A.length-1)).num;omega
  ·exact qU _
def E7(c:List (List Rat))(B:Nat)(f bl:Bool)(x:Rat)(v u:Value)(w:World)(hv:QQs w B 45 v c)(hx:REnd w u f x)(ba:c.length<=1024)(K:Nat)(F:∀A∈c,A≠[]∧A.length<=8∧∀q∈A,RL K q)(kx:RL K x)(h1:1<=K)(az:K<=1100000000):
  Calls prog 104 #[v,u,.bool bl] w (eO w (aY 0 (c.map (fun A=>cyE A (eI f bl) x)):Nat)):=by
 obtain⟨s1,N,k1,Q,s2,O,k2,R,rfl,hx⟩:=hx;obtain⟨A0,c0,rfl,a3⟩:=hv.form;unfold eO;obtain⟨V,Y⟩:∃V,aY 0 (c.map (fun A=>cyE A (eI f bl) x))=V:=⟨_,rfl⟩;rw[Y];have HV:Hid (0+aY 0 ((c.drop 0).map (fun A=>cyE A (eI f bl) x))=V):=by unfold Hid;rw[azZ,bA];exact Y
 clear Y
 have af:=fun p W u h T (G:p∈c)=>CD p x u (.agg #[.bool s1,.slice N k1 Q,.bool s2,.slice O k2 R]) W h T K (F p G).2.2 kx (by have:=(F p G).2.1;omega) (by
  have:=dK (2*K+1) (F p G).2.1;omega)
 have ap:=fun p (G:p∈c)=>CJ (F p G).2.2 kx;unfold eS at af;obtain⟨W,eW,e,X⟩:=bI w [.bool f,.bool s1,.slice N k1 Q,.bool s2,.slice O k2 R] 100;have cM:=X.g5;go_enter func104,ntmps104;go_wp2_with fail;(try rw[eW]);clear eW;go_loopg [7,8,9] c.length (fun k vb vc vi wr=>∃(j C:Nat) (b:Int),Hid (j+k=c.length)∧vc= .int .i64 C∧vb= .int .i64 b∧vi= .int .i64 j∧C<=j∧ -1<=b∧b<=1∧Hid (C+aY b ((c.drop j).map (fun A=>cyE A (eI f bl) x))=V)∧Bx wr w.1.size [.bool f,.bool s1,.slice N k1 Q,.bool s2,.slice O k2 R] 100∧Below w.1.size w wr)
 case atStart=>exact⟨0,0,0,by unfold Hid;omega,rfl,rfl,rfl,aE,by decide,by decide,HV,X,e⟩
 case round=>
  clear HV X e;obtain⟨j,C,b,n,rfl,rfl,rfl,hC,am,an,P,X,e⟩:=hrel;generalize wr=M at *;have a5:(0:Int)<=(j:Int):=by omega
  cases gk with
  |zero=>
   have hj:j=c.length:=n.out;have HC:Hid (C=V):=by
    have:=P.out;rw[hj,azY] at this;exact this
   subst hj;go_wp2;go_ret;exact⟨by rw[HC.out];rfl,e⟩
  |succ k=>
   have aq:j<c.length:=by have:=n.out;omega
   have a6:(j:Int)<(c.length:Int):=by omega
   obtain⟨a,t⟩:∃a,c[j]? =some a:=⟨_,aR aq⟩;have s:=dG t;obtain⟨bb,u,rfl,ah,hu,E⟩:=(QQs.be hv e).at_ t;obtain⟨Au,cu,rfl,a4⟩:=E.form;have aj:aY b ((c.drop j).map (fun A=>cyE A (eI f bl) x))=if cyE a (eI f bl) x=0 then aY b ((c.drop (j+1)).map (fun A=>cyE A (eI f bl) x)) else (if b≠0∧cyE a (eI f bl) x≠b then 1 else 0)+aY (cyE a (eI f bl) x) ((c.drop (j+1)).map (fun A=>cyE A (eI f bl) x)):=KD (fun A=>cyE A (eI f bl) x) t b;have m:=MH a (eI f bl) x;have d:=P.out;rw[aj] at d;obtain⟨Z,ak,ac⟩:=F a s;have cX:=X.k5;have a1:=e.size;clear aj P;obtain⟨S,U⟩:∃S,cyE a (eI f bl) x=S:=⟨_,rfl⟩;rw[U] at d m;have z:=aB U;replace d:=aB d;clear U;go_upto_if 18 with fail;go_cut [10] (fun ay wx=>ay= .int .i64 S∧Below M.1.size M wx)
   case first=>
    have ai:=List.length_pos_iff.2 Z;obtain⟨l,ae⟩:∃l,a.length-1=l:=⟨_,rfl⟩;have a9:(a.length:Int)-1=(l:Int):=by omega
    have av:l<a.length:=by omega
    have a7:(0:Int)<=(l:Int):=by omega
    have a8:(l:Int)<(a.length:Int):=by omega
    have bg:IntKind.i64.wrap (l:Int)=(l:Int):=IntWalk.i64_in _ ⟨by omega,by omega⟩;cases f with
    |true=>
     obtain⟨b2,s3,A3,k3,c3,s4,A4,k4,c4,rfl,a2,g0,hi⟩:=E.cell av;have aw:=(lV ac (iG h1) l).1;have H:=fun W v h=>oC (cf a l) v W h (by omega);have i:Hid ((if eI true bl<0∧a.length%2=0 then -(cf a l).num.sign else (cf a l).num.sign)=S):=by
      unfold Hid;rw[<-z.out];unfold cyE;have he:eI true bl≠0:=by cases bl<;>decide
      rw[if_neg he,ae]
     have a0:=qU (cf a l).num;unfold eO at H;clear ae ai aw z E Z ac s t;generalize (cf a l).num.sign=L at *;have bf:IntKind.i64.wrap (-L)= -L:=IntWalk.i64_in _ ⟨by omega,by omega⟩;go_wp2_with fail
     go_region_with (first
      |(go_at_call 34;refine(H _ _ hi.up).mono ?_;rintro e5 w5 ⟨rfl,ad⟩;have:=St.mk ad))
     all_goals (
      have o:=Up.out (a:=M) (b:=w5);have bc:=(o.cell (p:=⟨bb,j,none⟩) ah).trans hu;cases bl with
      |false=>
       rw[show eI true false=1 from rfl,if_neg (fun h=>absurd h.1 (by decide))] at i;go_wp2;go_meet;exact⟨by rw[i.out],o⟩
      |true=>
       by_cases J:a.length%2=0
       ·have r0:(a.length:Int).tmod 2=0:=by rw[bz3 (by omega)];omega
        rw[show eI true true= -1 from rfl,if_pos ⟨by decide,J⟩] at i;clear J;go_wp2;go_meet;exact⟨by rw[i.out],o⟩
       ·have r0:(a.length:Int).tmod 2=1:=by rw[bz3 (by omega)];omega
        rw[if_neg (fun h=>J h.2)] at i;clear J;go_wp2;go_meet;exact⟨by rw[i.out],o⟩)
    |false=>
     have ar:=(ap a s).1;have al:=fun W u h T=>af a W u h T s;have au:=dK (2*K+1) ak;have H:=fun W v h=>oC (aI a x) v W h (by omega);have i:Hid ((aI a x).num.sign=S):=by
      unfold Hid;rw[<-z.out];rfl
     unfold eO at H;have ax:=hx.be e;clear au ar ae ai z Z ac s t;generalize aI a x=y at *;go_wp2_with fail
     go_region_with (first
      |(go_at_call 47;refine(al _ _ E.up ax.up).mono ?_;rintro e4 w4 ⟨v4,rfl,h4,ao⟩;have:=St.mk ao)
      |(go_at_call 34;refine(H _ _ h4.up).mono ?_;rintro e5 w5 ⟨rfl,ad⟩;have:=St.mk ad))
     all_goals (
      have o:=Up.out (a:=M) (b:=w5);go_wp2;go_meet;exact⟨by rw[i.out],o⟩)
   case rest=>
    obtain⟨rfl,ag⟩:=hcut;generalize wc=wz at *;replace X:=X.be ag;replace e:=aC e ag;clear cX hu E ah s t z;have g:=d.out;clear d;by_cases r:S=0
    ·subst r;rw[if_pos rfl] at g;have d:=aB g;clear g;go_wp2;go_roundg k
     case rel=>exact⟨j+1,C,b,by have:=n.out;unfold Hid;omega,rfl,rfl,by go_num,by omega,am,an,d.out,X,e⟩
     case measure=>omega
    ·rw[if_neg r] at g;have q0:(S != 0)=true:=by simpa using r
     by_cases D:b=0
     ·subst D;rw[if_neg (fun h=>h.1 rfl),bA] at g;have d:=aB g;clear g r;go_wp2;go_roundg k
      case rel=>exact⟨j+1,C,S,by have:=n.out;unfold Hid;omega,rfl,rfl,by go_num,by omega,m.1,m.2,d.out,X,e⟩
      case measure=>omega
     ·have q1:(b != 0)=true:=by simpa using D
      by_cases I:S=b
      ·subst I;rw[if_neg (fun h=>h.2 rfl),bA] at g;have d:=aB g;clear g r D;go_wp2;go_roundg k
       case rel=>exact⟨j+1,C,S,by have:=n.out;unfold Hid;omega,rfl,rfl,by go_num,by omega,m.1,m.2,d.out,X,e⟩
       case measure=>omega
      ·rw[if_pos ⟨D,I⟩] at g;have d:=aB g;have q2:(S != b)=true:=by simpa using I
       clear g r D I;go_wp2;go_roundg k
       case rel=>exact⟨j+1,C+1,S,by have:=n.out;unfold Hid;omega,by go_num,rfl,by go_num,by omega,m.1,m.2,by have:=d.out;unfold Hid;omega,X,e⟩
       case measure=>omega
def E5{n:Int}(h:nl n.natAbs<=K)(a:1<=K):RL K (n:Rat):=⟨by rw[Rat.num_intCast];exact h,by rw[Rat.den_intCast];exact aH (cJ (m:=1) (by unfold BN;decide)) a⟩
def bqK{w:List Int}(o:Cn 110079 w s c)(p:Sz s):∃(a b:List Int) (k l:Rat) (C:List (List Rat)),ChT 110079 a k b l C∧aT k a=cE s∧aT l b=fW (cE s)∧(∀X∈cE s :: C,X≠[]∧X.length<=7∧∀q∈X,RL 250000000 q)∧C.length<=7∧∀i x j y,xT (cE s :: C) i x j y=fF s c i x j y:=by
 obtain⟨C,t,v⟩:=o.rat (by decide);have h:=p.nums;have J:=p.1;have r:=pL h (by omega);have F:=gU r;have u:RL 150 (1/((cf s (s.length-1):Int):Rat)):=by
  have:=pM (n:=1) (d:=cf s (s.length-1)) (K:=150) (aH (cJ (m:=1) (by unfold BN;decide)) (by decide)) (iU h _) (by decide);rwa [bxS] at this
 have E:RL 151 ((bC (bB s):Int):Rat):=E5 (by rw[dD];exact az4 r) (by decide);have G:(aS (bB s)).length<=6:=by rw[dF,lZ];omega
 have D:=t.sizes (by decide) 300000 (bU u (by decide)) (bU (o6 u E) (by decide)) (fun n hn=>aH (F n hn) (by decide));have H:(cE s).length=s.length:=cH _;have L:=dK 110079 G;refine⟨_,_,_,_,C,t,(pN s).symm,by rw[pN,CN],fun X f=> ?_,by have:=t.len;omega,fun i x j y=>Cn.count (B:=0) (w:=w) v i x j y⟩;rcases List.mem_cons.1 f with rfl|f
 ·exact⟨fun e=>o.sq.ne (bX (by rw[<-H,e];rfl)),by omega,fun q g=>bU (CU h (by decide) q g) (by decide)⟩
 ·obtain⟨I,z,A⟩:=D X f;exact⟨z,by omega,fun q g=>bU (A q g) (by omega)⟩
def cxF(A:List Rat)(w0 s:List Int)(c:List (List Int))(f g:Bool)(x y:Rat)(v u1 u2:Value)(w:World)(hv:QsAt w v A)(T:Cn 110079 w0 s c)(hz:Sz s)(ac:∀W,QsAt W v A->Calls prog 63 #[v] W (lT W (cE s)))(q:REnd w u1 f x)(r:REnd w u2 g y)(kx:RL 250000000 x)(ky:RL 250000000 y):
  Calls prog 48 #[v,u1,u2] w (eO w (fF s c (eI f true) x (eI g false) y)):=by
 obtain⟨A0,c0,rfl,ai⟩:=hv.form;have m:=fun W h=>ac W h;obtain⟨a,b,fa,fb,C,U,P,Q,e,aj,V⟩:=bqK T hz;have n:=fun W v h=>E9 (cE s) U P Q v W h 250000000 (fun X i=>(e X i).2.2) (by decide) (e _ iC).2.1 aE;have Z:=V (eI f true) x (eI g false) y;have o:=fun (p bl:Bool) (z:Rat) (kz:RL 250000000 z) B W v u h h'=>E7 (cE s :: C) B p bl z v u W h h' (by rw[eG];omega) 250000000 (fun X i=>⟨(e X i).1,by have:=(e X i).2.1;omega,(e X i).2.2⟩) kz (by decide) (by decide);have v1:=o f true x kx;have v2:=o g false y ky;have b1:=qR ((cE s :: C).map (fun A=>cyE A (eI f true) x)) 0;have b2:=qR ((cE s :: C).map (fun A=>cyE A (eI g false) y)) 0;rw[cH,eG] at b1 b2;rw[<-Z];unfold xT;unfold eO at v1 v2;unfold lT at m;unfold vC at n;unfold eO;obtain⟨s1,D,k1,J,s2,E,k2,K,rfl,q⟩:=q;obtain⟨s3,F,k3,M,s4,G,k4,N,rfl,r⟩:=r;clear o Z V e U P Q T hz ac kx ky;generalize aY 0 ((cE s :: C).map (fun A=>cyE A (eI f true) x))=H at *;generalize aY 0 ((cE s :: C).map (fun A=>cyE A (eI g false) y))=I at *;generalize cE s :: C=L at *;generalize cE s=S at *;have hw:IntKind.i64.wrap ((H:Int)-(I:Int))=(H:Int)-(I:Int):=IntWalk.i64_in _ ⟨by omega,by omega⟩;obtain⟨W,O,d,X,Y⟩:=eL w [.bool f,.bool s1,.slice D k1 J,.bool s2,.slice E k2 K] 100 [.bool g,.bool s3,.slice F k3 M,.bool s4,.slice G k4 N] 100;have cM:=aa X.g5 Y.g5;go_enter func48,ntmps48;go_wp2_with fail;(try rw[O]);clear O;refine(m _ (hv.be d)).mono ?_;rintro e1 w1 ⟨ak,rfl,R,k⟩;replace X:=X.be k;replace Y:=Y.be k;replace d:=aC d k;have cX:=X.k5;have cY:=Y.k5;go_wp2_with fail;refine(n _ _ R).mono ?_;rintro e2 w2 ⟨al,rfl,j,l⟩;replace X:=X.be l;replace Y:=Y.be l;replace d:=aC d l;obtain⟨AL,cL,rfl, -⟩:=j.form;replace cX:=X.k5;replace cY:=Y.k5;have ae:REnd w2 (.agg #[.bool f,.bool s1,.slice D k1 J,.bool s2,.slice E k2 K]) f x:=⟨_,_,_,_,_,_,_,_,rfl,q.be d⟩;have af:REnd w2 (.agg #[.bool g,.bool s3,.slice F k3 M,.bool s4,.slice G k4 N]) g y:=⟨_,_,_,_,_,_,_,_,rfl,r.be d⟩;clear m n R;go_wp2_with fail
 go_region_with (first
  |(go_at_call 104;(first|(with_reducible refine(v1 _ _ _ _ (QQs.up j) ae.up).mono ?_)|(with_reducible refine(v2 _ _ _ _ (QQs.up j) af.up).mono ?_));rintro e5 t ⟨rfl,ad⟩;have:=St.mk ad;have ag:=(X.up (b:=t)).k5;have ah:=(Y.up (b:=t)).k5))
 all_goals (
  go_wp2;go_ret;exact⟨rfl,bJ (b:=t) d⟩)
def MG(A:List Rat)(b s:List Int)(c:List (List Int))(f g:Bool)(x y:Rat)(v u1 u2:Value)(w:World)(hv:QsAt w v A)(m:Prp A b)(a:CnZ b s c)(j:∀q∈A,RL 1 q)(d:A.length<=7)(e:REnd w u1 f x)(i:REnd w u2 g y)(k:RL 250000000 x)(l:RL 250000000 y):
  Calls prog 48 #[v,u1,u2] w (eO w (fF s c (eI f true) x (eI g false) y)):=
 cxF A b s c f g x y v u1 u2 w hv a.1 a.2.2.1 (fun W h=>E8 A b s v W h m a.2.1 j d a.2.2.2.2) e i k l
def yA(w:World)(a:List (List UInt8))(e:Ending)(w':World):Prop:=∃v,e= .returned (.tuple #[v,.int .i64 (dM a)])∧QsAt w' v (oP a)∧Below w.1.size w w'
def L5(a:List (List UInt8))(v:Value)(w:World)(hv:StrsAt w v a)(e:a.length<=7)(g:∀l∈a,l.length<=6):Calls prog 23 #[v] w (yA w a):=by
 obtain⟨A,c,rfl,t⟩:=hv.form;have m:∀q∈aU a,RL 1 q:=pI (fun l e=>aH (g l e) (by decide));have f:=fun W h=>VQ a (.slice A a.length c) W h (by omega) (fun l e=>aH (g l e) (by decide)) (fun q s=>bU (m q s) (by decide));have r:=DC a;unfold qP at f;unfold yA;clear m g;generalize dM a=E at *;generalize oP a=Q at *;generalize vl a=V at *;rcases r with ⟨rfl,rfl,p, -⟩|⟨rfl,rfl,rfl⟩|⟨rfl,rfl,rfl⟩
 ·have u:((Q.length:Int)==0)=false:=by rw[beq_eq_false_iff_ne];omega
  clear p;go_enter func23,ntmps23;go_wp2_with fail;refine(f _ hv).mono ?_;rintro k o ⟨n,rfl,b,d⟩;obtain⟨i,j,rfl, -⟩:=b.form;go_wp2;go_ret2;exact⟨_,rfl,b,d⟩
 ·skip;go_enter func23,ntmps23;go_wp2_with fail;refine(f _ hv).mono ?_;rintro k o ⟨n,rfl,b,d⟩;obtain⟨i,j,rfl, -⟩:=b.form;go_wp2;go_ret2;exact⟨_,rfl,QsAt.nil _,d⟩
 ·skip;go_enter func23,ntmps23;go_wp2_with fail;refine(f _ hv).mono ?_;rintro k o ⟨n,rfl,b,d⟩;obtain⟨i,j,rfl, -⟩:=b.form;go_wp2;go_ret2;exact⟨_,rfl,QsAt.nil _,d⟩
def L4(h:∀q∈A,RL K q)(a:1<=K):RL (4*K+1) (jF A):=by
 unfold jF;exact bU (wW (K:=K+K) (KN h (lV h (iG a) _) a _) (bU rY (by omega))) (by omega)
def ZP(x y:Rat):0<(x-y).num.sign↔y<x:=by
 rcases iY (x-y) with h|h|h
 ·rw[(fS _).2 h];exact⟨fun k=>absurd k (by decide),fun k=>by grind⟩
 ·rw[h];exact⟨fun k=>absurd k (by decide),fun k=>by grind⟩
 ·rw[(fS _).1 h];exact⟨fun _=>by grind,fun _=>by decide⟩
def ZQ(p:List Rat)(v:Value)(w:World)(hv:QsAt w v p)(ac:cf p (p.length-1)≠0)(K:Nat)(Z:∀q∈p,RL K q)(hl:p.length<=1024)(h1:1<=K)(a1:4*K+1<=549755813888):
  Calls prog 59 #[v] w (eS w (jF p)):=by
 obtain⟨A,c,rfl,hc⟩:=hv.form;have ba:1<=p.length:=by
  rcases iB p.length with h|h
  ·exact absurd (by rw[bX h];rfl) ac
  ·exact h
 obtain⟨m,hm⟩:∃m,p.length-1=m:=⟨_,rfl⟩;have aw:m<p.length:=by omega
 have a9:(p.length:Int)-1=(m:Int):=by omega
 have bb:IntKind.i64.wrap (m:Int)=(m:Int):=IntWalk.i64_in _ ⟨by omega,by omega⟩;have a7:(0:Int)<=(m:Int):=by omega
 have a8:(m:Int)<(p.length:Int):=by omega
 unfold jF;rw[hm] at ac⊢;have kl:RL K (cf p m):=lV Z (iG h1) m;have kb:=fun j=>KN Z kl h1 j;have ak:∀W,Calls prog 58 #[.int .i64 1] W (eS W 1):=fun W=>r7 1 W (by decide);have ag:=fun W u v h L=>sK (lF (cf p m) (p.take m)) 1 u v W h L (K+K) (kb m) (bU rY (by omega)) (by omega);unfold eS at ak ag;unfold eS;generalize lF (cf p m) (p.take m)+1=y at *;obtain⟨W,eW,e,R,G⟩:=eL w [.bool false,.slice none 0 0,.bool false,.slice none 0 0] 42 [.bool false,.slice none 0 0,.bool false,.slice none 0 0] 42;have cM:=aa R.g4 G.g4;go_enter func59,ntmps59;go_wp2_with fail;(try rw[eW]);clear eW;obtain⟨W1,an,G,e,o,g⟩:=G.mut4 e (by omega) (.bool false) (.slice none 0 0) (.bool false) (.slice none 0 0) rfl rfl;replace R:=g R (by omega);rw[an];clear an;replace cM:=aa R.g4 G.g4;have HK:=aB Z;have aq:=aB ac;clear Z ac hm;go_loopg [4] m (fun k i wr=>∃j:Nat,Hid (j+k=m)∧i= .int .i64 j∧Bx wr w.1.size [.bool false,.slice none 0 0,.bool false,.slice none 0 0] 42∧QVar wr (w.1.size+1) (lF (cf p m) (p.take j))∧Below w.1.size w wr)
 case atStart=>exact⟨0,by unfold Hid;omega,rfl,R,⟨_,_,_,_,_,_,_,_,G,NQ.zero _⟩,e⟩
 case round=>
  clear R G e;obtain⟨j,Y,rfl,R,⟨s3,A3,k3,c3,s4,A4,k4,c4,G,f⟩,e⟩:=hrel;generalize wr=z at *;have a3:(0:Int)<=(j:Int):=by omega
  have cG:=G.g4;cases gk with
  |zero=>
   have hj:j=m:=Y.out;subst hj;go_wp2_with fail
   go_region_with (first
    |(go_at_call 58;refine(ak _).mono ?_;rintro e7 w7 ⟨v7,rfl,t,ah⟩;obtain⟨s7,A7,k7,c7,s8,A8,k8,c8,rfl⟩:=t.form;have:=St.mk ah;have az:=(G.up (b:=w7)).g4)
    |(go_at_call 103;refine(ag _ _ _ f.up t.up).mono ?_;rintro e9 w9 ⟨v9,rfl,h9,ar⟩;obtain⟨X,C,U,H,V,B,T,E,rfl⟩:=h9.form;have:=St.mk ar;have R9:=R.up (b:=w9);have a0:=R9.g4))
   all_goals (
    go_wp2_with fail;obtain⟨W6,s,R6,O,o,g⟩:=R9.mut4 (bJ (b:=w9) e) aE (.bool X) (.slice C U H) (.bool V) (.slice B T E) rfl rfl;rw[s];exact aM (v:= .agg #[.bool X,.slice C U H,.bool V,.slice B T E]) (by simp[results,results59,go_sem,R6.k4]) rfl ⟨_,rfl,h9.ke o,O⟩)
  |succ k=>
   have a6:j<m:=by have:=Y.out;omega
   have a4:(j:Int)<(m:Int):=by omega
   have a5:(j:Int)<(p.length:Int):=by omega
   obtain⟨q,hq⟩:∃q,p[j]? =some q:=⟨_,aR (by omega)⟩;have kq:=HK.out q (dG hq);have ao:=KI (d:=cf p m) hq;obtain⟨b,s5,A5,k5,c5,s6,A6,k6,c6,hA,au,g0,hi⟩:=(hv.be e).at_ hq;obtain⟨b2,t5,B5,l5,d5,t6,B6,l6,d6,M,av,i0,ap⟩:=(hv.be e).cell aw;subst hA;injection M with M;injection M with M;subst M;have kD:=xS kq kl;have kA:=KL kD;have ai:=fun W u v h L=>vD q (cf p m) u v W h L K kq kl (by omega) aq.out;have al:=fun W v h=>oC (q/cf p m) v W h (by have:=kD.1;omega);have aj:=fun W v h=>yW (q/cf p m) v W h (by have:=kD.1;omega);have ad:=fun W u v h L=>yS (iH (q/cf p m)) (lF (cf p m) (p.take j)) u v W h L (K+K) kA (kb j) (by omega);have af:=ZP (iH (q/cf p m)) (lF (cf p m) (p.take j));have N:iH (q/cf p m)=if (q/cf p m).num.sign<0 then -(q/cf p m) else q/cf p m:=rfl;have ae:=aB ao;unfold eS at ai aj;unfold eO at al ad;clear ao hq kD kA kq ak ag;generalize (iH (q/cf p m)-lF (cf p m) (p.take j)).num.sign=P at *;generalize iH (q/cf p m)=D' at *;generalize q/cf p m=D at *;generalize lF (cf p m) (p.take j)=gr at *;generalize cf p m=cl at *;have bc:=e.size;go_wp2_with fail;go_cut [5] (fun ax r=>∃J,ax= .pointer (some ⟨J,0,none⟩)∧z.1.size<=J∧QVar r J D∧Below z.1.size z r)
   case first=>
    go_region_held3 (fun w'=>R4 w' b (j*4) (.bool s5) (.slice A5 k5 c5) (.bool s6) (.slice A6 k6 c6)∧R4 w' b (m*4) (.bool t5) (.slice B5 l5 d5) (.bool t6) (.slice B6 l6 d6))
     (with_reducible exact⟨g0.up au,i0.up av⟩)
     (first|(go_at_call 119;refine(ai _ _ _ hi.up ap.up).mono ?_;rintro e7 w7 ⟨v7,rfl,t,ah⟩;obtain⟨s7,A7,k7,c7,s8,A8,k8,c8,rfl⟩:=t.form;have:=St.mk ah;have TT:=Up.out (a:=z) (b:=w7);have ll:=TT.size;(try (have D7:=(Bx.newAt z zR 42 z.1.size rfl).up (b:=w7);have ay:=D7.g4))))
    all_goals (
     go_wp2;go_meet;refine⟨_,rfl,by omega,?_⟩
     first|(with_reducible exact KZ t TT)|(with_reducible exact L0 D7 t TT (by omega)))
   case rest=>
    clear ai g0 i0 hi ap cG;obtain⟨J,rfl,a2,F,Q⟩:=hcut;generalize wc=wz at *;have gl:=G.lt;replace R:=R.be Q;replace G:=G.be Q;replace f:=f.be Q;replace e:=aC e Q;clear Q;obtain⟨X,C,U,H,V,B,T,E,F,hF⟩:=F;have I:=F.k4;go_wp2_with fail;refine(al _ _ hF).mono ?_;rintro e2 w2 ⟨rfl,l⟩;replace F:=F.be l;replace hF:=hF.be l;replace R:=R.be l;replace G:=G.be l;replace f:=f.be l;replace e:=aC e l;clear l;clear al;generalize D.num.sign=S at *;replace I:=F.g4;go_upto_if 27 with fail;go_cut [] (fun r=>Bx r w.1.size [.bool false,.slice none 0 0,.bool false,.slice none 0 0] 42∧QVar r (w.1.size+1) gr∧QVar r J D'∧Below w.1.size w r)
    case first=>
     clear ad af ae;by_cases hS:S<0
     ·rw[if_pos hS] at N;subst N;go_wp2_with fail;refine(aj _ _ hF).mono ?_;rintro e4 w4 ⟨v4,rfl,h4,x⟩;obtain⟨s7,A7,k7,c7,s8,A8,k8,c8,rfl⟩:=h4.form;replace F:=F.be x;replace R:=R.be x;replace G:=G.be x;replace f:=f.be x;replace e:=aC e x;clear x;replace I:=F.g4;go_wp2;go_meet;obtain⟨W6,s,F6,O,o,g⟩:=F.mut4 e (by omega) (.bool s7) (.slice A7 k7 c7) (.bool s8) (.slice A8 k8 c8) rfl rfl;rw[s];exact⟨g R (by omega),⟨_,_,_,_,_,_,_,_,g G (by omega),f.ke o⟩,⟨_,_,_,_,_,_,_,_,F6,h4.ke o⟩,O⟩
     ·rw[if_neg hS] at N;subst N;go_wp2;go_meet;exact⟨R,⟨_,_,_,_,_,_,_,_,G,f⟩,⟨_,_,_,_,_,_,_,_,F,hF⟩,e⟩
    case rest=>
     clear F hF R G f e I aj N;obtain⟨R,⟨s3,A3,k3,c3,s4,A4,k4,c4,G,f⟩,⟨X,C,U,H,V,B,T,E,F,hF⟩,e⟩:=hcut;generalize wc=wa at *;have I:=aa F.g4 G.g4;go_wp2_with fail;refine(ad _ _ _ hF f).mono ?_;rintro e5 w5 ⟨rfl,n⟩;replace F:=F.be n;replace hF:=hF.be n;replace R:=R.be n;replace G:=G.be n;replace f:=f.be n;replace e:=aC e n;clear n;replace I:=aa F.g4 G.g4;have am:=aB af;clear ad af;by_cases hP:0<P
     ·go_wp2_with fail;obtain⟨W6,s,G6,O,o,g⟩:=G.mut4 e (by omega) (.bool X) (.slice C U H) (.bool V) (.slice B T E) rfl rfl;rw[s];clear s;go_roundg k
      case rel=>exact⟨j+1,by have:=Y.out;unfold Hid;omega,by go_num,g R (by omega),⟨_,_,_,_,_,_,_,_,G6,by rw[ae.out,if_pos (am.out.1 hP)];exact hF.ke o⟩,O⟩
      case measure=>omega
     ·go_wp2;go_roundg k
      case rel=>exact⟨j+1,by have:=Y.out;unfold Hid;omega,by go_num,R,⟨_,_,_,_,_,_,_,_,G,by rw[ae.out,if_neg (fun h=>by have:=am.out.2 h;omega)];exact f⟩,e⟩
      case measure=>omega
def MD(x y:Rat)(v u:Value)(w:World)(B:NQ w v x)(C:NQ w u y)(K:Nat)(a:RL K x)(f:RL K y)(hK:K<=1073741824):Calls prog 80 #[v,u] w (eS w ((x+y)/2)):=by
 obtain⟨s1,I,k1,O,s2,J,k2,P,rfl⟩:=B.form;obtain⟨s3,L,k3,Q,s4,M,k4,S,rfl⟩:=C.form;have h1:=xR a;have s:=fun W u v h c=>sK x y u v W h c K a f (by omega);have A:∀W,Calls prog 58 #[.int .i64 2] W (eS W 2):=fun W=>r7 2 W (by decide);have t:=fun W u v h c=>vD (x+y) 2 u v W h c (2*K+2) (bU (wW a f) (by omega)) (bU (show RL 1 (2:Rat) from az3 (n:=2) (by decide)) (by omega)) (by omega) (by decide);unfold eS at s A t;unfold eS;clear a f;generalize (x+y)/2=m at *;generalize x+y=z at *;obtain⟨W,q,d,X,Y,R⟩:=gE w [.bool s1,.slice I k1 O,.bool s2,.slice J k2 P] 42 [.bool s3,.slice L k3 Q,.bool s4,.slice M k4 S] 42 [.bool false,.slice none 0 0,.bool false,.slice none 0 0] 42;have cM:=aa X.g4 (aa Y.g4 R.g4);go_enter func80,ntmps80;go_wp2_with fail;(try rw[q]);clear q;refine(s _ _ _ (B.be d) (C.be d)).mono ?_;rintro e5 w5 ⟨v5,rfl,T,V⟩;have:=St.mk V;go_wp2_with fail;refine(A _).mono ?_;rintro p w6 ⟨v6,rfl,U,e⟩;have:=St.mk e;go_wp2_with fail;refine(t _ _ _ T.up U).mono ?_;rintro e7 H ⟨v7,rfl,r,Z⟩;obtain⟨F,g,D,k,G,i,E,o,rfl⟩:=r.form;have:=St.mk Z;have j:=R.up (b:=H);have cR:=j.g4;go_wp2_with fail;obtain⟨W6,p,N,e,hk,ff⟩:=j.mut4 (bJ (b:=H) d) (by omega) (.bool F) (.slice g D k) (.bool G) (.slice i E o) rfl rfl;rw[p];exact aM (v:= .agg #[.bool F,.slice g D k,.bool G,.slice i E o]) (by simp[results,results80,go_sem,N.k4]) rfl ⟨_,rfl,r.ke hk,e⟩
def IvN(w:World)(v:Value)(x y:Rat):Prop:=∃n a i e o b j f p c k g q d m h,v= .agg #[.bool n,.slice a i e,.bool o,.slice b j f,.bool p,.slice c k g,.bool q,.slice d m h]∧NQ w (.agg #[.bool n,.slice a i e,.bool o,.slice b j f]) x∧NQ w (.agg #[.bool p,.slice c k g,.bool q,.slice d m h]) y
def IvN.of{o p q r:Bool}{a b c d:Option Addr}{j e f m:Nat}(h:NQ w (.agg #[.bool o,.slice a j e,.bool p,.slice b k f]) x)(s:NQ w (.agg #[.bool q,.slice c m g,.bool r,.slice d n i]) y):IvN w (.agg #[.bool o,.slice a j e,.bool p,.slice b k f,.bool q,.slice c m g,.bool r,.slice d n i]) x y:=⟨_,_,_,_,_,_,_,_,_,_,_,_,_,_,_,_,rfl,h,s⟩
def IvN.ke(h:IvN w v x y)(a:KM w w'):IvN w' v x y:=by
 obtain⟨r,d,n,i,s,e,o,j,t,f,p,k,u,g,q,m,rfl,b,c⟩:=h;exact IvN.of (b.ke a) (c.ke a)
def IvN.be(h:IvN w v x y)(a:Below w.1.size w w'):IvN w' v x y:=h.ke (KM.be a)
def IvN.up{a b:World}[u:Up a b](h:IvN a v x y):IvN b v x y:=h.be u.out
def ME(x y:Rat)(v:Value)(w:World)(hv:IvN w v x y)(K:Nat)(T:RL K x)(U:RL K y)(hK:K<=1073741824):
  Calls prog 25 #[v] w fun e w'=>e= .returned (.agg #[.string ⟨(cW x).toArray⟩,.string ⟨(cW y).toArray⟩])∧Below w.1.size w w':=by
 obtain⟨z,f,r,k,A,g,s,m,B,i,t,n,C,j,u,o,rfl,p,q⟩:=hv;have I:=fun W h=>CF x (.agg #[.bool z,.slice f r k,.bool A,.slice g s m]) W h K T (by omega);have J:=fun W h=>CF y (.agg #[.bool B,.slice i t n,.bool C,.slice j u o]) W h K U (by omega);unfold CG at I J;generalize (cW x).toArray=N at *;generalize (cW y).toArray=O at *;obtain⟨W,H,c,X,R⟩:=eL w [.bool z,.slice f r k,.bool A,.slice g s m,.bool B,.slice i t n,.bool C,.slice j u o] 51 [.string ⟨#[]⟩,.string ⟨#[]⟩] 24;have Y:=aa X.g8 R.g2;go_enter func25,ntmps25;go_wp2_with fail;(try rw[H]);clear H;replace p:=p.be c;replace q:=q.be c;have M:w.1.size+1≠w.1.size:=by omega
 go_region_held3 (fun w'=>C8 w' w.1.size (.bool z) (.slice f r k) (.bool A) (.slice g s m) (.bool B) (.slice i t n) (.bool C) (.slice j u o)) (first|(with_reducible exact X.up.k8)|(with_reducible exact((F.far 0 _ M).far 1 _ M).k8))
  (first
   |(go_at_call 44;first|(with_reducible refine(I _ p.up).mono ?_;rintro Z D ⟨rfl,S⟩;have:=St.mk S;have a:=R.up (b:=D);have F:=X.up (b:=D);have Q:=a.g2;have L:=bJ (b:=D) c)|(with_reducible refine(J _ q.up).mono ?_;rintro G E ⟨rfl,d⟩;have:=St.mk d;have a:=R.up (b:=E);have F:=X.up (b:=E);have Q:=a.g2;have L:=bJ (b:=E) c)))
 all_goals (
  go_wp2_with fail;obtain⟨V,G,P,d,hk,ff⟩:=a.mut2 L (by omega) (.string ⟨N⟩) (.string ⟨O⟩) rfl rfl;rw[G];exact aM (v:= .agg #[.string ⟨N⟩,.string ⟨O⟩]) (by simp[results,results25,go_sem,P.k2]) rfl ⟨rfl,by first|exact d|exact d.drew⟩)
def Bx.mut8{b:Nat}{n o p q r s x:Value}(h:Bx W b [n,o,p,q,r,s,u,x] t)(P:Below B w W)(a:B<=b)(d e f g i j k m:Value)(hn:(cS (some n)&&(cS (some o)&&(cS (some p)&&(cS (some q)&&(cS (some r)&&(cS (some s)&&(cS (some u)&&cS (some x))))))))=true):
  ∃c,(((((((W.setCell ⟨b,0,none⟩ d).setCell ⟨b,1,none⟩ e).setCell ⟨b,2,none⟩ f).setCell ⟨b,3,none⟩ g).setCell ⟨b,4,none⟩ i).setCell ⟨b,5,none⟩ j).setCell ⟨b,6,none⟩ k).setCell ⟨b,7,none⟩ m=c∧Bx c b [d,e,f,g,i,j,k,m] t∧Below B w c∧KM W c:=by
 simp only[az7] at hn;obtain⟨Z,rfl,H,y,Q,f1⟩:=h.mut1 P a 0 d hn.1;obtain⟨W2,rfl,I,z,R,f2⟩:=H.mut1 y a 1 e hn.2.1;obtain⟨W3,rfl,J,A,S,f3⟩:=I.mut1 z a 2 f hn.2.2.1;obtain⟨W4,rfl,K,C,T,f4⟩:=J.mut1 A a 3 g hn.2.2.2.1;obtain⟨W5,rfl,L,D,U,f5⟩:=K.mut1 C a 4 i hn.2.2.2.2.1;obtain⟨W6,rfl,M,E,V,f6⟩:=L.mut1 D a 5 j hn.2.2.2.2.2.1;obtain⟨W7,rfl,N,F,X,f7⟩:=M.mut1 E a 6 k hn.2.2.2.2.2.2.1;obtain⟨W8,rfl,O,G,Y,f8⟩:=N.mut1 F a 7 m hn.2.2.2.2.2.2.2;exact⟨_,rfl,O,G,((((((Q.trans R).trans S).trans T).trans U).trans V).trans X).trans Y⟩
def yR(w:World)(a b:List UInt8)(e:Ending)(w':World):Prop:=∃v x y,e= .returned (.tuple #[v,.bool (rd a&&rd b)])∧IvN w' v x y∧(∀r,bD a=some r->x=r)∧(∀r,bD b=some r->y=r)∧Below w.1.size w w'
def MF(a b:List UInt8)(w:World)(Z:a.length<=1073741824)(lb:b.length<=1073741824):Calls prog 35 #[.agg #[.string ⟨a.toArray⟩,.string ⟨b.toArray⟩]] w (yR w a b):=by
 have C:=fun W=>CE a W Z;have D:=fun W=>CE b W lb;unfold JH at C D;unfold yR;generalize rd a=oa at *;generalize rd b=ob at *;obtain⟨W,J,e,X,R⟩:=eL w [.string ⟨a.toArray⟩,.string ⟨b.toArray⟩] 24 [.bool false,.slice none 0 0,.bool false,.slice none 0 0,.bool false,.slice none 0 0,.bool false,.slice none 0 0] 51;have U:=aa X.g2 R.g8;go_enter func35,ntmps35;go_wp2_with fail;(try rw[J]);clear J;refine(C _).mono ?_;rintro e1 w1 ⟨v1,x,rfl,d,S,K⟩;obtain⟨u,g,q,k,z,h,r,m,rfl⟩:=d.form;obtain⟨w2,H,L,P⟩:=bI w1 [.bool u,.slice g q k,.bool z,.slice h r m] 42;have c:=aC K L;replace R:=R.be c;replace X:=X.be c;replace d:=d.be L;replace e:=aC e c;have E:=aB S;have V:=X.k2;clear S C c;go_wp2_with fail;(try rw[H]);(try clear H);refine(D _).mono ?_;rintro e3 w3 ⟨v3,y,rfl,f,T,M⟩;obtain⟨A,i,s,n,B,j,t,o,rfl⟩:=f.form;obtain⟨w4,I,N,Q⟩:=bI w3 [.bool A,.slice i s n,.bool B,.slice j t o] 42;have c:=aC M N;replace R:=R.be c;replace P:=P.be c;replace d:=d.be c;replace f:=f.be N;replace e:=aC e c;have F:=aB T;have U:=aa R.g8 (aa P.k4 Q.k4);clear T D c V X;cases oa
 all_goals (
  go_wp2_with fail;(try rw[I]);(try clear I);obtain⟨W6,Y,G,O,p⟩:=R.mut8 e (Nat.le_succ _) (.bool u) (.slice g q k) (.bool z) (.slice h r m) (.bool A) (.slice i s n) (.bool B) (.slice j t o) rfl;rw[Y])
 ·exact aM (v:= .tuple #[.agg #[.bool u,.slice g q k,.bool z,.slice h r m,.bool A,.slice i s n,.bool B,.slice j t o],.bool false]) (by simp[results,results35,go_sem,G.k8]) rfl ⟨_,x,y,rfl,IvN.of (d.ke p) (f.ke p),E.out,F.out,O⟩
 ·exact aM (v:= .tuple #[.agg #[.bool u,.slice g q k,.bool z,.slice h r m,.bool A,.slice i s n,.bool B,.slice j t o],.bool ob]) (by simp[results,results35,go_sem,G.k8]) rfl ⟨_,x,y,by rw[Bool.true_and],IvN.of (d.ke p) (f.ke p),E.out,F.out,O⟩
def IvRw(w:World)(rows:List (List Value))(l:List (Rat×Rat)):Prop:=rows.length=l.length∧∀(i:Nat) (p:Rat×Rat),l[i]? =some p->∃cs,rows[i]? =some cs∧IvN w (.agg cs.toArray) p.1 p.2
def RowIv(w:World)(base:Nat)(v:Value)(l:List (Rat×Rat)):Prop:=∃rows,GrowD w base 51 8 v rows∧IvRw w rows l
section
variable {w w':World}{base:Nat}{v:Value}{l:List (Rat×Rat)}{rows:List (List Value)}
def IvRw.ke(h:IvRw w rows l)(b:KM w w'):IvRw w' rows l:=⟨h.1,fun i p c=>by
 obtain⟨cs,e,a⟩:=h.2 i p c;exact⟨cs,e,a.ke b⟩⟩
def RowIv.be(h:RowIv w base v l)(a:Below w.1.size w w'):RowIv w' base v l:=by
 obtain⟨rows,b,c⟩:=h;exact⟨rows,b.be a,c.ke (KM.be a)⟩
def RowIv.up{a b:World}[u:Up a b](h:RowIv a base v l):RowIv b base v l:=h.be u.out
def RowIv.lt(h:RowIv w base v l):∀g,v.ownBlock=some g->base<=g∧g<w.1.size:=by
 obtain⟨rows,a,b⟩:=h;exact a.lt
def RowIv.nil(w:World)(base:Nat):RowIv w base (.slice none 0 0) []:=⟨[],GrowD.nil,rfl,fun i p h=>by simp at h⟩
def RowIv.form(h:RowIv w base v l):∃A c,v= .slice A l.length c∧l.length<=c:=by
 obtain⟨rows,a,b⟩:=h;rw[<-b.1];exact a.form
def RowIv.get{A:Option Addr}{c:Nat}(h:RowIv w base (.slice A n c) l)(hi:l[i]? =some p):∃b x d r k y f s m z g t o B j u q,A=some ⟨b,0,none⟩∧b<w.1.size∧
  (w.cell? ⟨b,i*8,none⟩=some (.bool x)∧w.cell? ⟨b,i*8+1,none⟩=some (.slice d r k)∧w.cell? ⟨b,i*8+2,none⟩=some (.bool y)∧w.cell? ⟨b,i*8+3,none⟩=some (.slice f s m)∧w.cell? ⟨b,i*8+4,none⟩=some (.bool z)∧w.cell? ⟨b,i*8+5,none⟩=some (.slice g t o)∧w.cell? ⟨b,i*8+6,none⟩=some (.bool B)∧w.cell? ⟨b,i*8+7,none⟩=some (.slice j u q))∧
  IvN w (.agg #[.bool x,.slice d r k,.bool y,.slice f s m,.bool z,.slice g t o,.bool B,.slice j u q]) p.1 p.2:=by
 obtain⟨rows,F,G⟩:=h;obtain⟨K,e,x,d,r,k,y,f,s,m,z,g,t,o,B,j,u,q,C,I,J⟩:=G.2 i p hi;injection C with C;have D:=congrArg Array.toList C;rw[List.toList_toArray] at D;subst D;obtain⟨b,E, -,H,a⟩:=F.at_ e;exact⟨b,x,d,r,k,y,f,s,m,z,g,t,o,B,j,u,q,E,H,⟨a 0 _ rfl,a 1 _ rfl,a 2 _ rfl,a 3 _ rfl,a 4 _ rfl,a 5 _ rfl,a 6 _ rfl,a 7 _ rfl⟩,IvN.of I J⟩
def GrowD.km(h:GrowD w base e k v rows)(c:w.grownBy w' v.ownBlock):KM w w':=⟨c.size,fun p i x a=>by
 refine(World.cell?_of_block (c.block p.block (block_lt_of_cell a) (fun b=> ?_))).trans a;have hn:=h.2.2 p.block b.symm;rcases h.1.2 with ⟨rfl,_⟩|⟨g,f,cur,rfl,_,d,_⟩
 ·simp[Value.ownBlock] at b
 ·simp[Value.ownBlock] at b;unfold World.cell? at a;rw[b] at hn;rw[b,d] at a;simp only at a;split at a
  ·cases a
  ·rw[<-Array.getElem?_toList] at a;exact hn _ _ _ d _ (dG a) i x rfl⟩
def IvRw.push(h:IvRw w rows l)(c:KM w w')(hi:IvN w (.agg cs.toArray) x y):IvRw w' (rows++[cs]) (l++[(x,y)]):=by
 have f:=h.ke c;refine⟨by rw[bE,bE,h.1];rfl,fun i p a=> ?_⟩;rcases dE i l.length with b|b
 ·rw[gA b] at a;obtain⟨d,e,g⟩:=f.2 i p a;exact⟨d,by rw[gA (by have:=h.1;omega)];exact e,g⟩
 ·have j:=(List.getElem?_eq_some_iff.1 a).1;rw[bE,iJ] at j;obtain rfl:i=l.length:=by omega
  rw[fK aE,azV] at a;have k:(x,y)=p:=by simpa using a
  subst k;exact⟨cs,by rw[fK (by have:=h.1;omega),h.1,azV];rfl,hi.ke c⟩
end
def E3:(Tryz.prog.info? 51).map (fun i=>(i.zero,i.size,i.bytes))=some (some (.agg #[.bool false,.slice none 0 0,.bool false,.slice none 0 0,.bool false,.slice none 0 0,.bool false,.slice none 0 0]),8,128):=by kernel_rfl
def uY(wb w:World)(b:Value)(l:List (Rat×Rat))(e:Ending)(w':World):Prop:=∃a,e= .returned a∧RowIv w' wb.1.size a l∧w.grownBy w' b.ownBlock∧KM w w'∧OwnTo w b a
def pT{d:World}{r:Option Nat}(a:Below w.1.size w w1)(b:w1.grownBy d r):w.grownBy d r:=⟨b.os.trans a.os,b.tape.trans a.tape,b.output.trans a.output,aH a.size b.size,fun k c e=>(b.block k (aZ c a.size) e).trans (a.block k c)⟩
def DZ{g:World}{f:Value}(h:w.grownBy w1 v.ownBlock)(a:w1.grownBy g f.ownBlock)(i:OwnTo w v f):w.grownBy g v.ownBlock:=⟨a.os.trans h.os,a.tape.trans h.tape,a.output.trans h.output,aH h.size a.size,fun k c d=>(a.block k (aZ c h.size) (fun e=>by
 rcases i k e.symm with b|b
 ·exact d b.symm
 ·omega)).trans (h.block k c d)⟩
def OwnTo.less{a:Value}(h:OwnTo W v a)(b:w.1.size<=W.1.size):OwnTo w v a:=fun g e=>(h g e).imp id (fun h=>aH b h)
def r5{b:Value}(c:OwnTo W v b)(h:v.ownBlock≠some g)(d:g<W.1.size):b.ownBlock≠some g:=fun e=>by
 rcases c g e with a|a
 ·exact h a
 ·omega
def E0{a:Value}(b:Below w.1.size w W)(h:a.ownBlock=v.ownBlock∨a.ownBlock=some W.1.size):OwnTo w v a:=fun g e=>by
 rcases h with h|h
 ·exact .inl (by rw[<-h];exact e)
 ·rw[h] at e;injection e with e;exact .inr (by have:=b.size;omega)
def uZ(wb:World)(vp vl:Value)(a b:Rat)(l:List (Rat×Rat)):Prop:=∀(c:List (Rat×Rat)) (d e f:Value) (w:World),Below wb.1.size wb w->RowIv w wb.1.size d c->NQ w e a->NQ w f b->c.length+l.length<=1048576->
  Calls prog 61 #[vp,vl,e,f,d] w (uY wb w d (c++l))
section
variable {V:Rat->Nat}{sg:Rat->Int}{er:Rat->Rat}{K:Nat}{wb:World}{vp vl:Value}(hV:∀x,V x<=1024)(hK2:K<=1000000000)
 (hva:∀(x:Rat) (bl:Bool) (W:World) (u:Value),Below wb.1.size wb W->REnd W u false x->RL K x->Calls prog 104 #[vl,u,.bool bl] W (eO W (V x:Nat)))
 (hat:∀(x:Rat) (W:World) (u:Value),Below wb.1.size wb W->NQ W u x->RL K x->Calls prog 47 #[vp,u] W (eS W (er x)))
 (hsg:∀(x:Rat) (W:World) (u:Value),NQ W u (er x)->RL K x->Calls prog 34 #[u] W (eO W (sg x)))
include hV hK2 hva hat hsg
def vA{a b:Rat}(ka:RL K a)(kb:RL K b)(H:V a=V b∧l=[]∨V a=V b+1∧sg b=0∧l=[(b,b)]∨V a=V b+1∧sg b≠0∧sg a≠0∧l=[(a,b)]∨V b<V a∧(V a=V b+1->sg b≠0∧sg a=0)∧∃l1 l2,l=l1++l2∧uZ wb vp vl a ((a+b)/2) l1∧uZ wb vp vl ((a+b)/2) b l2):uZ wb vp vl a b l:=by
 intro bj vr va vb w ai C R E hl;obtain⟨s1,G,U,M,s2,I,k2,O,rfl⟩:=R.form;obtain⟨s,f,q,n,t,i,r,o,rfl⟩:=E.form;have cs:=hV a;have ct:=hV b;have v1:=fun W u h d=>hva a true W u h d ka;have v2:=fun W u h d=>hva b false W u h d kb;have t1:=fun W h=>vB a (.agg #[.bool s1,.slice G U M,.bool s2,.slice I k2 O]) W h;have t2:=fun W h=>vB b (.agg #[.bool s,.slice f q n,.bool t,.slice i r o]) W h;have ak:=fun W u h d=>hat b W u h d kb;have aj:=fun W u h=>hsg b W u h kb;have ad:=fun W u h d=>hat a W u h d ka;have ac:=fun W u h=>hsg a W u h ka;have ae:=fun W u v h d=>MD a b u v W h d K ka kb (by omega);have au:=C.lt;unfold eO at v1 v2 aj ac;unfold eS at ak ad ae;have S:=fun (W':World) (u:Below w.1.size w W')=>aC ai u;clear hva hat hsg hV ka kb;generalize sg a=Sa at *;generalize sg b=Sb at *;generalize er a=cp at *;generalize er b=cq at *;generalize V a=na at *;generalize V b=nb at *;obtain⟨N,hN⟩:∃N:Int,(na:Int)-(nb:Int)=N:=⟨_,rfl⟩;have cu:IntKind.i64.wrap N=N:=IntWalk.i64_in _ ⟨by omega,by omega⟩;have HH:=aB H;clear H;obtain⟨W,eW,D,X,Y⟩:=eL w [.bool s1,.slice G U M,.bool s2,.slice I k2 O] 42 [.bool s,.slice f q n,.bool t,.slice i r o] 42;have cM:=aa X.g4 Y.g4;go_enter func61,ntmps61;go_wp2_with fail;(try rw[eW]);clear eW;go_cut [11] (fun cg wx=>cg= .int .i64 N∧Bx wx w.1.size [.bool s1,.slice G U M,.bool s2,.slice I k2 O] 42∧Bx wx (w.1.size+1) [.bool s,.slice f q n,.bool t,.slice i r o] 42∧Below w.1.size w wx)
 case first=>
  have cd:=R.be D;have ce:=E.be D;have bi:=S _ D;clear ak aj ad ac ae S
  go_region_with (first
   |(go_at_call 49;first|((with_reducible refine(t1 _ cd.up).mono ?_);rintro e5 w5 ⟨v5,rfl,h5,b5⟩;have:=St.mk b5;have j:=X.up (b:=w5);have m:=Y.up (b:=w5);have ap:=j.k4;have az:=m.k4;have p:=bJ (b:=w5) D)|((with_reducible refine(t2 _ ce.up).mono ?_);rintro e6 w6 ⟨v6,rfl,h6,b6⟩;have:=St.mk b6;have j:=X.up (b:=w6);have m:=Y.up (b:=w6);have ap:=j.k4;have az:=m.k4;have p:=bJ (b:=w6) D))
   |(go_at_call 104;first|((with_reducible refine(v1 _ _ (bJ bi) h5.up).mono ?_);rintro e7 w7 ⟨rfl,b7⟩;have:=St.mk b7;have j:=X.up (b:=w7);have m:=Y.up (b:=w7);have ap:=j.k4;have az:=m.k4;have p:=bJ (b:=w7) D)|((with_reducible refine(v2 _ _ (bJ bi) h6.up).mono ?_);rintro e8 w8 ⟨rfl,b8⟩;have:=St.mk b8;have j:=X.up (b:=w8);have m:=Y.up (b:=w8);have ap:=j.k4;have az:=m.k4;have p:=bJ (b:=w8) D)))
  all_goals (
   go_wp2;go_meet;exact⟨rfl,j,m,p⟩)
 case rest=>
  clear X Y D cM v1 v2 t1 t2;obtain⟨rfl,j,m,p⟩:=hcut;generalize wc=w5 at *;have ap:=aa j.k4 m.k4;have H:=HH.out;clear HH;rcases H with ⟨hv,rfl⟩|H
  ·obtain rfl:N=0:=by omega
   clear ak aj ad ac ae;go_wp2;go_ret;exact⟨_,rfl,by rw[fH];exact C.be p,pT p (World.grownBy.refl _ _),KM.be p,fun g e=> .inl e⟩
  have bx:N≠0:=by rcases H with ⟨h, -⟩|⟨h, -⟩|⟨h, -⟩<;>omega
  have q2:(N==0)=false:=by simpa using bx
  have hH:=aB H;clear H;go_wp2_with fail;refine(ak _ _ (bJ (S _ p)) (NQ.up (NQ.be E p))).mono ?_;rintro e9 w9 ⟨v9,rfl,h9,b9⟩;have:=St.mk b9;have J:=j.up (b:=w9);have L:=m.up (b:=w9);have bu:=aa J.k4 L.k4;go_wp2_with fail;refine(aj _ _ h9).mono ?_;rintro cl av ⟨rfl,b2⟩;have:=St.mk b2;replace J:=J.up (b:=av);replace L:=L.up (b:=av);replace bu:=aa J.k4 L.k4;have A:=bJ (b:=av) p;clear ak aj;have H:=hH.out;clear hH;rcases H with ⟨hv,rfl,rfl⟩|⟨hv,bh,bg,rfl⟩|⟨hv,d,l1,l2,rfl,i1,i2⟩
  ·obtain rfl:N=1:=by omega
   clear ad ac ae hv;obtain⟨a7,ag,ah⟩:=C;obtain⟨Ar,cr,rfl,ca⟩:=ag.form;have a6:a7.length<=1073741824:=by have:=ah.1;omega
   have c:=A.alloc A.size (.cells #[.bool s,.slice f q n,.bool t,.slice i r o,.bool s,.slice f q n,.bool t,.slice i r o] 51);have XB:=Bx.new av [.bool s,.slice f q n,.bool t,.slice i r o,.bool s,.slice f q n,.bool t,.slice i r o] 51;have Q:=ag.be c;go_wp2_with (at_builtin;refine yE rfl rfl 51 8 128 _ underlying60 E3 rfl yB (by decide) (by decide) rfl Q rfl XB rfl (yD _ _ _ _ _ _ _ _ _ _ _ _ _ _ _ _) a6 (aH ai.size c.size) ?_;intro ci cj a2 cb T a5);go_ret;exact⟨_,rfl,⟨_,a2,(ah.ke (KM.be c)).push (Q.km T) (IvN.of (E.be c) (E.be c))⟩,pT c T,(KM.be c).trans (Q.km T),E0 c a5⟩
  ·obtain rfl:N=1:=by omega
   have q0:(Sb==0)=false:=by simpa using bh
   have q1:(Sa != 0)=true:=by simpa using bg
   clear ae hv bh bg;obtain⟨a7,ag,ah⟩:=C;obtain⟨Ar,cr,rfl,ca⟩:=ag.form;have a6:a7.length<=1073741824:=by have:=ah.1;omega
   go_wp2_with fail;refine(ad _ _ (bJ (S _ A)) (NQ.up (NQ.be R A))).mono ?_;rintro bv al ⟨ch,rfl,a0,a3⟩;have:=St.mk a3;have y:=J.up (b:=al);have z:=L.up (b:=al);have ay:=aa y.k4 z.k4;go_wp2_with fail;refine(ac _ _ a0).mono ?_;rintro bw F ⟨rfl,a4⟩;have:=St.mk a4;replace y:=y.up (b:=F);replace z:=z.up (b:=F);replace ay:=aa y.k4 z.k4;have aq:=bJ (b:=F) A;have c:=aq.alloc aq.size (.cells #[.bool s1,.slice G U M,.bool s2,.slice I k2 O,.bool s,.slice f q n,.bool t,.slice i r o] 51);have XB:=Bx.new F [.bool s1,.slice G U M,.bool s2,.slice I k2 O,.bool s,.slice f q n,.bool t,.slice i r o] 51;have Q:=ag.be c;go_wp2_with (at_builtin;refine yE rfl rfl 51 8 128 _ underlying60 E3 rfl yB (by decide) (by decide) rfl Q rfl XB rfl (yD _ _ _ _ _ _ _ _ _ _ _ _ _ _ _ _) a6 (aH ai.size c.size) ?_;intro ci cj a2 cb T a5);go_ret;exact⟨_,rfl,⟨_,a2,(ah.ke (KM.be c)).push (Q.km T) (IvN.of (R.be c) (E.be c))⟩,pT c T,(KM.be c).trans (Q.km T),E0 c a5⟩
  ·replace i1:=fun vm W B C h1 h2=>i1 bj vr (.agg #[.bool s1,.slice G U M,.bool s2,.slice I k2 O]) vm W B C h1 h2 (by rw[bE] at hl;omega);replace i2:=fun v1 vm W B C h1 h2=>i2 (bj++l1) v1 vm (.agg #[.bool s,.slice f q n,.bool t,.slice i r o]) W B C h1 h2 (by rw[bE] at hl⊢;omega);have bb:vr.ownBlock≠some w.1.size:=fun e=>by have:=(au _ e).2;omega
   have bc:vr.ownBlock≠some (w.1.size+1):=fun e=>by have:=(au _ e).2;omega
   have hZ:N=1->Sb≠0∧Sa=0:=fun e=>d (by omega);unfold uY at i1 i2;clear d hl hv;generalize (a+b)/2=cv at *;have cc:N=1∧(Sb==0)=false∧Sa=0∨(N==1)=false:=by
    by_cases ar:N=1
    ·exact .inl ⟨ar,by simpa using (hZ ar).1,(hZ ar).2⟩
    ·exact .inr (by simpa using ar)
   clear hZ;rcases cc with ⟨rfl,q0,rfl⟩|q1
   focus (
    go_wp2_with fail;refine(ad _ _ (bJ (S _ A)) (NQ.up (NQ.be R A))).mono ?_;rintro bv al ⟨ch,rfl,a0,a3⟩;have:=St.mk a3;have y:=J.up (b:=al);have z:=L.up (b:=al);have ay:=aa y.k4 z.k4;go_wp2_with fail;refine(ac _ _ a0).mono ?_;rintro bw F ⟨rfl,a4⟩;have:=St.mk a4;replace y:=y.up (b:=F);replace z:=z.up (b:=F);replace ay:=aa y.k4 z.k4;have aq:=bJ (b:=F) A;have af:=aq;have Xz:=y;have Yz:=z;go_wp2_with fail
   )
   rotate_left
   focus (
    have af:=A;have Xz:=J;have Yz:=L;clear ad ac;go_wp2_with fail
   )
   all_goals (
    refine(ae _ _ _ (NQ.up (NQ.be R af)) (NQ.up (NQ.be E af))).mono ?_;rintro cm aw ⟨cw,rfl,a1,b3⟩;have:=St.mk b3;obtain⟨s5,A5,k5,c5,s6,A6,k6,c6,rfl⟩:=a1.form;obtain⟨a8,ba,b4,Z⟩:=bI aw [.bool s5,.slice A5 k5 c5,.bool s6,.slice A6 k6 c6] 42;have:=St.mk b4;have X8:=Xz.up (b:=a8);have Y8:=Yz.up (b:=a8);have P:=bJ (b:=a8) af;have ck:=aa X8.k4 (aa Y8.k4 Z.k4);have bf:vr.ownBlock≠some aw.1.size:=fun e=>by have:=(au _ e).2;have:=(bJ (b:=aw) af).size;omega
    go_wp2_with fail;(try rw[ba]);(try clear ba)
    go_region_held3 (fun w'=>C4 w' w.1.size (.bool s1) (.slice G U M) (.bool s2) (.slice I k2 O)∧C4 w' (w.1.size+1) (.bool s) (.slice f q n) (.bool t) (.slice i r o)∧C4 w' aw.1.size (.bool s5) (.slice A5 k5 c5) (.bool s6) (.slice A6 k6 c6))
     (first|with_reducible exact⟨X8.up.k4,Y8.up.k4,Z.up.k4⟩|with_reducible exact⟨X9.up.k4,Y9.up.k4,Z9.up.k4⟩|with_reducible exact⟨br.up.k4,bs.up.k4,bt.up.k4⟩)
     (first
     |(go_at_call 61;first
      |((with_reducible refine(i1 _ _ (bJ (S _ P)) (RowIv.up (RowIv.be C P)) (NQ.up (NQ.be R P)) a1.up).mono ?_);rintro cn a9 ⟨cx,rfl,bp,am,ax,ao⟩;have X9:=Bx.grown X8.up am bb;have Y9:=Bx.grown Y8.up am bc;have Z9:=Bx.grown Z.up am bf;have bz:=r5 ao bb X8.up.lt;have b0:=r5 ao bc Y8.up.lt;have b1:=r5 ao bf Z.up.lt;have bm:=NQ.ke a1.up ax;have bn:=NQ.ke (NQ.up (NQ.be E P)) ax;have GA:=pT (bJ P) am;have KA:=KM.trans (KM.be (bJ P)) ax;have OA:=OwnTo.less ao (bJ P).size;have BA:=Below.grown (S _ (aG _ _)) GA ai.size (fun k e=>(au k e).1))
      |((with_reducible refine(i2 _ _ _ (bJ BA) bp.up bm.up bn.up).mono ?_);rintro co cz ⟨cy,rfl,bq,an,bk,bo⟩;have br:=Bx.grown X9.up an bz;have bs:=Bx.grown Y9.up an b0;have bt:=Bx.grown Z9.up an b1;have GB:=DZ GA (pT (Up.out (a:=a9)) an) OA;have KB:=KM.trans KA (KM.trans (KM.be (Up.out (a:=a9))) bk);have OB:=OA.trans bo (aH GA.size (Up.out (a:=a9)).size))))
    all_goals (
     go_wp2;go_ret;exact⟨_,rfl,by rw[<-eK];exact bq,GB,KB,OB⟩)
   )
def MC{a b:Rat}(h:ExQ K V sg a b l):RL K a->RL K b->uZ wb vp vl a b l:=by
 induction h with
 |none h=>exact fun c d=>vA hV hK2 hva hat hsg c d (.inl ⟨h,rfl⟩)
 |hit h e=>exact fun c d=>vA hV hK2 hva hat hsg c d (.inr (.inl ⟨h,e,rfl⟩))
 |one h e i=>exact fun c d=>vA hV hK2 hva hat hsg c d (.inr (.inr (.inl ⟨h,e,i,rfl⟩)))
 |split h g f _ _ j k=>exact fun c d=>vA hV hK2 hva hat hsg c d (.inr (.inr (.inr ⟨h,g,_,_,rfl,j c f,k f d⟩)))
end
def yP(h:n<=330):RL 10 (p2 n):=by
 have a:nl ((2:Int)^n).natAbs<=7:=DE (k:=6) (m:=n) (by omega) (by rw[DF];exact aE);exact E5 (aH a (by decide)) (by decide)
def DX(a:∀q∈A,RL K q)(c:RL K x)(b:A.length<=7):nl (aI A x).num.natAbs<=14*K+8:=by
 have d:=(CJ a c).1;have:=dK (2*K+1) b;omega
def DY(a:n<=7)(b:K<=1000000000):2*(1+n*(2*K+1)+K)+1<=549755813888:=by
 have:=dK (2*K+1) a;omega
def M7(e:(Value.slice none 0 0).ownBlock=some k):B<=k:=by simp[Value.ownBlock] at e
def M8:(Value.slice none 0 0).ownBlock≠some g:=by simp[Value.ownBlock]
def cxE(j:Nat):p2 j*2=p2 (j+1):=by rw[jQ,uP]
def yQ(w:World)(l:List (Rat×Rat))(e:Ending)(w':World):Prop:=∃a b,e= .returned a∧RowIv w' b a l∧Below w.1.size w w'
def MA(A:List Rat)(w0 s:List Int)(c:List (List Int))(n:Nat)(l:List (Rat×Rat))(v:Value)(w:World)(hv:QsAt w v A)(pA:Prp A w0)(r:CnZ w0 s c)(o:∀q∈A,RL 1 q)(hl:A.length<=7)(a1:cf A (A.length-1)≠0)(ao:Pw (jF A) n)(hn:n<=330)
  (hx:ExQ 1000000000 (fun x=>aY 0 ((s :: c).map (fun a=>aP a 0 x))) (fun x=>aP s 0 x) (((-((2:Int)^n):Int)):Rat) ((((2:Int)^n:Int)):Rat) l)(br:l.length<=8):
  Calls prog 24 #[v] w (yQ w l):=by
 obtain⟨z,I,rfl,bo⟩:=hv.form;have ap:=fun W h=>E8 A w0 s (.slice z A.length I) W h pA r.2.1 o hl r.2.2.2.2;obtain⟨a,b,fa,fb,C,hT,ea,eb,p,bp,a2⟩:=bqK r.1 r.2.2.1;have aq:=fun W v h=>E9 (cE s) hT ea eb v W h 250000000 (fun X J=>(p X J).2.2) (by decide) (p _ iC).2.1 aE;have ah:=hx.congr (V':=fun x=>aY 0 ((cE s :: C).map (fun A=>cyE A 0 x))) (s':=fun x=>(aI A x).num.sign) (fun x y=>a2 0 x 0 y) (fun x=>sG pA r.2.1 x);have a6:=fun B (bl:Bool) (x:Rat) v u W h i (d:RL 1000000000 x)=>E7 (cE s :: C) B false bl x v u W h i (by rw[eG];omega) 1000000000 (fun X J=>⟨(p X J).1,by have:=(p X J).2.1;omega,fun q K=>bU ((p X J).2.2 q K) (by decide)⟩) d (by decide) (by decide);have a7:∀B (bl:Bool) (x:Rat) v u W,QQs W B 45 v (cE s :: C)->REnd W u false x->RL 1000000000 x->Calls prog 104 #[v,u,.bool bl] W (eO W (aY 0 ((cE s :: C).map (fun A=>cyE A 0 x)):Nat)):=a6;have az:=fun x u W h i (d:RL 1000000000 x)=>CD A x (.slice z A.length I) u W h i 1000000000 (fun q K=>bU (o q K) (by decide)) d (by omega) (DY hl aE);have a4:=fun (x:Rat) (W:World) (u:Value) (h:NQ W u (aI A x)) (d:RL 1000000000 x)=>oC (aI A x) u W h (aH (DX (fun q K=>bU (o q K) (by decide)) d hl) (by decide));have ay:∀x,aY 0 ((cE s :: C).map (fun A=>cyE A 0 x))<=1024:=fun x=>by
  have:=qR ((cE s :: C).map (fun A=>cyE A 0 x)) 0;rw[cH,eG] at this;omega
 have V:=yP hn;have e1:(((-((2:Int)^n):Int)):Rat)= -p2 n:=by rw[bx4];rfl
 have e2:(((((2:Int)^n:Int)):Rat))=p2 n:=rfl;rw[e1,e2] at ah;have bk:=o;have aj:=fun W h=>ZQ A (.slice z A.length I) W h a1 1 o (by omega) (by decide) (by decide);have a8:RL 5 (jF A):=bU (L4 o (by decide)) (by decide);have an:∀W,Calls prog 58 #[.int .i64 1] W (eS W 1):=fun W=>r7 1 W (by decide);have ar:∀W,Calls prog 58 #[.int .i64 2] W (eS W 2):=fun W=>r7 2 W (by decide);have ag:=fun j (hj:j<=n) W u v h i=>yS (p2 j) (jF A) u v W h i 10 (yP (by omega)) (bU a8 (by decide)) (by decide);have al:=fun j (hj:j<=n) W u v h i=>sL (p2 j) 2 u v W h i 10 (yP (by omega)) (bU (show RL 1 (2:Rat) from az3 (n:=2) (by decide)) (by decide)) (by decide);have am:=fun W u h=>yW (p2 n) u W h (by have:=V.1;omega);have a3:∀j,j<=n->(((p2 j-jF A).num.sign<0)↔j<n):=fun j hj=>by
  rw[LU];refine⟨fun h=> ?_,fun h=>ao.2 j h⟩;rcases dE j n with f|f
  ·exact f
  ·obtain rfl:j=n:=by omega
   have:=ao.1;exact absurd h (by show¬p2 j<jF A;have:jF A<=p2 j:=this;grind)
 have au:∀W M B Y Z,QQs W B 45 M (cE s :: C)->QsAt W (.slice z A.length I) A->NQ W Y (-p2 n)->NQ W Z (p2 n)->Calls prog 61 #[.slice z A.length I,M,Y,Z,.slice none 0 0] W (uY W W (.slice none 0 0) l):=fun W M B Y Z h6 hA f m=>
  MC (er:=fun x=>aI A x) (wb:=W) ay aE (fun x bl H u g h d=>a7 B bl x M u H (QQs.be h6 g) h d) (fun x H u g h d=>az x u H (hA.be g) h d) (fun x H u h d=>a4 x H u h d) ah (C7 (bU V (by decide))) (bU V (by decide)) [] _ Y Z W (aG _ _) (RowIv.nil _ _) f m (by rw[azS];omega)
 unfold lT at ap;unfold vC at aq;unfold eS at aj an ar al am;unfold eO at ag;unfold yQ;unfold uY at au;clear a2 p hT ea eb pA r o bk hx a6 a7 az a4 ao a8 a1 ah ay V e1 e2;generalize jF A=bq at *;go_enter func24,ntmps24;go_wp2_with fail;refine(an _).mono ?_;rintro e1 w1 ⟨v1,rfl,f,Q⟩;obtain⟨s1,A1,bi,c1,s2,A2,bj,c2,rfl⟩:=f.form;go_wp2_with fail;refine(aj _ (hv.be Q)).mono ?_;rintro e2 w2 ⟨v2,rfl,m,ac⟩;obtain⟨s3,A3,k3,c3,s4,A4,k4,c4,rfl⟩:=m.form;obtain⟨W,eW,T,G,F⟩:=eL w2 [.bool s1,.slice A1 bi c1,.bool s2,.slice A2 bj c2] 42 [.bool s3,.slice A3 k3 c3,.bool s4,.slice A4 k4 c4] 42;have R:=aC Q ac;have g:=aC R T;have hg:=R.size;replace f:=(f.be ac).be T;replace m:=m.be T;have aw:QVar W w2.1.size (p2 0):=⟨_,_,_,_,_,_,_,_,G,by rw[DG];exact f⟩;have av:QVar W (w2.1.size+1) bq:=⟨_,_,_,_,_,_,_,_,F,m⟩;clear Q ac T R f m an aj G F;go_wp2_with fail;(try rw[eW]);(try clear eW);generalize w2.1.size=g3 at *;go_loopg [] n (fun k wr=>∃j,Hid (j+k=n)∧QVar wr g3 (p2 j)∧QVar wr (g3+1) bq∧Below w.1.size w wr)
 case atStart=>exact⟨0,by unfold Hid;omega,aw,av,g⟩
 case round=>
  clear aw av g;obtain⟨j,O,⟨s1,A1,k1,c1,s2,A2,k2,c2,G,P⟩,⟨s3,A3,k3,c3,s4,A4,k4,c4,F,hF⟩,g⟩:=hrel;generalize wr=wy at *;have ai:j<=n:=by have:=O.out;omega
  have U:=ag j ai;have ak:=al j ai;have L:=a3 j ai;rw[cxE] at ak;obtain⟨S,hS⟩:∃S,(p2 j-bq).num.sign=S:=⟨_,rfl⟩;rw[hS] at U L;have cG:=aa G.g4 F.g4;clear ag al a3 hS;cases gk with
  |succ k=>
   have bs:S<0:=L.2 (by have:=O.out;omega);clear L ap aq am au;go_wp2_with fail;refine(U _ _ _ P hF).mono ?_;rintro e5 t ⟨rfl,ad⟩;have:=St.mk ad;have D:=G.up (b:=t);have bc:=D.g4;go_wp2_with fail
   go_region_with (first
    |(go_at_call 58;refine(ar _).mono ?_;rintro e7 w7 ⟨v7,rfl,h7,af⟩;have:=St.mk af;have bm:=(G.up (b:=w7)).g4)
    |(go_at_call 60;refine(ak _ _ _ P.up h7.up).mono ?_;rintro e9 N ⟨v9,rfl,h9,bh⟩;obtain⟨s9,A9,k9,c9,s0,a9,k0,bb,rfl⟩:=h9.form;have:=St.mk bh;have E:=G.up (b:=N);have F9:=F.up (b:=N);have bn:=E.g4;have bf:=hF.up (b:=N)))
   all_goals (
    go_wp2_with fail;obtain⟨W6,e6,G6,ae,hk,ff⟩:=E.mut4 (bJ (b:=N) g) (by omega) (.bool s9) (.slice A9 k9 c9) (.bool s0) (.slice a9 k0 bb) rfl rfl;rw[e6];clear e6;go_roundg k
    case rel=>exact⟨j+1,by have:=O.out;unfold Hid;omega,⟨_,_,_,_,_,_,_,_,G6,h9.ke hk⟩,⟨_,_,_,_,_,_,_,_,ff F9 (by omega),bf.ke hk⟩,ae⟩
    case measure=>omega)
  |zero=>
   obtain rfl:j=n:=O.out;have bt:¬S<0:=fun h=>by have:=L.1 h;omega
   clear L ak ar;go_wp2_with fail;refine(U _ _ _ P hF).mono ?_;rintro e5 t ⟨rfl,ad⟩;have:=St.mk ad;have D:=G.up (b:=t);have bc:=D.k4;have a5:=hv.be (bJ (b:=t) g);have a0:=bJ (b:=t) g;have ax:=P.up (b:=t);clear U F hF cG;go_wp2_with fail
   go_region_held3 (fun w'=>C4 w' g3 (.bool s1) (.slice A1 k1 c1) (.bool s2) (.slice A2 k2 c2)) (first|with_reducible exact D.up.k4|with_reducible exact ba.k4)
    (first
     |(go_at_call 63;refine(ap _ a5.up).mono ?_;rintro e6 w6 ⟨M,rfl,h6,ae⟩;have:=St.mk ae)
     |(go_at_call 62;refine(aq _ _ h6.up).mono ?_;rintro e7 w7 ⟨v7,rfl,h7,af⟩;have:=St.mk af)
     |(go_at_call 64;refine(am _ _ ax.up).mono ?_;rintro e8 w8 ⟨v8,rfl,h8,bg⟩;have:=St.mk bg)
     |(go_at_call 61;refine(au _ _ _ _ _ (QQs.up h7) a5.up h8.up ax.up).mono ?_;rintro e9 N ⟨v9,rfl,R9,E, -, -⟩;have ba:=Bx.grown D.up E M8;have ZB:=Below.grown (bJ a0) E (bJ a0).size (fun k e=>M7 e)))
   all_goals (
    go_wp2;go_ret;exact⟨_,_,rfl,R9,ZB⟩)
def MB(a:List (List UInt8))(n:Nat)(l:List (Rat×Rat))(f:dM a=0->yF (aU a) n l)(m:dM a≠0->l=[])(r:dM a=0->Pw (jF (aU a)) n)(hn:n<=330)(v:Value)(w:World)(hv:StrsAt w v a)(I:a.length<=7)(hs:∀l∈a,l.length<=6):
  Calls prog 8 #[v] w fun e w'=>∃v',e= .returned (.tuple #[v',.int .i64 (dM a)])∧IvsAt w' v' (l.map kQ)∧Below w.1.size w w':=by
 obtain⟨A,c,rfl,hc⟩:=hv.form;have i:=fun W h=>L5 a (.slice A a.length c) W h I hs;have X:∀q∈aU a,RL 1 q:=pI (fun l I=>aH (hs l I) (by decide));have ar:(aU a).length=a.length:=cH _;have z:=DC a;unfold yA at i;obtain⟨E,U⟩:∃E,dM a=E:=⟨_,rfl⟩;rw[U] at i z f m r⊢;clear U;rcases z with ⟨rfl,ah,J,Y⟩|⟨rfl, -, -⟩|⟨rfl, -, -⟩;rotate_left
 ·skip;obtain rfl:l=[]:=m (by decide);clear f m r;go_enter func8,ntmps8;go_wp2_with fail;refine(i _ hv).mono ?_;rintro Q w1 ⟨v1,rfl,d,g⟩;obtain⟨x,y,rfl, -⟩:=d.form;go_wp2;go_ret2;exact⟨_,rfl,⟨_,_,rfl,aE,.inl rfl⟩,g⟩
 ·skip;obtain rfl:l=[]:=m (by decide);clear f m r;go_enter func8,ntmps8;go_wp2_with fail;refine(i _ hv).mono ?_;rintro Q w1 ⟨v1,rfl,d,g⟩;obtain⟨x,y,rfl, -⟩:=d.form;go_wp2;go_ret2;exact⟨_,rfl,⟨_,_,rfl,aE,.inl rfl⟩,g⟩
 obtain⟨w0,s,cs,pA,T,hx,ao,ap⟩:=f rfl;rw[Y] at i J;have ag:aU a≠[]:=fun e=>J (by rw[e];rfl);have ae:=(fT ag).1 (pJ ah).2.2;have G:=fun W v h=>MA (aU a) w0 s cs n l v W h pA T X (by omega) ae (r rfl) hn hx ap;unfold yQ at G;clear f m r pA T hx X ar ae J ag Y ah;go_enter func8,ntmps8;go_wp2_with fail;refine(i _ hv).mono ?_;rintro Q w1 ⟨v1,rfl,d,g⟩;obtain⟨x,y,rfl, -⟩:=d.form;clear i;go_wp2_with fail;refine(G _ _ d).mono ?_;rintro e2 N ⟨v2,aw,rfl,S,ac⟩;obtain⟨O,P,rfl,az⟩:=S.form;have Z:=aC g ac;clear G d g ac;go_wp2_with fail;go_loopg [6,8] l.length (fun k vf vi wr=>∃j:Nat,Hid (j+k=l.length)∧vi= .int .i64 j∧GrowD wr N.1.size 24 2 vf (((l.take j).map kQ).map jG)∧Below N.1.size N wr)
 case atStart=>exact⟨0,by unfold Hid;omega,rfl,GrowD.nil,aG _ _⟩
 case round=>
  obtain⟨j,D,rfl,o,t⟩:=hrel;generalize wr=wy at *;have a0:(0:Int)<=(j:Int):=by omega
  have ak:=aC Z t;obtain⟨Af,nf,ax,rfl⟩:=o.form3;cases gk with
  |zero=>
   have hj:j=l.length:=D.out;subst hj;rw[aq9] at o;have f:=o.ivs;clear o;go_wp2;go_ret2;exact⟨_,rfl,f,ak⟩
  |succ k=>
   have an:j<l.length:=by have:=D.out;omega
   have a1:(j:Int)<(l.length:Int):=by omega
   obtain⟨p,B⟩:∃p,l[j]? =some p:=⟨_,aR an⟩;obtain⟨b,s1,x,k1,y,s2,O,k2,P,s3,A3,k3,c3,s4,A4,k4,c4,rfl,ay,z,au⟩:=(S.be t).get B;have H:=ao p (dG B);have ai:=fun W h=>ME p.1 p.2 (.agg #[.bool s1,.slice x k1 y,.bool s2,.slice O k2 P,.bool s3,.slice A3 k3 c3,.bool s4,.slice A4 k4 c4]) W h 1500000 H.1 H.2 (by decide);have aj:Hid (((l.take (j+1)).map kQ).map jG=((l.take j).map kQ).map jG++[[.string ⟨(cW p.1).toArray⟩,.string ⟨(cW p.2).toArray⟩]]):=by
    unfold Hid;rw[kR,B,aqO,aq7,aq7];rfl
   have al:(((l.take j).map kQ).map jG).length<=1073741824:=by rw[cH,cH,bK];omega
   generalize ((l.take j).map kQ).map jG=R at *;generalize (⟨(cW p.1).toArray⟩:ByteArray)=L at *;generalize (⟨(cW p.2).toArray⟩:ByteArray)=M at *;clear B H;go_wp2_with fail;refine(ai _ au).mono ?_;rintro e7 C ⟨rfl,F⟩;have ad:Below C.1.size C (C.alloc (.cells #[.string L,.string M] 24)):=(aG _ _).alloc aE _;have af:=(o.be F).be ad;have K:=(aC t F).trans (ad.mono (aH t.size F.size));have XB:=Bx.new C [.string L,.string M] 24;have aq:∀u∈[Value.string L,.string M],NoInt u∧u.oneCell'=true:=fun u hu=>by
    simp at hu;rcases hu with rfl|rfl
    ·exact⟨NoInt.string _,rfl⟩
    ·exact⟨NoInt.string _,rfl⟩
   clear o ai z;go_wp2_with (at_builtin;refine yE rfl rfl 24 2 32 _ underlying28 LQ rfl LR (by decide) (by decide) rfl af rfl XB rfl aq al K.size ?_;intro v8 w8 V a2 am a3);have av:=K.trans (af.left am K.size);rw[<-aj.out] at V;go_roundg k
   case rel=>exact⟨j+1,by have:=D.out;unfold Hid;omega,by go_num,V,av⟩
   case measure=>omega
def NrR(s:List Int)(c:List (List Int))(x d L:Rat)(n:Nat)(Q:Rat×Rat)(S:Int)(K k:Nat)(a b:Rat):Prop:=a=b∧Q=(a,b)∧RL K a∨a<b∧S≠0∧fF s c 0 a 0 b=1∧bxV s x d L n Q S k a b
section
variable {A:List Rat}{w0 s:List Int}{c:List (List Int)}{x d L:Rat}{n:Nat}{Q:Rat×Rat}{S:Int}{K k:Nat}{a b:Rat}
def NrR.kl(e:∀j i,j<=n->i<=2^j->RL K (azB x d i j))(h:NrR s c x d L n Q S K k a b):RL K a∧RL K b:=by
 rcases h with ⟨rfl, -,k⟩|⟨-, -, -, -, -, -,i,j,g,f,rfl,rfl⟩
 ·exact⟨k,k⟩
 ·exact⟨e j i (by omega) (by omega),e j (i+1) (by omega) f⟩
def NrR.stop(h:NrR s c x d L n Q S K k a b)(e:¬L<b-a):Q=(a,b):=by
 rcases h with ⟨-,h, -⟩|⟨-, -, -,h, -⟩
 ·exact h
 ·rw[<-h,byW e]
def NrR.next(u:Prp A w0)(l:CnZ w0 s c)(t:0<L)(F:∀j i,j<=n->i<=2^j->RL K (azB x d i j))(h:NrR s c x d L n Q S K (k+1) a b)(E:L<b-a):
  RL K ((a+b)/2)∧(aP s 0 ((a+b)/2)=0->NrR s c x d L n Q S K k ((a+b)/2) ((a+b)/2))∧(aP s 0 ((a+b)/2)≠0->fF s c 0 a 0 ((a+b)/2)=1->NrR s c x d L n Q S K k a ((a+b)/2))∧(aP s 0 ((a+b)/2)≠0->fF s c 0 a 0 ((a+b)/2)≠1->NrR s c x d L n Q S K k ((a+b)/2) b):=by
 rcases h with ⟨rfl, -⟩|⟨M,m,hn,h⟩
 ·exfalso;grind
 ·obtain⟨H,I,J,i,j,D,C,e⟩:=bq8 h E;have y:RL K ((a+b)/2):=by rw[e];exact F j i D C
  have o:aP s 0 a=S:=h.2.2.1;obtain⟨G,z,v⟩:Sz s∧(∀n∈s,nl n.natAbs<=110079)∧s.length<=7:=⟨l.2.2.1,fun n hn=>aH (l.2.2.1.nums n hn) (by decide),l.2.2.1.1⟩;have w:=gU (pL G.nums (by omega));have q:a<(a+b)/2:=by grind
  have r:(a+b)/2<b:=by grind
  refine⟨y,fun t=> .inl ⟨rfl,H t,y⟩,fun g p=> ?_,fun g p=> ?_⟩
  ·rcases bqI l.1 u.2.1 v z (fun n hn=>aH (w n hn) (by decide)) q r (by rw[o];exact m) g hn with ⟨-,f⟩|⟨f, -⟩
   ·exact .inr ⟨q,m,p,J g (by rwa [o] at f)⟩
   ·omega
  ·rcases bqI l.1 u.2.1 v z (fun n hn=>aH (w n hn) (by decide)) q r (by rw[o];exact m) g hn with ⟨f, -⟩|⟨-,f,B⟩
   ·exact absurd f p
   ·exact .inr ⟨r,m,f,I g (by rwa [o] at B)⟩
end
def Bx.mut84{b:Nat}(h:Bx W b cs t)(I:Below B w W)(f:B<=b)(o:Nat)(j l m p:Value)(hn:(cS cs[o]? &&(cS cs[o+1]? &&(cS cs[o+2]? &&cS cs[o+3]?)))=true):
  ∃e,(((W.setCell ⟨b,o,none⟩ j).setCell ⟨b,o+1,none⟩ l).setCell ⟨b,o+2,none⟩ m).setCell ⟨b,o+3,none⟩ p=e∧Bx e b ((((cs.set o j).set (o+1) l).set (o+2) m).set (o+3) p) t∧Below B w e∧KM W e∧∀{g:Nat} {cs:List Value} {t:TypeId},Bx W g cs t->b≠g->Bx e g cs t:=by
 simp only[az7] at hn;obtain⟨P,rfl,E,q,J,y⟩:=h.mut1 I f o j hn.1;obtain⟨R,rfl,F,r,M,z⟩:=E.mut1 q f (o+1) l (by rw[lI (by omega)];exact hn.2.1);obtain⟨T,rfl,G,u,N,C⟩:=F.mut1 r f (o+2) m (by rw[lI (by omega),lI (by omega)];exact hn.2.2.1);obtain⟨U,rfl,H,v,O,D⟩:=G.mut1 u f (o+3) p (by rw[lI (by omega),lI (by omega),lI (by omega)];exact hn.2.2.2);exact⟨_,rfl,H,v,((J.trans M).trans N).trans O,fun k i=>D (C (z (y k i) i) i) i⟩
def Bx.mut8f{b:Nat}{y z C D E F:Value}(h:Bx W b [u,v,y,z,C,D,E,F] t)(M:Below B w W)(J:B<=b)(i j l m o p q r:Value)(hn:(cS (some u)&&(cS (some v)&&(cS (some y)&&(cS (some z)&&(cS (some C)&&(cS (some D)&&(cS (some E)&&cS (some F))))))))=true):
  ∃f,(((((((W.setCell ⟨b,0,none⟩ i).setCell ⟨b,1,none⟩ j).setCell ⟨b,2,none⟩ l).setCell ⟨b,3,none⟩ m).setCell ⟨b,4,none⟩ o).setCell ⟨b,5,none⟩ p).setCell ⟨b,6,none⟩ q).setCell ⟨b,7,none⟩ r=f∧Bx f b [i,j,l,m,o,p,q,r] t∧Below B w f∧KM W f∧∀{g:Nat} {cs:List Value} {t:TypeId},Bx W g cs t->b≠g->Bx f g cs t:=by
 obtain⟨f,e,G,H,I⟩:=h.mut8 M J i j l m o p q r hn;exact⟨f,e,G,H,I,fun k N=>by rw[<-e];exact k.far8 N⟩
def cxC(w:World)(g:Nat)(a b:Rat):Prop:=∃u e p j v f q l y h r m z i t o,Bx w g [.bool u,.slice e p j,.bool v,.slice f q l,.bool y,.slice h r m,.bool z,.slice i t o] 51∧NQ w (.agg #[.bool u,.slice e p j,.bool v,.slice f q l]) a∧NQ w (.agg #[.bool y,.slice h r m,.bool z,.slice i t o]) b
def bqJ(w:World)(K:Nat)(Q:Rat×Rat)(e:Ending)(w':World):Prop:=∃f,e= .returned f∧IvN w' f Q.1 Q.2∧RL K Q.1∧RL K Q.2∧Below w.1.size w w'
def cxD(A:List Rat)(w0 s:List Int)(c:List (List Int))(x y L:Rat)(n K:Nat)(Q:Rat×Rat)(S:Int)(v u g:Value)(w:World)(hv:QsAt w v A)(pA:Prp A w0)(hZ:CnZ w0 s c)(kA:∀q∈A,RL 1 q)(hl:A.length<=7)(hu:IvN w u x y)(hg:NQ w g L)(h0:0<L)(hR:NrR s c x (y-x) L n Q S K n x y)(hp:∀j i,j<=n->i<=2^j->RL K (azB x (y-x) i j))(kL:RL K L)(bj:K<=200000000):
  Calls prog 36 #[v,u,g] w (bqJ w K Q):=by
 obtain⟨A0,c0,rfl,hc⟩:=hv.form;obtain⟨s1,A1,k1,c1,s2,A2,k2,c2,s3,A3,k3,c3,s4,A4,k4,c4,rfl,hx,hy⟩:=hu;obtain⟨s5,A5,k5,c5,s6,A6,k6,c6,rfl⟩:=hg.form;have f:∀k a b,NrR s c x (y-x) L n Q S K k a b->RL K a∧RL K b:=fun k a b h=>h.kl hp;have am:∀k a b,NrR s c x (y-x) L n Q S K (k+1) a b->L<b-a->_:=fun k a b h hl=>h.next pA hZ h0 hp hl;have aj:∀a b,NrR s c x (y-x) L n Q S K 0 a b->¬L<b-a:=fun a b h hl=>by
  rcases h with ⟨rfl, -⟩|⟨-, -, -,h⟩
  ·grind
  ·exact bqF h.2.1 hl
 have ap:1<=K:=xR kL;have af:=fun a m (W:World) v u1 u2 h h1 h2 (ka:RL K a) (km:RL K m)=>MG A w0 s c false false a m v u1 u2 W h pA hZ kA hl h1 h2 (bU ka (by omega)) (bU km (by omega));have ag:=fun z u W h C (kz:RL K z)=>CD A z (.slice A0 A.length c0) u W h C K (fun q O=>bU (kA q O) ap) kz (by omega) (DY hl (by omega));have ax:=fun (z:Rat) (W:World) (u:Value) (h:NQ W u (aI A z)) (kz:RL K z)=>oC (aI A z) u W h (aH (DX (fun q O=>bU (kA q O) ap) kz hl) (by omega));have aw:=sG pA hZ.2.1;rw[show eI false true=0 from rfl,show eI false false=0 from rfl] at af;unfold eO at af;unfold eS at ag;clear pA hZ kA h0 hp;obtain⟨W,eW,hb,X,Y,R⟩:=gE w [.bool s1,.slice A1 k1 c1,.bool s2,.slice A2 k2 c2,.bool s3,.slice A3 k3 c3,.bool s4,.slice A4 k4 c4] 51 [.bool s5,.slice A5 k5 c5,.bool s6,.slice A6 k6 c6] 42 [.bool false,.slice none 0 0,.bool false,.slice none 0 0,.bool false,.slice none 0 0,.bool false,.slice none 0 0] 51;have cM:=aa X.g8 (aa Y.g4 R.g8);go_enter func36,ntmps36;go_wp2_with fail;(try rw[eW]);clear eW;replace hx:=hx.be hb;replace hy:=hy.be hb;go_loopg [] n (fun k wr=>∃a b,NrR s c x (y-x) L n Q S K k a b∧cxC wr w.1.size a b∧Bx wr (w.1.size+1) [.bool s5,.slice A5 k5 c5,.bool s6,.slice A6 k6 c6] 42∧Bx wr (w.1.size+1+1) [.bool false,.slice none 0 0,.bool false,.slice none 0 0,.bool false,.slice none 0 0,.bool false,.slice none 0 0] 51∧Below w.1.size w wr)
 case atStart=>exact⟨x,y,hR,⟨_,_,_,_,_,_,_,_,_,_,_,_,_,_,_,_,X,hx,hy⟩,Y,R,hb⟩
 case round=>
  clear hR hx hy X Y R hb;obtain⟨a,b,HN,⟨s1,A1,k1,c1,s2,A2,k2,c2,s3,A3,k3,c3,s4,A4,k4,c4,X,ha,ar⟩,Y,R,hb⟩:=hrel;generalize wr=wy at *;obtain⟨ka,kb⟩:=f _ _ _ HN;have an:=fun W u v h C=>EC b a u v W h C K kb ka (by omega);have ah:=fun W u v h C=>yS (b-a) L u v W h C (2*K+1) (bU (JM kb ka) (by omega)) (bU kL (by omega)) (by omega);have aq:=bq6 (b-a) L;generalize (b-a-L).num.sign=Sg at *;unfold eS at an;unfold eO at ah;have bb:=hg.be hb;have ac:=aB HN;have ae:=aB aq;clear HN aq;have cM:=aa X.k8 Y.k4;go_wp2_with fail
  go_region_held3 (fun w'=>C8 w' w.1.size (.bool s1) (.slice A1 k1 c1) (.bool s2) (.slice A2 k2 c2) (.bool s3) (.slice A3 k3 c3) (.bool s4) (.slice A4 k4 c4)∧C4 w' (w.1.size+1) (.bool s5) (.slice A5 k5 c5) (.bool s6) (.slice A6 k6 c6)) (with_reducible exact⟨X.up.k8,Y.up.k4⟩)
   (first
    |(go_at_call 79;refine(an _ _ _ ar.up ha.up).mono ?_;rintro e4 w4 ⟨v4,rfl,h4,a4⟩;have:=St.mk a4)
    |(go_at_call 46;refine(ah _ _ _ h4.up bb.up).mono ?_;rintro e5 w5 ⟨rfl,a6⟩;have:=St.mk a6))
  all_goals (
   have p:=X.up (b:=w5);have B:=Y.up (b:=w5);have o:=R.up (b:=w5);have a5:=ha.up (b:=w5);have b5:=ar.up (b:=w5);have zb:=bJ (b:=w5) hb;have ao:=aa p.g8 (aa B.k4 o.g8);by_cases au:0<Sg
   ·have ai:=ae.out.1 au;cases gk with
    |zero=>exact absurd ai (aj _ _ ac.out)
    |succ k=>
     have H:=aB (am _ _ _ ac.out ai);have km:=H.out.1;have ak:=fun W u v h C=>MD a b u v W h C K ka kb (by omega);unfold eS at ak;have av:=aw ((a+b)/2);generalize (a+b)/2=m at *;have gm:=fun W u h=>ax m W u h km;have ay:=fun u W h C=>ag m u W h C km;have al:=fun W v u1 u2 h h1 h2=>af a m W v u1 u2 h h1 h2 ka km;have E1:=fun u W h=>vB a u W h;have E2:=fun u W h=>vB m u W h;unfold eO at gm;generalize aI A m=em at *;generalize em.num.sign=Sm at *;have ad:=aB av;clear ax ag ai ah an ac ae f aw am aj av af;go_wp2_with fail;refine(ak _ _ _ a5 b5).mono ?_;rintro l w6 ⟨v6,rfl,r,D⟩;obtain⟨U,E,P,G,V,F,T,I,rfl⟩:=r.form;obtain⟨w7,e7,a7,M⟩:=bI w6 [.bool U,.slice E P G,.bool V,.slice F T I] 42;have:=St.mk D;have:=St.mk a7;replace r:=r.up (b:=w7);replace p:=p.up (b:=w7);replace B:=B.up (b:=w7);replace o:=o.up (b:=w7);replace zb:=bJ (b:=w7) zb;have ao:=aa p.g8 (aa B.k4 (aa o.g8 M.k4));go_wp2_with fail;(try rw[e7]);(try clear e7);refine(ay _ _ (hv.be zb) r).mono ?_;rintro e8 w8 ⟨v8,rfl,h8,a8⟩;have:=St.mk a8;go_wp2_with fail;refine(gm _ _ h8).mono ?_;rintro e9 w9 ⟨rfl,ba⟩;have:=St.mk ba;replace r:=r.up (b:=w9);replace a5:=a5.up (b:=w9);replace b5:=b5.up (b:=w9);replace p:=p.up (b:=w9);replace B:=B.up (b:=w9);replace o:=o.up (b:=w9);replace M:=M.up (b:=w9);replace zb:=bJ (b:=w9) zb;have ao:=aa p.g8 (aa B.k4 (aa o.g8 M.k4));clear ak gm ay h8;by_cases hz:Sm=0
     ·subst hz;have HR:=aB (H.out.2.1 (ad.out.1 rfl));clear H ad al E1 E2;go_wp2_with fail;obtain⟨W6,l,t,D,f,J⟩:=p.mut8f zb (by omega) (.bool U) (.slice E P G) (.bool V) (.slice F T I) (.bool U) (.slice E P G) (.bool V) (.slice F T I) rfl;rw[l];clear l;go_roundg k
      case rel=>exact⟨m,m,HR.out,⟨_,_,_,_,_,_,_,_,_,_,_,_,_,_,_,_,t,r.ke f,r.ke f⟩,J B (by omega),J o (by omega),D⟩
      case measure=>omega
     ·have bm:(Sm==0)=false:=beq_eq_false_iff_ne.2 hz;have HZ:=aB (fun h=>hz (ad.out.2 h));clear ad hz;generalize fF s c 0 a 0 m=N at *;have bc:=hv.be zb;go_wp2_with fail
      go_region_held3 (fun w'=>C8 w' w.1.size (.bool s1) (.slice A1 k1 c1) (.bool s2) (.slice A2 k2 c2) (.bool s3) (.slice A3 k3 c3) (.bool s4) (.slice A4 k4 c4)∧C4 w' w6.1.size (.bool U) (.slice E P G) (.bool V) (.slice F T I)) (with_reducible exact⟨p.up.k8,M.up.k4⟩)
       (first
        |(go_at_call 49;first|(with_reducible refine(E1 _ _ a5.up).mono ?_;rintro bg bp ⟨bn,rfl,az,a1⟩;have:=St.mk a1)|(with_reducible refine(E2 _ _ r.up).mono ?_;rintro bh bq ⟨bo,rfl,a0,a2⟩;have:=St.mk a2))
        |(go_at_call 48;refine(al _ _ _ _ bc.up az.up a0.up).mono ?_;rintro bi Z ⟨rfl,a3⟩;have:=St.mk a3;have X9:=p.up (b:=Z);have Y9:=B.up (b:=Z);have R9:=o.up (b:=Z);have M9:=M.up (b:=Z);have bf:=aa X9.g8 (aa Y9.k4 (aa R9.g8 M9.k4));have z9:=bJ (b:=Z) zb;have m9:=r.up (b:=Z);have a9:=a5.up (b:=Z);have b9:=b5.up (b:=Z)))
      all_goals (
       clear al E1 E2;by_cases O:N=1
       ·subst O;have HR:=aB (H.out.2.2.1 HZ.out rfl);clear H HZ;go_wp2_with fail;obtain⟨W6,l,t,D,f,J⟩:=X9.mut84 z9 (by omega) 4 (.bool U) (.slice E P G) (.bool V) (.slice F T I) rfl;simp only[Nat.reduceAdd] at l;rw[l];clear l;replace t:Bx W6 w.1.size [.bool s1,.slice A1 k1 c1,.bool s2,.slice A2 k2 c2,.bool U,.slice E P G,.bool V,.slice F T I] 51:=t;go_roundg k
        case rel=>exact⟨a,m,HR.out,⟨_,_,_,_,_,_,_,_,_,_,_,_,_,_,_,_,t,a9.ke f,m9.ke f⟩,J Y9 (by omega),J R9 (by omega),D⟩
        case measure=>omega
       ·have bk:(N==1)=false:=beq_eq_false_iff_ne.2 O;have HR:=aB (H.out.2.2.2 HZ.out O);clear H HZ O;go_wp2_with fail;obtain⟨W6,l,t,D,f,J⟩:=X9.mut84 z9 (by omega) 0 (.bool U) (.slice E P G) (.bool V) (.slice F T I) rfl;simp only[Nat.reduceAdd] at l;rw[l];clear l;replace t:Bx W6 w.1.size [.bool U,.slice E P G,.bool V,.slice F T I,.bool s3,.slice A3 k3 c3,.bool s4,.slice A4 k4 c4] 51:=t;go_roundg k
        case rel=>exact⟨m,b,HR.out,⟨_,_,_,_,_,_,_,_,_,_,_,_,_,_,_,_,t,m9.ke f,b9.ke f⟩,J Y9 (by omega),J R9 (by omega),D⟩
        case measure=>omega)
   ·obtain rfl:Q=(a,b):=ac.out.stop (fun e=>au (ae.out.2 e));clear ac ae am aj f;go_wp2_with fail;obtain⟨W6,l,R6,D,f⟩:=o.mut8 zb (by omega) (.bool s1) (.slice A1 k1 c1) (.bool s2) (.slice A2 k2 c2) (.bool s3) (.slice A3 k3 c3) (.bool s4) (.slice A4 k4 c4) rfl;rw[l];exact aM (v:= .agg #[.bool s1,.slice A1 k1 c1,.bool s2,.slice A2 k2 c2,.bool s3,.slice A3 k3 c3,.bool s4,.slice A4 k4 c4]) (by simp[results,results36,go_sem,R6.k8]) rfl ⟨_,rfl,IvN.of (a5.ke f) (b5.ke f),ka,kb,D⟩
  )
def qZ(A:List Rat)(x y:Rat)(N:Int):Bool:=if x<y then (!decide ((aI A x).num.sign=0)&& !decide ((aI A y).num.sign=0))&&decide (N=1) else decide (x=y)&&decide ((aI A x).num.sign=0)
def M4{w:List Int}(f:Prp A w)(g:CnZ w s c)(x y:Rat):qZ A x y (fF s c 0 x 0 y)=pS s x y (fF s c 0 x 0 y):=by
 have h:=ax5 f g (x:=x) (y:=y);unfold qZ pS;by_cases b:x<y
 ·have i:x≠y:=fun e=>by grind
  rw[if_pos b,if_pos b,bxH];simp only[az7,Bool.not_eq_true',jA,iQ];constructor
  ·intro k;rcases h.2 (.inl ⟨b,k.1.1,k.1.2,k.2⟩) with ⟨-,a,d⟩|⟨a, -⟩
   ·exact⟨a,d⟩
   ·exact absurd a i
  ·intro k;rcases h.1 (.inl ⟨b,k.1,k.2⟩) with ⟨-,a,d,j⟩|⟨a, -⟩
   ·exact⟨⟨a,d⟩,j⟩
   ·exact absurd a i
 ·rw[if_neg b,if_neg b];congr 1;exact decide_eq_decide.2 (sG f g.2.1 x)
def M5(A:List Rat)(w0 s:List Int)(c:List (List Int))(x y:Rat)(v u:Value)(w:World)(hv:QsAt w v A)(hu:IvN w u x y)(pA:Prp A w0)(hZ:CnZ w0 s c)(J:∀q∈A,RL 1 q)(I:A.length<=7)(C:RL 250000000 x)(E:RL 250000000 y):
  Calls prog 18 #[v,u] w fun e w'=>e= .returned (.bool (qZ A x y (fF s c 0 x 0 y)))∧Below w.1.size w w':=by
 obtain⟨A0,c0,rfl,aj⟩:=hv.form;obtain⟨s1,A1,k1,c1,s2,A2,k2,c2,s3,A3,k3,c3,s4,A4,k4,c4,rfl,V,hy⟩:=hu;have Q:=fun W v u1 u2 h h1 G=>MG A w0 s c false false x y v u1 u2 W h pA hZ J I h1 G C E;have O:=fun z u W h l (Z:RL 250000000 z)=>CD A z (.slice A0 A.length c0) u W h l 250000000 (fun q R=>bU (J q R) (by decide)) Z (by omega) (DY I (by decide));have S:=fun (z:Rat) (W:World) (u:Value) (h:NQ W u (aI A z)) (Z:RL 250000000 z)=>oC (aI A z) u W h (aH (DX (fun q R=>bU (J q R) (by decide)) Z I) (by decide));have t1:=fun u W h l=>O x u W h l C;have t2:=fun u W h l=>O y u W h l E;have K:=fun W u h=>S x W u h C;have L:=fun W u h=>S y W u h E;have P:=fun W u v h l=>yS x y u v W h l 250000000 C E (by decide);have E1:=fun u W h=>vB x u W h;have E2:=fun u W h=>vB y u W h;have g:qZ A x y (fF s c 0 x 0 y)=if x<y then (!decide ((aI A x).num.sign=0)&& !decide ((aI A y).num.sign=0))&&decide (fF s c 0 x 0 y=1) else decide (x=y)&&decide ((aI A x).num.sign=0):=rfl;obtain⟨T,hT⟩:∃T,qZ A x y (fF s c 0 x 0 y)=T:=⟨_,rfl⟩;rw[hT] at g⊢;have ac:=iY (x-y);unfold eO at Q K L P;unfold eS at t1 t2;rw[show eI false true=0 from rfl,show eI false false=0 from rfl] at Q;clear O S C E hT pA hZ J I;generalize aI A x=ex at *;generalize aI A y=ey at *;generalize fF s c 0 x 0 y=N at *;generalize ex.num.sign=F at *;generalize ey.num.sign=Sy at *;have hD:x<y∧(x-y).num.sign= -1∨¬x<y∧x=y∧(x-y).num.sign=0∨¬x<y∧x≠y∧(x-y).num.sign=1:=by
  rcases ac with h|h|h
  ·exact .inl ⟨by grind,(fS _).2 h⟩
  ·exact .inr (.inl ⟨by grind,by grind,by rw[h];rfl⟩)
  ·exact .inr (.inr ⟨by grind,by grind,(fS _).1 h⟩)
 clear ac;generalize (x-y).num.sign=D at *;obtain⟨W,eW,t,X⟩:=bI w [.bool s1,.slice A1 k1 c1,.bool s2,.slice A2 k2 c2,.bool s3,.slice A3 k3 c3,.bool s4,.slice A4 k4 c4] 51;have cM:=X.g8;go_enter func18,ntmps18;go_wp2_with fail;(try rw[eW]);clear eW;refine(P _ _ _ (V.be t) (hy.be t)).mono ?_;rintro e1 w1 ⟨rfl,ae⟩;have:=St.mk ae;have ad:=(X.up (b:=w1)).k8;go_wp2_with fail;refine(t1 _ _ (hv.be t).up (V.be t).up).mono ?_;rintro e2 w2 ⟨v2,rfl,G,af⟩;have:=St.mk af;go_wp2_with fail;refine(K _ _ G).mono ?_;rintro e3 w3 ⟨rfl,ag⟩;have:=St.mk ag;have j:=X.up (b:=w3);have ai:=j.k8;have d:=bJ (b:=w3) t;have U:=hv.be d;have ah:=V.be d;have Y:=hy.be d;clear P t1 K ad G;rcases hD with ⟨k,rfl⟩|⟨k,B,rfl⟩|⟨k,B,rfl⟩
 ·rw[if_pos k] at g;have n:=aB g;clear g k;by_cases r:F=0
  ·subst r;have i:Hid (T=false):=by unfold Hid;rw[n.out];simp
   clear n;go_wp2_with fail;go_quiet (fail);go_wp2;go_ret;exact⟨by rw[i.out];rfl,d.os,d.tape,d.output,d.size,d.block⟩
  ·have q0:(F==0)=false:=by simpa using r
   by_cases H:Sy=0
   ·subst H;have i:Hid (T=false):=by unfold Hid;rw[n.out];simp
    clear n r;go_wp2_with fail
    first
     |(go_region_with (first
          |(go_at_call 47;refine(t2 _ _ U.up Y.up).mono ?_;rintro o a ⟨v7,rfl,M,f⟩;have:=St.mk f;have p:=(j.up (b:=a)).k8;have m:=bJ (b:=a) d)
          |(go_at_call 34;refine(L _ _ M.up).mono ?_;rintro o a ⟨rfl,f⟩;have:=St.mk f;have p:=(j.up (b:=a)).k8;have m:=bJ (b:=a) d))
       all_goals (
        go_wp2;go_ret;exact⟨by rw[i.out];rfl,m⟩))
     |fail
   ·have q1:(Sy != 0)=true:=by simpa using H
    have i:Hid (T=(N==1)):=by unfold Hid;rw[n.out,decide_eq_false r,decide_eq_false H];by_cases h:N=1<;>simp[h]
    clear n r H;go_wp2_with fail
    go_region_held3 (fun w'=>C8 w' w.1.size (.bool s1) (.slice A1 k1 c1) (.bool s2) (.slice A2 k2 c2) (.bool s3) (.slice A3 k3 c3) (.bool s4) (.slice A4 k4 c4)) (with_reducible exact j.up.k8)
     (first
      |(go_at_call 47;refine(t2 _ _ U.up Y.up).mono ?_;rintro o a ⟨v7,rfl,M,f⟩;have:=St.mk f;have p:=(j.up (b:=a)).k8;have m:=bJ (b:=a) d)
      |(go_at_call 34;refine(L _ _ M.up).mono ?_;rintro o a ⟨rfl,f⟩;have:=St.mk f;have p:=(j.up (b:=a)).k8;have m:=bJ (b:=a) d)
      |(go_at_call 49;(first|((with_reducible refine(E1 _ _ ah.up).mono ?_);rintro o a ⟨v8,rfl,h8,f⟩)|((with_reducible refine(E2 _ _ Y.up).mono ?_);rintro o a ⟨v9,rfl,h9,f⟩));have:=St.mk f;have p:=(j.up (b:=a)).k8;have m:=bJ (b:=a) d)
      |(go_at_call 48;refine(Q _ _ _ _ U.up h8.up h9.up).mono ?_;rintro o a ⟨rfl,f⟩;have:=St.mk f;have p:=(j.up (b:=a)).k8;have m:=bJ (b:=a) d)
      |fail)
    all_goals (
     go_wp2;go_ret;exact⟨by rw[i.out];rfl,m⟩)
 ·rw[if_neg k] at g;have i:Hid (T=(F==0)):=by unfold Hid;rw[g,decide_eq_true B,Bool.true_and];by_cases h:F=0<;>simp[h]
  clear g k B;go_wp2;go_ret;exact⟨by rw[i.out];rfl,d⟩
 ·rw[if_neg k] at g;have i:Hid (T=false):=by unfold Hid;rw[g,decide_eq_false B,Bool.false_and]
  clear g k B;go_wp2;go_ret;exact⟨by rw[i.out];rfl,d⟩
def M6(f:List (List UInt8))(w0 s:List Int)(c:List (List Int))(a b:List UInt8)(hC:dM f=0->Prp (aU f) w0∧CnZ w0 s c)(v:Value)(w:World)(hv:StrsAt w v f)(hl:f.length<=7)(hs:∀l∈f,l.length<=6)(la:EdT a)(lb:EdT b):
  Calls prog 33 #[v,.agg #[.string ⟨a.toArray⟩,.string ⟨b.toArray⟩]] w fun e w'=>e= .returned (.bool (qY f s c a b))∧Below w.1.size w w':=by
 obtain⟨A,c0,rfl,al⟩:=hv.form;have O:=fun W h=>L5 f (.slice A f.length c0) W h hl hs;have ac:=fun W=>MF a b W la.1 lb.1;have ae:∀q∈aU f,RL 1 q:=pI (fun l hl=>aH (hs l hl) (by decide));have ak:(aU f).length=f.length:=cH _;have af:=DC f;have p:Hid (qY f s c a b=(decide (dM f=0)&&mB s a b (fF s c 0 ((bD a).getD 0) 0 ((bD b).getD 0)))):=rfl;unfold yA at O;unfold yR at ac;obtain⟨Z,hZ⟩:∃Z,qY f s c a b=Z:=⟨_,rfl⟩;rw[hZ] at p⊢;obtain⟨E,hE⟩:∃E,dM f=E:=⟨_,rfl⟩;rw[hE] at O af hC p;clear hZ hE;obtain⟨rr,i⟩:∃r,(rd a&&rd b)=r:=⟨_,rfl⟩;rcases af with ⟨rfl, -, -,hQ⟩|⟨rfl, -, -⟩|⟨rfl, -, -⟩
 ·obtain⟨pA,hZ⟩:=hC rfl;rw[hQ] at O;clear hC;cases rr with
  |false=>
   have F:Hid (Z=false):=by unfold Hid;rw[p.out];unfold mB;rw[i];rfl
   clear p;obtain⟨W,n,o,X⟩:=bI w [.string ⟨a.toArray⟩,.string ⟨b.toArray⟩] 24;have cM:=X.g2;go_enter func33,ntmps33;go_wp2_with fail;(try rw[n]);clear n;refine(O _ (hv.be o)).mono ?_;rintro e1 w1 ⟨v1,rfl,g,L⟩;have:=St.mk L;obtain⟨j,k,rfl, -⟩:=g.form;have ad:=(X.up (b:=w1)).k2;go_wp2_with fail;refine(ac _).mono ?_;rintro e2 w2 ⟨v2,x,y,rfl,J,t,z,M⟩;have:=St.mk M;rw[i];obtain⟨Y,j,S,k,s2,B,T,G,s3,C,U,H,s4,D,V,I,rfl,Q,R⟩:=J;obtain⟨d,m,N,P⟩:=bI w2 [.bool Y,.slice j S k,.bool s2,.slice B T G,.bool s3,.slice C U H,.bool s4,.slice D V I] 51;have:=St.mk N;have cP:=P.k8;have K:=bJ (b:=d) o;replace g:=g.up (b:=d);have h3:=IvN.of (Q.up (b:=d)) (R.up (b:=d));clear t z i;go_wp2_with fail;(try rw[m]);(try clear m);go_ret;exact⟨by rw[F.out];rfl,K⟩
  |true=>
   rw[az7] at i;obtain⟨q1,q2⟩:=i;have F:Hid (Z=qZ (aU f) ((bD a).getD 0) ((bD b).getD 0) (fF s c 0 ((bD a).getD 0) 0 ((bD b).getD 0))):=by
    unfold Hid;rw[p.out,M4 pA hZ];unfold mB;rw[q1,q2];rfl
   have i:(rd a&&rd b)=true:=by rw[q1,q2];rfl
   have kx:=bU (la.2 q1) (show 20000000<=250000000 by decide);have ky:=bU (lb.2 q2) (show 20000000<=250000000 by decide);have aj:=fun W v u h h'=>M5 (aU f) w0 s c ((bD a).getD 0) ((bD b).getD 0) v u W h h' pA hZ ae (by omega) kx ky;have ag:∀x,(∀r,bD a=some r->x=r)->x=(bD a).getD 0:=fun x h=>by
    obtain⟨q,hq⟩:=Option.isSome_iff_exists.1 q1;rw[hq];exact h q hq
   have ah:∀x,(∀r,bD b=some r->x=r)->x=(bD b).getD 0:=fun x h=>by
    obtain⟨q,hq⟩:=Option.isSome_iff_exists.1 q2;rw[hq];exact h q hq
   clear p q1 q2 kx ky pA hZ ae ak;generalize (bD a).getD 0=x0 at *;generalize (bD b).getD 0=y0 at *;obtain⟨W,n,o,X⟩:=bI w [.string ⟨a.toArray⟩,.string ⟨b.toArray⟩] 24;have cM:=X.g2;go_enter func33,ntmps33;go_wp2_with fail;(try rw[n]);clear n;refine(O _ (hv.be o)).mono ?_;rintro e1 w1 ⟨v1,rfl,g,L⟩;have:=St.mk L;obtain⟨j,k,rfl, -⟩:=g.form;have ad:=(X.up (b:=w1)).k2;go_wp2_with fail;refine(ac _).mono ?_;rintro e2 w2 ⟨v2,x,y,rfl,J,t,z,M⟩;have:=St.mk M;rw[i];obtain⟨Y,j,S,k,s2,B,T,G,s3,C,U,H,s4,D,V,I,rfl,Q,R⟩:=J;obtain⟨d,m,N,P⟩:=bI w2 [.bool Y,.slice j S k,.bool s2,.slice B T G,.bool s3,.slice C U H,.bool s4,.slice D V I] 51;have:=St.mk N;have cP:=P.k8;have K:=bJ (b:=d) o;replace g:=g.up (b:=d);have h3:=IvN.of (Q.up (b:=d)) (R.up (b:=d));obtain rfl:=ag x t;obtain rfl:=ah y z;clear t z i ag ah;go_wp2_with fail;(try rw[m]);(try clear m);refine(aj _ _ _ g h3).mono ?_;rintro e4 w4 ⟨rfl,ai⟩;have:=St.mk ai;go_wp2;go_ret;exact⟨by rw[F.out];rfl,bJ (b:=w4) K⟩
 ·skip;have F:Hid (Z=false):=by unfold Hid;rw[p.out];rfl
  clear p hC;obtain⟨W,n,o,X⟩:=bI w [.string ⟨a.toArray⟩,.string ⟨b.toArray⟩] 24;have cM:=X.g2;go_enter func33,ntmps33;go_wp2_with fail;(try rw[n]);clear n;refine(O _ (hv.be o)).mono ?_;rintro e1 w1 ⟨v1,rfl,g,L⟩;have:=St.mk L;obtain⟨j,k,rfl, -⟩:=g.form;have ad:=(X.up (b:=w1)).k2;go_wp2_with fail;refine(ac _).mono ?_;rintro e2 w2 ⟨v2,x,y,rfl,J,t,z,M⟩;have:=St.mk M;rw[i];obtain⟨Y,j,S,k,s2,B,T,G,s3,C,U,H,s4,D,V,I,rfl,Q,R⟩:=J;obtain⟨d,m,N,P⟩:=bI w2 [.bool Y,.slice j S k,.bool s2,.slice B T G,.bool s3,.slice C U H,.bool s4,.slice D V I] 51;have:=St.mk N;have cP:=P.k8;have K:=bJ (b:=d) o;replace g:=g.up (b:=d);have h3:=IvN.of (Q.up (b:=d)) (R.up (b:=d));clear t z i;go_wp2_with fail;(try rw[m]);(try clear m);go_ret;exact⟨by rw[F.out];rfl,K⟩
 ·skip;have F:Hid (Z=false):=by unfold Hid;rw[p.out];rfl
  clear p hC;obtain⟨W,n,o,X⟩:=bI w [.string ⟨a.toArray⟩,.string ⟨b.toArray⟩] 24;have cM:=X.g2;go_enter func33,ntmps33;go_wp2_with fail;(try rw[n]);clear n;refine(O _ (hv.be o)).mono ?_;rintro e1 w1 ⟨v1,rfl,g,L⟩;have:=St.mk L;obtain⟨j,k,rfl, -⟩:=g.form;have ad:=(X.up (b:=w1)).k2;go_wp2_with fail;refine(ac _).mono ?_;rintro e2 w2 ⟨v2,x,y,rfl,J,t,z,M⟩;have:=St.mk M;rw[i];obtain⟨Y,j,S,k,s2,B,T,G,s3,C,U,H,s4,D,V,I,rfl,Q,R⟩:=J;obtain⟨d,m,N,P⟩:=bI w2 [.bool Y,.slice j S k,.bool s2,.slice B T G,.bool s3,.slice C U H,.bool s4,.slice D V I] 51;have:=St.mk N;have cP:=P.k8;have K:=bJ (b:=d) o;replace g:=g.up (b:=d);have h3:=IvN.of (Q.up (b:=d)) (R.up (b:=d));clear t z i;go_wp2_with fail;(try rw[m]);(try clear m);go_ret;exact⟨by rw[F.out];rfl,K⟩
def bqO{L:Rat}(hi:pS s x y (fF s c 0 x 0 y)=true)(i:0<L)(b:azN (fun z=>aP s 0 z) L n x y=Q)(d:y-x<=L*2^n)(f:RL K x):NrR s c x (y-x) L n Q (aP s 0 x) K n x y:=by
 unfold pS at hi;by_cases a:x<y
 ·rw[if_pos a,az7,iQ,iQ] at hi;obtain⟨g,h⟩:=bqG x (y-x);refine .inr ⟨a,fun e=> ?_,hi.2,b,d,rfl,0,0,bA n,aE,g.symm,by rw[h];grind⟩;rw[e,bxB] at hi;omega
 ·rw[if_neg a,az7,iQ,iQ] at hi;obtain rfl:=hi.1;exact .inl ⟨rfl,by rw[<-b,byW (by grind)],f⟩
def bqP(d:List (List UInt8))(w0 s:List Int)(c:List (List Int))(a b t:List UInt8)(n:Nat)(Q:Rat×Rat)(E:Int)(p:List UInt8×List UInt8)(C:dM d=0->Prp (aU d) w0∧CnZ w0 s c)(hD:RfD d s c a b t n Q E p)(v:Value)(w:World)(hv:StrsAt w v d)(hl:d.length<=7)(hs:∀l∈d,l.length<=6)(la:EdT a)(lb:EdT b)(lt:t.length<=18):
  Calls prog 11 #[v,.agg #[.string ⟨a.toArray⟩,.string ⟨b.toArray⟩],.string ⟨t.toArray⟩] w (bxU w E p):=by
 obtain⟨A,cc,rfl,bm⟩:=hv.form;have af:=fun W h=>L5 d (.slice A d.length cc) W h hl hs;have ah:=fun W=>CE t W (by omega);have Y:=fun W h=>M6 d w0 s c a b C (.slice A d.length cc) W h hl hs la lb;have D:=fun W=>MF a b W la.1 lb.1;have ap:∀q∈aU d,RL 1 q:=pI (fun l hl=>aH (hs l hl) (by decide));have ax:(aU d).length=d.length:=cH _;have aq:=uL d;have i:Hid (qY d s c a b=(decide (dM d=0)&&mB s a b (fF s c 0 ((bD a).getD 0) 0 ((bD b).getD 0)))):=rfl;have bh:(bD t).isSome=rd t:=rfl;have ag:rd t=true->bD t=some (azQ t):=fun h=>by
  obtain⟨q,hq⟩:=Option.isSome_iff_exists.1 h;unfold azQ;rw[hq];rfl
 have aj:qY d s c a b=true->rd a=true∧rd b=true:=fun f=>by
  unfold qY mB at f;simp only[az7] at f;exact⟨f.2.1.1,f.2.1.2⟩
 have av:rd a=true->bD a=some ((bD a).getD 0):=fun h=>by
  obtain⟨q,hq⟩:=Option.isSome_iff_exists.1 h;rw[hq];rfl
 have aw:rd b=true->bD b=some ((bD b).getD 0):=fun h=>by
  obtain⟨q,hq⟩:=Option.isSome_iff_exists.1 h;rw[hq];rfl
 unfold yA at af;unfold JH at ah;unfold yR at D;obtain⟨db,dn,dk⟩:=hD;have G:rd t=true->RL 1 (azQ t):=fun h2=>tS (ag h2) lt;obtain⟨Z,hZ⟩:∃Z,qY d s c a b=Z:=⟨_,rfl⟩;obtain⟨F,hF⟩:∃F,dM d=F:=⟨_,rfl⟩;obtain⟨o,ho⟩:∃o,rd t=o:=⟨_,rfl⟩;rw[hZ] at i db dn dk aj;rw[hF] at af aq C i;rw[ho] at ah db dn dk G ag;simp only[hZ] at Y;clear hZ hF ho bh;unfold bxU;generalize azQ t=L at *;have B:=aB db;have M:=aB dn;have K:=aB dk;have U:=aB ag;have J:=aB aj;have O:=aB av;have T:=aB aw;clear db dn dk ag aj av aw;obtain⟨W,eW,e,X,R⟩:=eL w [.string ⟨a.toArray⟩,.string ⟨b.toArray⟩] 24 [.string ⟨#[]⟩,.string ⟨#[]⟩] 24;have V:=aa X.g2 R.g2;go_enter func11,ntmps11;go_wp2_with fail;(try rw[eW]);clear eW;refine(af _ (hv.be e)).mono ?_;rintro e1 w1 ⟨v1,rfl,f,a5⟩;obtain⟨A1,c1,rfl,bk⟩:=f.form;have:=St.mk a5;replace X:=X.up (b:=w1);replace R:=R.up (b:=w1);replace e:=bJ (b:=w1) e;have V:=aa X.k2 R.g2;go_wp2_with fail;refine(ah _).mono ?_;rintro e3 w3 ⟨v3,I,rfl,r,au,a9⟩;obtain⟨s3,A3,k3,c3,s4,A4,k4,c4,rfl⟩:=r.form;obtain⟨w4,H,ba,P⟩:=bI w3 [.bool s3,.slice A3 k3 c3,.bool s4,.slice A4 k4 c4] 42;have:=St.mk a9;have:=St.mk ba;replace X:=X.up (b:=w4);replace R:=R.up (b:=w4);replace e:=bJ (b:=w4) e;replace r:=r.up (b:=w4);replace f:=f.up (b:=w4);have V:=aa X.k2 (aa R.g2 P.k4);have N:=aB au;clear af ah au;rcases aq with ⟨rfl,a0,h0⟩|⟨rfl, -⟩|⟨rfl, -, -⟩;rotate_left
 ·obtain⟨rfl,rfl⟩:=B.out (by rw[i.out];rfl);cases o
  all_goals (
   clear Y D B M K i U J O T N C G;go_wp2_with fail;(try rw[H]);(try clear H);obtain⟨W6,m,j,z,hk,ff⟩:=R.mut2 e (by omega) (.string ⟨#[]⟩) (.string ⟨#[]⟩) rfl rfl;rw[m];exact aM (v:= .tuple #[.agg #[.string ⟨#[]⟩,.string ⟨#[]⟩],.int .i64 1]) (by simp[results,results11,go_sem,j.k2]) rfl ⟨rfl,z⟩
  )
 ·obtain⟨rfl,rfl⟩:=B.out (by rw[i.out];rfl);cases o
  all_goals (
   clear Y D B M K i U J O T N C G;go_wp2_with fail;(try rw[H]);(try clear H);obtain⟨W6,m,j,z,hk,ff⟩:=R.mut2 e (by omega) (.string ⟨#[]⟩) (.string ⟨#[]⟩) rfl rfl;rw[m];exact aM (v:= .tuple #[.agg #[.string ⟨#[]⟩,.string ⟨#[]⟩],.int .i64 1]) (by simp[results,results11,go_sem,j.k2]) rfl ⟨rfl,z⟩
  )
 cases o with
 |false=>
  obtain⟨rfl,rfl⟩:=B.out (by rw[Bool.and_false]);clear Y D B M K i U J O T N C G;go_wp2_with fail;(try rw[H]);(try clear H);obtain⟨W6,m,j,z,hk,ff⟩:=R.mut2 e (by omega) (.string ⟨#[]⟩) (.string ⟨#[]⟩) rfl rfl;rw[m];exact aM (v:= .tuple #[.agg #[.string ⟨#[]⟩,.string ⟨#[]⟩],.int .i64 1]) (by simp[results,results11,go_sem,j.k2]) rfl ⟨rfl,z⟩
 |true=>
  obtain rfl:=N.out _ (U.out rfl);replace G:=G rfl;go_wp2_with fail;(try rw[H]);(try clear H);refine(Y _ (hv.be e)).mono ?_;rintro e5 w5 ⟨rfl,bb⟩;have:=St.mk bb;replace X:=X.up (b:=w5);replace R:=R.up (b:=w5);replace P:=P.up (b:=w5);replace e:=bJ (b:=w5) e;replace r:=r.up (b:=w5);replace f:=f.up (b:=w5);have V:=aa X.k2 (aa R.g2 P.k4);cases Z with
  |false=>
   obtain⟨rfl,rfl⟩:=B.out rfl;clear Y D B M K i U J O T N C;go_wp2_with fail;obtain⟨W6,m,j,z,hk,ff⟩:=R.mut2 e (by omega) (.string ⟨#[]⟩) (.string ⟨#[]⟩) rfl rfl;rw[m];exact aM (v:= .tuple #[.agg #[.string ⟨#[]⟩,.string ⟨#[]⟩],.int .i64 1]) (by simp[results,results11,go_sem,j.k2]) rfl ⟨rfl,z⟩
  |true=>
   have al:=fun W u h=>oC I u W h (aH G.1 (by decide));unfold eO at al;have ay:I.num.sign<=0↔I<=0:=by
    rcases iY I with h|h|h
    ·rw[(fS _).2 h];exact⟨fun _=>by grind,fun _=>by decide⟩
    ·rw[h];exact⟨fun _=>by decide,fun _=>by decide⟩
    ·rw[(fS _).1 h];exact⟨fun k=>absurd k (by decide),fun k=>by grind⟩
   have ad:=aB ay;clear ay Y;generalize I.num.sign=SL at *;go_wp2_with fail;refine(al _ _ r).mono ?_;rintro e8 w8 ⟨rfl,bc⟩;have:=St.mk bc;replace X:=X.up (b:=w8);replace R:=R.up (b:=w8);replace P:=P.up (b:=w8);replace e:=bJ (b:=w8) e;replace r:=r.up (b:=w8);replace f:=f.up (b:=w8);have V:=aa X.k2 (aa R.g2 P.k4);clear al;by_cases ai:SL<=0
   ·obtain⟨rfl,rfl⟩:=M.out rfl (ad.out.1 ai);clear D B M K i U J O T N C;go_wp2_with fail;obtain⟨W6,m,j,z,hk,ff⟩:=R.mut2 e (by omega) (.string ⟨#[]⟩) (.string ⟨#[]⟩) rfl rfl;rw[m];exact aM (v:= .tuple #[.agg #[.string ⟨#[]⟩,.string ⟨#[]⟩],.int .i64 3]) (by simp[results,results11,go_sem,j.k2]) rfl ⟨rfl,z⟩
   ·have ae:0<I:=by
     rcases iY I with h|h|h
     ·exact absurd (ad.out.2 (by grind)) ai
     ·exact absurd (ad.out.2 (by grind)) ai
     ·exact h
    obtain⟨rfl,rfl,hQ,hf,hp⟩:=K.out rfl ae;obtain⟨pA,hZ⟩:=C (by trivial);obtain⟨ra,rb⟩:=J.out (by trivial);have ar:pS s ((bD a).getD 0) ((bD b).getD 0) (fF s c 0 ((bD a).getD 0) 0 ((bD b).getD 0))=true:=by
     have h:=i.out;unfold mB at h;rw[ra,rb] at h;exact h.symm
    have az:=bqO ar ae hQ hf (bU (la.2 ra) (show 20000000<=160000010 by decide));have HQ:Hid (oP d=aU d):=tW a0;rw[HQ.out,ax] at f;have bg:(oP d).length=(aU d).length:=by rw[HQ.out]
    have ak:=fun v u g W h k1 k2=>cxD (aU d) w0 s c ((bD a).getD 0) ((bD b).getD 0) I n 160000010 Q _ v u g W h pA hZ ap (by omega) k1 k2 ae az hp (bU G (by decide)) (by decide);have a1:=fun v W h (k1:RL 160000010 Q.1) (k2:RL 160000010 Q.2)=>ME Q.1 Q.2 v W h 160000010 k1 k2 (by decide);have RA:=aB (O.out ra);have RB:=aB (T.out rb);unfold bqJ at ak;rw[ra,rb] at D;clear B M K ad i U J O T N C hQ hf hp ae ar az pA hZ G ap ra rb bg a0 h0;rw[HQ.out,ax] at *;generalize (bD a).getD 0=x at *;generalize (bD b).getD 0=y at *;go_wp2_with fail;refine(D _).mono ?_;rintro e9 w9 ⟨v9,x',y',rfl,⟨s5,A5,k5,c5,s6,A6,k6,c6,s7,A7,k7,c7,s8,A8,k8,c8,rfl,am,an⟩,gx,gy,bf⟩;obtain rfl:=gx _ RA.out;obtain rfl:=gy _ RB.out;obtain⟨ac,ao,a6,S⟩:=bI w9 [.bool s5,.slice A5 k5 c5,.bool s6,.slice A6 k6 c6,.bool s7,.slice A7 k7 c7,.bool s8,.slice A8 k8 c8] 51;have:=St.mk bf;have:=St.mk a6;replace R:=R.up (b:=ac);replace P:=P.up (b:=ac);replace e:=bJ (b:=ac) e;replace r:=r.up (b:=ac);replace f:=f.up (b:=ac);replace am:=am.up (b:=ac);replace an:=an.up (b:=ac);have V:=aa R.g2 (aa P.k4 S.k8);clear gx gy D RA RB;go_wp2_with fail;(try rw[ao]);(try clear ao);refine(ak _ _ _ _ f (IvN.of am an) r).mono ?_;rintro bi a2 ⟨bn,rfl,a4,q1,q2,a7⟩;have:=St.mk a7;replace R:=R.up (b:=a2);replace e:=bJ (b:=a2) e;have V:=R.g2;clear ak;go_wp2_with fail;refine(a1 _ _ a4 q1 q2).mono ?_;rintro bj a3 ⟨rfl,a8⟩;have:=St.mk a8;replace R:=R.up (b:=a3);replace e:=bJ (b:=a3) e;have V:=R.g2;clear a1;go_wp2_with fail;obtain⟨W6,m,j,z,hk,ff⟩:=R.mut2 e (by omega) (.string ⟨(cW Q.1).toArray⟩) (.string ⟨(cW Q.2).toArray⟩) rfl rfl;rw[m];exact aM (v:= .tuple #[.agg #[.string ⟨(cW Q.1).toArray⟩,.string ⟨(cW Q.2).toArray⟩],.int .i64 0]) (by simp[results,results11,go_sem,j.k2]) rfl ⟨rfl,z⟩
def LY:bD [48]=some 0:=by decide
def ayM:bD [49]=some 1:=by decide
def ayN:bD [45,50]=some (-2):=by decide
