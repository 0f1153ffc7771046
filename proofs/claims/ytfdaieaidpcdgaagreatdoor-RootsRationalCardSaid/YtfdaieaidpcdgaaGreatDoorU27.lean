/- Laws. -/
import Derived.Test.YtfdaieaidpcdgaaGreatDoorU25
import Derived.Test.YtfdaieaidpcdgaaGreatDoorU26
set_option linter.all false
set_option maxHeartbeats 8000000
set_option maxRecDepth 99999
namespace Go.Proofs.YtfdaieaidpcdgaaGreatDoor
open Go.RowKit Sos Tryz
variable{B K:Nat}{a b:List Int}{c x:Rat}{C:List (List Rat)}{A R S:List Rat}{W w w':World}{v:Value}{f:Bool}
def DB(p:List Rat)(v:Value)(w:World)(hv:QsAt w v p)(K:Nat)(t:∀q∈p,RL K q)(i:1<=K)(L:p≠[]->cf p (p.length-1)≠0)(S:p.length<=1024)(ac:K<=60000000000):
  Calls prog 116 #[v] w (lT w (oQ p)):=by
 obtain⟨A,c,rfl,hc⟩:=hv.form;go_enter func116,ntmps116;by_cases d:p.length=0
 ·have f:Hid (oQ p=[]):=by
   have:p=[]:=bX d;rw[this];rfl
  have Y:((p.length:Int)==0)=true:=by rw[d];rfl
  clear d;go_wp2;go_ret;exact⟨_,rfl,by rw[f.out];exact QsAt.nil _,aG _ _⟩
 ·have Y:((p.length:Int)==0)=false:=by simpa using d
  obtain⟨l,k⟩:∃l,p.length-1=l:=⟨_,rfl⟩;have af:(p.length:Int)-1=(l:Int):=by omega
  have T:l<p.length:=by omega
  have ad:(0:Int)<=(l:Int):=by omega
  have ae:(l:Int)<(p.length:Int):=by omega
  have ag:IntKind.i64.wrap (l:Int)=(l:Int):=IntWalk.i64_in _ ⟨by omega,by omega⟩;have m:=L (fun e=>d (by rw[e];rfl));obtain⟨F,Z,D,V,G,s4,E,X,H,rfl,Q,I,R⟩:=hv.cell T;have f:Hid (aW aV (oA [] (1/cf p l) p)=oQ p):=by unfold Hid oQ;rw[k]
  rw[k] at m;have o:RL K (cf p l):=lV t (iG i) l;have j:RL K 1:=bU (az3 (n:=1) (by decide)) i;have C:∀W,Calls prog 122 #[.int .i64 1] W (eS W 1):=fun W=>r7 1 W (by decide);have z:=fun W u v h g=>vD 1 (cf p l) u v W h g K j o (by omega) m;have B:=fun W u v x h g J=>KX [] (1/cf p l) p u v x W h g J K (K+K) (fun q U=>by cases U) t (xS j o) i (by simp) S (by omega);rw[f.out] at B;unfold eS at C z;clear m o d k j;generalize cf p l=x at *;generalize 1/x=y at *;go_wp2_with fail
  go_region_held3 (fun w'=>R4 w' F (l*4) (.bool Z) (.slice D V G) (.bool s4) (.slice E X H))
   (with_reducible exact I.up Q)
   (first
    |(go_at_call 122;refine(C _).mono ?_;rintro e5 w5 ⟨v5,rfl,r,N⟩;obtain⟨s5,A5,k5,c5,s6,A6,k6,c6,rfl⟩:=r.form;have:=St.mk N)
    |(go_at_call 80;refine(z _ _ _ r.up R.up).mono ?_;rintro e7 w7 ⟨v7,rfl,s,O⟩;obtain⟨s7,A7,k7,c7,s8,A8,k8,c8,rfl⟩:=s.form;have:=St.mk O)
    |(go_at_call 163;refine(B _ _ _ _ (QsAt.nil _) s.up hv.up).mono ?_;rintro e9 w9 ⟨v9,rfl,M,P⟩;have:=St.mk P))
  all_goals (
   go_wp2;go_ret;exact⟨_,rfl,M,Up.out (a:=w) (b:=w9)⟩)
def ZI(m:List Int->List Int->List Int->Prop)(z:Nat)(aj:∀{a g:List Int},m a [] g->aN a->cE a=cE g)(am:∀{A c Q R:List Rat} {a b g:List Int},Prp A a->Prp c b->b≠[]->m a b g->DivQ A c Q R->∃d,Prp R d∧m b d g∧(∀n∈d,nl n.natAbs<=z)∧d.length<b.length)(A c:List Rat)(a b g:List Int)(va vb:Value)(w:World)(l:QsAt w va A)(i:QsAt w vb c)(Y:Prp A a)(Z:Prp c b)(T:m a b g)(K:Nat)(G:∀q∈A,RL K q)(H:∀q∈c,RL K q)(ad:z<=K)(an:1<=z)(x:A.length<=8)(y:c.length<=8)(hK:K<=10000000):
  Calls prog 114 #[va,vb] w (lT w (cE g)):=by
 go_enter func114,ntmps114;go_wp2_with fail;go_loopg [0,1] c.length (fun k v0 v1 wr=>∃(A c:List Rat) (a b:List Int),Hid (c.length=k)∧QsAt wr v0 A∧QsAt wr v1 c∧Hid (Prp A a∧Prp c b∧m a b g)∧Hid ((∀q∈A,RL K q)∧∀q∈c,RL K q)∧A.length<=8∧c.length<=8∧Below w.1.size w wr)
 case atStart=>exact⟨A,c,a,b,rfl,l,i,⟨Y,Z,T⟩,⟨G,H⟩,x,y,aG _ _⟩
 case round=>
  clear l i Y Z T G H x y;clear A c a b;obtain⟨A,c,a,b,s,l,i,f,p,x,y,j⟩:=hrel;generalize wr=wx at *;obtain⟨A1,c1,rfl,aq⟩:=l.form;obtain⟨A2,c2,rfl,ar⟩:=i.form;cases gk with
  |zero=>
   have q0:¬(0:Int)<(c.length:Int):=by have:=s.out;omega
   have B:Hid (oQ A=cE g):=by
    have ah:b=[]:=bX (by rw[<-f.out.2.1.1];exact s.out);have t:=f.out.2.2;rw[ah] at t;exact(qT f.out.1).trans (aj t f.out.1.2.1)
   have r:=fun W h=>DB A (.slice A1 A.length c1) W h K p.out.1 (by omega) (fun e=>f.out.1.ne (fun C=>e (bX (by rw[f.out.1.1,C];rfl)))) (by omega) (by omega);rw[B.out] at r;go_wp2_with fail;refine(r _ l).mono ?_;rintro e3 w3 ⟨v3,rfl,t,ag⟩;go_wp2;go_ret;exact⟨_,rfl,t,aC j ag⟩
  |succ k=>
   have q0:(0:Int)<(c.length:Int):=by have:=s.out;omega
   have ae:1<=c.length:=by omega
   have M:b≠[]:=fun e=>by
    have h:=f.out.2.1.1;rw[e] at h;have D:c.length=0:=h;omega
   have ai:=JY K A.length;have V:2^A.length<=2^8:=cO (by decide) x;have al:=aqK V (show 3*K+1<=30000001 by omega);have P:=fun W u v h D=>L3 A c u v W h D K p.out.1 p.out.2 (by omega) (by omega) ae (f.out.2.1.ne M) 16000000000 (by omega) (by decide);have r:=fun (R:List Rat) W v h hR hl h0=>DB R v W h 16000000000 hR (by decide) h0 hl (by decide);clear ai V al;go_wp2_with fail;refine(P _ _ _ l i).mono ?_;rintro e4 w4 ⟨v4,u4,Q,R,rfl,h4,X,F,af,J,ao,ap,N⟩;obtain⟨d,o,L,U,S⟩:=am f.out.1 f.out.2.1 M f.out.2.2 F;have I:R≠[]->cf R (R.length-1)≠0:=fun e=>o.ne (fun C=>e (bX (by rw[o.1,C];rfl)));replace i:=i.be N;replace j:=aC j N;have B:=aB (qT o);have HN:Hid (Prp c b∧Prp (cE d) d∧m b d g):=⟨f.out.2.1,uD o.2.1,L⟩;have ak:(cE d).length=d.length:=(uD o.2.1).1;have au:d.length<c.length:=by rw[f.out.2.1.1];exact S
   have ac:Hid ((∀q∈c,RL K q)∧∀q∈cE d,RL K q):=⟨p.out.2,CU (fun n hn=>aH (U n hn) ad) (by omega)⟩;clear P F af l o L U S f p h4;go_wp2_with fail;refine(r R _ _ X J (by omega) I).mono ?_;rintro e5 w5 ⟨v5,rfl,E,O⟩;rw[B.out] at E;replace i:=i.be O;replace j:=aC j O;clear r X J I;go_wp2;go_roundg d.length
   case rel=>exact⟨c,cE d,b,d,by unfold Hid;exact ak,i,E,HN,ac,y,by omega,j⟩
   case measure=>have:=s.out;omega
def ZJ(c:Nat)(A d:List Rat)(a b g:List Int)(i j:Value)(w:World)(e:QsAt w i A)(f:QsAt w j d)(v:Prp A a)(x:Prp d b)(T:Trc c a b g)(K:Nat)(o:∀q∈A,RL K q)(p:∀q∈d,RL K q)(k:c<=K)(l:1<=c)(s:A.length<=8)(u:d.length<=8)(n:K<=10000000):
  Calls prog 114 #[i,j] w (lT w (cE g)):=
 ZI (Trc c) c (fun h t=>h.done t) (fun e f r h m=>XN e f r h m) A d a b g i j w e f v x T K o p k l s u n
def ZN(w:World):Calls prog 73 #[.int .i64 (-1)] w (nN w (-1)):=by
 have z:IntKind.u64.wrap (-1)=18446744073709551615:=by decide
 have A:IntKind.u64.wrap (-18446744073709551615)=1:=by decide
 have b:(1:Int)%4294967296=1:=by decide
 have C:(1:Int)/4294967296=0:=by decide
 obtain⟨W,h,a,R⟩:=bI w [.bool false,.slice none 0 0] 106;have c:=R.g2;go_enter func73,ntmps73;go_wp2_with fail;(try rw[h]);clear h;obtain⟨s,g,j,B⟩:=bI W [.int .u32 1,.int .u32 0] 153;rw[g];clear g;have l:=oW [1,0] W.1.size 1 2 s B (fun d p=>by simp at p;unfold aD;omega) (by simp[nv]) aE (by simp);simp only[eG,azS] at l;refine l.mono ?_;rintro u E ⟨v,rfl,r,rfl⟩;replace R:=R.be j;replace c:=R.g2;replace a:=aC a j;go_wp2_with fail;refine(pU true v 1 (-1) _ r (aH (cJ (m:=1) (by unfold BN;omega)) (by decide)) rfl (by simp)).mono ?_;rintro x F ⟨D,rfl,b,k⟩;obtain⟨o,e,n,f,rfl⟩:=b.form;replace R:=R.be k;replace c:=R.g2;replace a:=aC a k;go_wp2_with fail;obtain⟨t,i,R,a,q,y⟩:=R.mut2 a (by omega) (.bool o) (.slice e n f) rfl rfl;replace b:=b.ke q;rw[i];clear i;replace c:=R.k2;exact aM (v:= .agg #[.bool o,.slice e n f]) (by simp[results,results73,go_sem,R.k2]) rfl ⟨_,rfl,b,a⟩
def ZO(w:World):Calls prog 122 #[.int .i64 (-1)] w (eS w (-1)):=by
 have d:Hid ((-1:Rat).num= -1∧bS (-1:Rat)=0):=⟨rfl,fV.2 rfl⟩;obtain⟨W,g,a,R⟩:=bI w [.bool false,.slice none 0 0,.bool false,.slice none 0 0] 108;have f:=R.g4;go_enter func122,ntmps122;go_wp2_with fail;(try rw[g]);clear g;refine(ZN _).mono ?_;rintro n q ⟨p,rfl,b,i⟩;obtain⟨k,c,j,e,rfl⟩:=b.form;replace R:=R.be i;replace f:=R.g4;replace a:=aC a i;go_wp2_with fail;obtain⟨m,h,R,a,l,o⟩:=R.mut4 a (by omega) (.bool k) (.slice c j e) (.bool false) (.slice none 0 0) rfl rfl;replace b:=b.ke l;rw[h];clear h;replace f:=R.k4;exact aM (v:= .agg #[.bool k,.slice c j e,.bool false,.slice none 0 0]) (by simp[results,results122,go_sem,R.k4]) rfl ⟨_,rfl,NQ.of b (NI.zero _) d.out.1 d.out.2,a⟩
def ChT.last{b:Rat}(h:ChT B a b [] c C):C=[]:=by
 cases h with
 |done=>rfl
 |step d=>exact absurd rfl d
def ChT.split{g:Rat}(h:ChT B a g b c C)(d:b≠[]):∃r' f C2,C=aT c b :: C2∧ChT B b c r' f C2∧r'.length<b.length∧(∀Q R,DivQ (aT g a) (aT c b) Q R->aW aV (oA [] (-1) R)=aT f r')∧cf (aT c b) (b.length-1)≠0:=by
 cases h with
 |done=>exact absurd rfl d
 |step d h e m l k j n hn t=>
  refine⟨_,_,_,rfl,t,by rw[l];exact h.r_lt,fun Q R i=>CS d h e m k j i,?_⟩;rw[dS];exact m6 e.2.1 (gJ ((fT d).1 e.2.2))
def ChT.trim{e:Rat}(h:ChT B a e b c C):aN (aT c b):=by
 cases h with
 |done=>exact fun x f=>by simp[aT] at f
 |step i h d m l k j g hn t=>exact CQ (.inl d.2.1) d.2.2
def ChT.nums{d:Rat}(h:ChT B a d b c C)(e:∀X∈C,∀q∈X,RL K q):∀q∈aT c b,RL K q:=by
 cases h with
 |done=>exact fun q f=>by simp[aT] at f
 |step j h g n m l k i hn t=>exact e _ iC
def MJ(b:1<=K)(h:aW aV (oA [] (-1) R)=S)(c:∀q∈S,RL K q):∀q∈R,RL K q:=fun q d=>by
 obtain⟨i,hi⟩:=List.mem_iff_getElem?.1 d;have e:cf S i= -q:=by
  rw[<-h,iS,xW,eR];have:cf R i=q:=by unfold cf;rw[eE,hi];rfl
  rw[this];grind
 have a:=lV c (iG b) i;rw[e] at a;exact⟨by have:=a.1;rwa [Rat.neg_num,azJ] at this,a.2⟩
def MK:RL 1 (-1:Rat):=⟨by rw[Rat.neg_num,azJ];exact rY.1,rY.2⟩
def E9(A:List Rat){j:Rat}(D:ChT B a j b c C)(ea:aT j a=A)(eb:aT c b=fW A)(v:Value)(w:World)(hv:QsAt w v A)(K:Nat)(hK:∀X∈A :: C,∀q∈X,RL K q)(N:1<=K)(V:A.length<=7)(bz:K<=250000000):
  Calls prog 125 #[v] w (vC w (A :: C)):=by
 obtain⟨A0,c0,rfl,bp⟩:=hv.form;have S:=fun W h=>JF A (.slice A0 A.length c0) W h K (hK A iC) (by omega) N (by omega);have a6:aW aV (fW A)=aT c b:=by rw[<-eb];exact qB D.trim
 rw[a6] at S;have bu:b.length<=7:=by
  have:=congrArg List.length eb;rw[fX,qO] at this;omega
 have ac:Hid (A=aT j a∧ChT B a j b c C∧([]++[A])++C=A :: C):=⟨ea.symm,D,rfl⟩;have HK:=aB hK;have l:Below w.1.size w (w.alloc (.cells #[.slice A0 A.length c0] 64)):=(aG _ _).alloc aE _;have d:=QQs.one hv aE;replace hv:=hv.be l;unfold lT at S;unfold vC;clear a6 eb ea D hK;go_enter func125,ntmps125;go_wp2_with fail;refine(S _ hv).mono ?_;rintro e1 w1 ⟨v1,rfl,ae,a4⟩;replace d:=QQs.be d a4;have f:=aC l a4;have bf:Hid (b.length=b.length):=rfl;have L:Hid ((aT c b).length=b.length):=fX c b;generalize a3:aT c b=Y at *;have aw:=aB a3;obtain⟨A1,c1,rfl,bq⟩:=ae.form;clear S l a3;go_wp2_with fail;go_loopg [3,4] b.length (fun k vo vn wr=>∃(X Y:List Rat) (a b:List Int) (j c:Rat) (C' g:List (List Rat)),Hid (b.length=k)∧QQs wr w.1.size 64 vo (g++[X])∧QsAt wr vn Y∧Hid (X=aT j a∧Y=aT c b∧ChT B a j b c C'∧(g++[X])++C'=A :: C)∧Hid (Y.length=b.length)∧X.length<=7∧g.length+b.length<=7∧Below w.1.size w wr)
 case atStart=>exact⟨A,Y,a,b,j,c,C,[],rfl,d,ae,⟨ac.out.1,aw.out.symm,ac.out.2⟩,L,V,by simp;omega,f⟩
 case round=>
  clear d ae f hv L ac aw V bu bp bq bf;obtain⟨X,Y,a,b,j,c,C',g,HL,d,E,HT,L,b2,bw,f⟩:=hrel;have am:=L.out;generalize wr=F at *;obtain⟨r,ah⟩:∃r,g++[X]=r:=⟨_,rfl⟩;have t:=aB ah;rw[ah] at d;clear ah;obtain⟨Af,bx,rfl,b0⟩:=d.form;obtain⟨Ay,cy,rfl,b1⟩:=E.form;by_cases h0:b.length=0
  ·have q0:¬(0:Int)<(Y.length:Int):=by omega
   have z:r=A :: C:=by
    rw[<-t.out];have O:b=[]:=bX h0;obtain⟨-, -,h3,I⟩:=HT.out;rw[O] at h3;rw[h3.last,fH] at I;exact I
   have HE:=aB z;clear z h0 am;go_wp2;go_ret;refine⟨_,rfl,?_,f⟩;rw[<-HE.out];exact d
  ·have q0:(0:Int)<(Y.length:Int):=by omega
   have O:b≠[]:=fun e=>h0 (by rw[e];rfl);obtain⟨eX,y,D,z⟩:=HT.out;obtain⟨i,n,C2,rfl,ai,b7,T,aj⟩:=D.split O;rw[<-eX,<-y] at T;rw[<-y,<-am] at aj;have kC:∀Z∈(g++[X])++aT c b :: C2,∀q∈Z,RL K q:=by rw[z];exact HK.out
   have kX:∀q∈X,RL K q:=kC X (by simp);have kY:∀q∈Y,RL K q:=kC Y (by rw[y];simp);have kN:=ai.nums (fun Z hZ=>kC Z (by simp[hZ]));have bs:=JY K (X.length-Y.length+1);have o:2^(X.length-Y.length+1)<=2^7:=cO (by decide) (by omega);have bv:=aqK o (show 3*K+1<=750000001 by omega);have a7:=fun W u v h H=>L2 X Y u v W h H K kX kY N (by omega) (by omega) aj 200000000000 (by omega) (fun _=>by omega) (by decide);have a9:=fun R W u v x h H ad (hR:∀q∈R,RL K q) V=>KX [] (-1) R u v x W h H ad K 1 (fun q hq=>by cases hq) hR MK N (by simp) V (by omega);have au:Hid (∀Q R,DivQ X Y Q R->aW aV (oA [] (-1) R)=aT n i∧(∀q∈R,RL K q)):=fun Q R hD=>⟨T Q R hD,MJ N (T Q R hD) kN⟩;have G:Hid (Y=aT c b∧ChT B b c i n C2∧((g++[X])++[Y])++C2=A :: C):=⟨y,ai,by rw[<-z,y];simp⟩;have bm:Y.length<=7:=by omega
   clear am bs o bv eX y D z ai T aj kC kX kY kN HT O;have l:Below F.1.size F (F.alloc (.cells #[.slice Ay Y.length cy] 64)):=(aG _ _).alloc aE _;have X1:=Bx.new F [.slice Ay Y.length cy] 64;replace E:=E.be l;replace d:=QQs.be d l;have b9:w.1.size<=F.1.size:=f.size;replace f:=aC f l;have ax:=X1.cell 0 rfl;obtain⟨bc,o,ap,bb⟩:=id d;have aq:bc.length=g.length+1:=by rw[ap,<-t.out,bE];rfl
   go_wp2_with (at_builtin;refine K4 rfl rfl 64 24 underlying160 ML w.1.size _ bc rfl o F.1.size (.slice Ay Y.length cy) rfl ax ⟨_,_,_,rfl⟩ (by rw[aq];omega) (by rw[aq];unfold maxLen;omega) f.size ?_;intro v8 w8 a8 bt U);have p:=QQs.push o ap bb E a8 U;have J:=E.grown o (by decide) U;have s:=K5 f U o aE;obtain⟨A8,c8,rfl,br⟩:=p.form;have az:(r++[Y])[g.length]? =some X:=by rw[<-t.out];simp
   have af:(r++[Y]).length=g.length+2:=by rw[<-t.out];simp
   obtain⟨b8,u8,rfl,bo,a5,ao⟩:=p.at_ az;clear az d E l X1 ax a8 bt U o ap bb aq f;rw[t.out] at G;obtain⟨M,ag⟩:∃M,r++[Y]=M:=⟨_,rfl⟩;have ar:=aB ag;rw[ag] at p af G br⊢;clear ag;obtain⟨m,hm⟩:∃m,g.length=m:=⟨_,rfl⟩;have HM:=aB hm;rw[hm] at af a5 bw;clear hm;have b3:(M.length:Int)-2=(m:Int):=by omega
   have b4:(0:Int)<=(m:Int):=by omega
   have b5:(m:Int)<(M.length:Int):=by omega
   have b6:IntKind.i64.wrap (m:Int)=(m:Int):=IntWalk.i64_in _ ⟨by omega,by omega⟩;obtain⟨Au,cu,rfl, -⟩:=ao.form;clear af;go_wp2_with fail;rw[run_len_slice (P:=prog) _ 160 3 _ _ _ (by simp[go_sem])];go_wp2_with fail;refine(a7 _ _ _ ao J).mono ?_;rintro e4 w4 ⟨v4,u4,Q,R,rfl,I,i4,ay,bh,bj,bi,bk,ak⟩;obtain⟨a0,a1⟩:=au.out Q R ay;have an:=fun W u v x h H ad=>a9 R W u v x h H ad a1 (by omega);rw[a0] at an;have ba:=fun W=>ZO W;unfold lT at an;unfold eS at ba;replace p:=QQs.be p ak;replace J:=J.be ak;replace s:=aC s ak;have bg:Hid ((aT n i).length=i.length):=fX n i;obtain⟨A4,c4,rfl, -⟩:=I.form;obtain⟨A5,c5,rfl, -⟩:=i4.form;clear a7 a9 au a0 a1 ay bh bj bi bk I ao a5 bo;have av:Hid (aT n i=aT n i):=rfl;generalize a2:aT n i=Y2 at *;replace av:=aB a2.symm;clear a2;go_wp2_with fail;refine(ba _).mono ?_;rintro e5 w5 ⟨v5,rfl,h5,al⟩;obtain⟨s5,B5,k5,d5,s6,B6,k6,d6,rfl⟩:=h5.form;go_wp2_with fail;refine(an _ _ _ _ (QsAt.nil _) h5 (i4.be al)).mono ?_;rintro e6 w6 ⟨v6,rfl,h6,bn⟩;have hB:=aC al bn;replace p:=QQs.be p hB;replace J:=J.be hB;replace s:=aC s hB;go_wp2;go_roundg i.length
   case rel=>exact⟨Y,Y2,b,i,c,n,C2,r,rfl,by rw[ar.out];exact p,h6,⟨G.out.1,av.out,G.out.2.1,by rw[ar.out];exact G.out.2.2⟩,bg,bm,by have:=HM.out;have:=congrArg List.length t.out;simp at this;omega,s⟩
   case measure=>have:=HL.out;omega
def Bx.put5n{b:Nat}{t:TypeId}{j k l m n:Value}(h:Bx W b [j,k,l,m,n] t)(A:Below B w W)(a:B<=b)(d e f g i:Value)(hn:(cS (some j)&&(cS (some k)&&(cS (some l)&&(cS (some m)&&cS (some n)))))=true):
  ∃c,((((W.setCell ⟨b,0,none⟩ d).setCell ⟨b,1,none⟩ e).setCell ⟨b,2,none⟩ f).setCell ⟨b,3,none⟩ g).setCell ⟨b,4,none⟩ i=c∧Bx c b [d,e,f,g,i] t∧Below B w c∧KM W c:=by
 simp only[az7] at hn;obtain⟨H,rfl,u,o,C,M⟩:=h.mut1 A a 0 d hn.1;obtain⟨I,rfl,v,p,D,N⟩:=u.mut1 o a 1 e hn.2.1;obtain⟨J,rfl,x,q,E,O⟩:=v.mut1 p a 2 f hn.2.2.1;obtain⟨K,rfl,y,r,F,P⟩:=x.mut1 q a 3 g hn.2.2.2.1;obtain⟨L,rfl,z,s,G,Q⟩:=y.mut1 r a 4 i hn.2.2.2.2;exact⟨_,rfl,z,s,(((C.trans D).trans E).trans F).trans G⟩
def REnd(w:World)(v:Value)(f:Bool)(x:Rat):Prop:=∃h a e c i b g d,v= .agg #[.bool f,.bool h,.slice a e c,.bool i,.slice b g d]∧NQ w (.agg #[.bool h,.slice a e c,.bool i,.slice b g d]) x
def REnd.be(h:REnd w v f x)(g:Below w.1.size w w'):REnd w' v f x:=by
 obtain⟨k,a,i,c,l,b,j,d,e,h⟩:=h;exact⟨k,a,i,c,l,b,j,d,e,h.be g⟩
def REnd.up{a b:World}[u:Up a b](h:REnd a v f x):REnd b v f x:=h.be u.out
def vB(x:Rat)(v:Value)(w:World)(hv:NQ w v x):Calls prog 130 #[v] w (fun e w'=>∃l,e= .returned l∧REnd w' l false x∧Below w.1.size w w'):=by
 obtain⟨h,a,f,c,i,b,g,d,rfl⟩:=hv.form;obtain⟨W,j,k,X,R⟩:=eL w [.bool h,.slice a f c,.bool i,.slice b g d] 108 [.bool false,.bool false,.slice none 0 0,.bool false,.slice none 0 0] 165;have r:=aa X.g4 R.g5;go_enter func130,ntmps130;go_wp2_with fail;(try rw[j]);clear j;obtain⟨q,n,m,o,p⟩:=R.put5n k (Nat.le_succ _) (.bool false) (.bool h) (.slice a f c) (.bool i) (.slice b g d) rfl;rw[n];exact aM (v:= .agg #[.bool false,.bool h,.slice a f c,.bool i,.slice b g d]) (by simp[results,results130,go_sem,m.k5]) rfl ⟨_,rfl,⟨_,_,_,_,_,_,_,_,rfl,(hv.be k).ke p⟩,o⟩
def yS(x y:Rat)(l m:Value)(w:World)(g:NQ w l x)(i:NQ w m y)(K:Nat)(j:RL K x)(k:RL K y)(C:2*K+1<=549755813888):Calls prog 84 #[l,m] w (eO w (x-y).num.sign):=by
 obtain⟨I,n,E,r,J,o,F,s,rfl⟩:=g.form;obtain⟨L,p,G,t,M,q,H,z,rfl⟩:=i.form;have e:=fun W u v h A=>EC x y u v W h A K j k C;have Q:=(JM j k).1;have f:=fun W v h=>oC (x-y) v W h (by omega);unfold eS at e;unfold eO at f;unfold eO;generalize x-y=d at *;obtain⟨W,b,a,X,Y⟩:=eL w [.bool I,.slice n E r,.bool J,.slice o F s] 108 [.bool L,.slice p G t,.bool M,.slice q H z] 108;have N:=aa X.g4 Y.g4;go_enter func84,ntmps84;go_wp2_with fail;(try rw[b]);clear b;refine(e _ _ _ (g.be a) (i.be a)).mono ?_;rintro O S ⟨R,rfl,B,c⟩;go_wp2_with fail;refine(f _ _ B).mono ?_;rintro P T ⟨rfl,D⟩;go_wp2;go_ret;exact⟨rfl,a.trans ((aC c D).mono a.size)⟩
def czZ(A:List Rat)(k s:List Int)(B l t:Nat)(hB:2*kM B 7<=90000000)(ac:l+1<=B)(af:t+1<=B)(ad:B<=10000000)(Z:1<=l)(v:Value)(w:World)(hv:QsAt w v A)(b:Prp A k)(i:Sqp B k s)(p:∀q∈A,RL l q)(E:A.length<=7)(J:∀n∈k,nl n.natAbs<=t):
  Calls prog 72 #[v] w (lT w (cE s)):=by
 obtain⟨r,x,rfl,ao⟩:=hv.form;obtain⟨L,O⟩:=MI b;obtain⟨g,z,j,M,pg,al,X⟩:=i.out;have kd:=gU (pL (K:=t) J (by have:=b.1;omega));have m:1<=B:=by omega
 obtain⟨-,kg,lg⟩:=y5 z m b.2.1 L.2.1 (fun n hn=>aH (J n hn) (by omega)) (fun n hn=>aH (kd n hn) af);have C:=fun W h=>JF A (.slice r A.length x) W h l p (by omega) Z (by omega);rw[O] at C;have kD:∀q∈fW A,RL B q:=fun q H=>bU (JE p (by omega) Z q H) ac;have lD:=qO A;have I:∀q∈A,RL B q:=fun q H=>bU (p q H) (by omega);have V:=fun W u h y=>ZJ B A (fW A) k (aS (bB k)) g (.slice r A.length x) u W h y b L (.inl z) B I kD aE m (by omega) (by omega) ad;have o:=uD M;have ak:(cE g).length=g.length:=o.1;have aj:=List.length_pos_iff.2 j;have ai:=fun W u h y=>L3 A (cE g) (.slice r A.length x) u W h y B I (CU kg m) m (by omega) (by omega) (o.ne j) 90000000 (aH (eV 2 (uF B E)) hB) (by decide);have HQ:Hid (∀Q R,DivQ A (cE g) Q R->oQ Q=cE s∧(Q≠[]->cf Q (Q.length-1)≠0)):=fun Q R hD=>by
  obtain⟨c,hc,e⟩:=b.eq_smul;obtain⟨f,hf,N⟩:=CP hc i.ts M j X;rw[<-e] at N;obtain⟨rfl, -⟩:=hD.unique N (o.ne j) (by omega);have pQ:=jY hf i.ts;exact⟨qT pQ,fun h=>pQ.ne i.ne⟩
 have F:=fun (Q:List Rat) W u h d E h0=>DB Q u W h 90000000 d (by decide) h0 E (by decide);unfold lT at C V F;unfold lT;clear kD I o ak aj kd lg L O z j M pg al X kg lD p J i b;generalize fW A=D at *;generalize cE g=G at *;generalize cE s=S at *;go_enter func72,ntmps72;go_wp2_with fail;refine(C _ hv).mono ?_;rintro e1 w1 ⟨v1,rfl,h1,a⟩;replace hv:=hv.be a;go_wp2_with fail;refine(V _ _ hv h1).mono ?_;rintro e2 w2 ⟨v2,rfl,h2,U⟩;replace hv:=hv.be U;replace a:=aC a U;go_wp2_with fail;refine(ai _ _ hv h2).mono ?_;rintro e3 w3 ⟨v3,u3,Q,R,rfl,h3,i3,P,T,ae,am,an,ag⟩;replace a:=aC a ag;have d:=HQ.out Q R P;have Y:=fun W u h=>F Q W u h T (by omega) d.2;rw[d.1] at Y;clear d F T ae P;go_wp2_with fail;refine(Y _ _ h3).mono ?_;rintro e4 w4 ⟨v4,rfl,h4,ah⟩;go_wp2;go_ret;exact⟨_,rfl,h4,aC a ah⟩
def E8(A:List Rat)(a s:List Int)(v:Value)(w:World)(hv:QsAt w v A)(f:Prp A a)(b:Sqp 24057 a s)(d:∀q∈A,RL 1 q)(c:A.length<=7)(e:∀n∈a,nl n.natAbs<=9):
  Calls prog 72 #[v] w (lT w (cE s)):=czZ A a s 24057 1 9 (by decide) (by decide) (by decide) (by decide) (by decide) v w hv f b d c e
def eI(f b:Bool):Int:=if f=true then (if b=true then -1 else 1) else 0
def MH(A:List Rat)(i:Int)(x:Rat): -1<=cyE A i x∧cyE A i x<=1:=by
 unfold cyE;split
 ·exact qU _
 ·split
  ·have:=qU (cf A (A.length-1)).num;omega
  ·exact qU _
def E7(c:List (List Rat))(B:Nat)(f bl:Bool)(x:Rat)(v u:Value)(w:World)(hv:QQs w B 64 v c)(hx:REnd w u f x)(ba:c.length<=1024)(K:Nat)(F:∀A∈c,A≠[]∧A.length<=8∧∀q∈A,RL K q)(kx:RL K x)(h1:1<=K)(az:K<=1100000000):
  Calls prog 166 #[v,u,.bool bl] w (eO w (aY 0 (c.map (fun A=>cyE A (eI f bl) x)):Nat)):=by
 obtain⟨s1,N,k1,Q,s2,O,k2,R,rfl,hx⟩:=hx;obtain⟨A0,c0,rfl,a3⟩:=hv.form;unfold eO;obtain⟨V,Y⟩:∃V,aY 0 (c.map (fun A=>cyE A (eI f bl) x))=V:=⟨_,rfl⟩;rw[Y];have HV:Hid (0+aY 0 ((c.drop 0).map (fun A=>cyE A (eI f bl) x))=V):=by unfold Hid;rw[azZ,bA];exact Y
 clear Y
 have af:=fun p W u h T (G:p∈c)=>CD p x u (.agg #[.bool s1,.slice N k1 Q,.bool s2,.slice O k2 R]) W h T K (F p G).2.2 kx (by have:=(F p G).2.1;omega) (by
  have:=dK (2*K+1) (F p G).2.1;omega)
 have ap:=fun p (G:p∈c)=>CJ (F p G).2.2 kx;unfold eS at af;obtain⟨W,eW,e,X⟩:=bI w [.bool f,.bool s1,.slice N k1 Q,.bool s2,.slice O k2 R] 165;have cM:=X.g5;go_enter func166,ntmps166;go_wp2_with fail;(try rw[eW]);clear eW;go_loopg [7,8,9] c.length (fun k vb vc vi wr=>∃(j C:Nat) (b:Int),Hid (j+k=c.length)∧vc= .int .i64 C∧vb= .int .i64 b∧vi= .int .i64 j∧C<=j∧ -1<=b∧b<=1∧Hid (C+aY b ((c.drop j).map (fun A=>cyE A (eI f bl) x))=V)∧Bx wr w.1.size [.bool f,.bool s1,.slice N k1 Q,.bool s2,.slice O k2 R] 165∧Below w.1.size w wr)
 case atStart=>exact⟨0,0,0,by unfold Hid;omega,rfl,rfl,rfl,aE,by decide,by decide,HV,X,e⟩
 case round=>
  clear HV X e;obtain⟨j,C,b,n,rfl,rfl,rfl,hC,am,an,P,X,e⟩:=hrel;generalize wr=M at *;have a5:(0:Int)<=(j:Int):=by omega
  cases gk with
  |zero=>
   have hj:j=c.length:=n.out;have HC:Hid (C=V):=by
    have:=P.out;rw[hj,azY] at this;exact this
   subst hj;go_wp2;go_ret;exact⟨by rw[HC.out];rfl,e⟩
  |succ k=>
   have aq:j<c.length:=by have:=n.out;omega
   have a6:(j:Int)<(c.length:Int):=by omega
   obtain⟨a,t⟩:∃a,c[j]? =some a:=⟨_,aR aq⟩;have s:=dG t;obtain⟨bb,u,rfl,ah,hu,E⟩:=(QQs.be hv e).at_ t;obtain⟨Au,cu,rfl,a4⟩:=E.form;have aj:aY b ((c.drop j).map (fun A=>cyE A (eI f bl) x))=if cyE a (eI f bl) x=0 then aY b ((c.drop (j+1)).map (fun A=>cyE A (eI f bl) x)) else (if b≠0∧cyE a (eI f bl) x≠b then 1 else 0)+aY (cyE a (eI f bl) x) ((c.drop (j+1)).map (fun A=>cyE A (eI f bl) x)):=KD (fun A=>cyE A (eI f bl) x) t b;have m:=MH a (eI f bl) x;have d:=P.out;rw[aj] at d;obtain⟨Z,ak,ac⟩:=F a s;have cX:=X.k5;have a1:=e.size;clear aj P;obtain⟨S,U⟩:∃S,cyE a (eI f bl) x=S:=⟨_,rfl⟩;rw[U] at d m;have z:=aB U;replace d:=aB d;clear U;go_upto_if 18 with fail;go_cut [10] (fun ay wx=>ay= .int .i64 S∧Below M.1.size M wx)
   case first=>
    have ai:=List.length_pos_iff.2 Z;obtain⟨l,ae⟩:∃l,a.length-1=l:=⟨_,rfl⟩;have a9:(a.length:Int)-1=(l:Int):=by omega
    have av:l<a.length:=by omega
    have a7:(0:Int)<=(l:Int):=by omega
    have a8:(l:Int)<(a.length:Int):=by omega
    have bg:IntKind.i64.wrap (l:Int)=(l:Int):=IntWalk.i64_in _ ⟨by omega,by omega⟩;cases f with
    |true=>
     obtain⟨b2,s3,A3,k3,c3,s4,A4,k4,c4,rfl,a2,g0,hi⟩:=E.cell av;have aw:=(lV ac (iG h1) l).1;have H:=fun W v h=>oC (cf a l) v W h (by omega);have i:Hid ((if eI true bl<0∧a.length%2=0 then -(cf a l).num.sign else (cf a l).num.sign)=S):=by
      unfold Hid;rw[<-z.out];unfold cyE;have he:eI true bl≠0:=by cases bl<;>decide
      rw[if_neg he,ae]
     have a0:=qU (cf a l).num;unfold eO at H;clear ae ai aw z E Z ac s t;generalize (cf a l).num.sign=L at *;have bf:IntKind.i64.wrap (-L)= -L:=IntWalk.i64_in _ ⟨by omega,by omega⟩;go_wp2_with fail
     go_region_with (first
      |(go_at_call 85;refine(H _ _ hi.up).mono ?_;rintro e5 w5 ⟨rfl,ad⟩;have:=St.mk ad))
     all_goals (
      have o:=Up.out (a:=M) (b:=w5);have bc:=(o.cell (p:=⟨bb,j,none⟩) ah).trans hu;cases bl with
      |false=>
       rw[show eI true false=1 from rfl,if_neg (fun h=>absurd h.1 (by decide))] at i;go_wp2;go_meet;exact⟨by rw[i.out],o⟩
      |true=>
       by_cases J:a.length%2=0
       ·have r0:(a.length:Int).tmod 2=0:=by rw[bz3 (by omega)];omega
        rw[show eI true true= -1 from rfl,if_pos ⟨by decide,J⟩] at i;clear J;go_wp2;go_meet;exact⟨by rw[i.out],o⟩
       ·have r0:(a.length:Int).tmod 2=1:=by rw[bz3 (by omega)];omega
        rw[if_neg (fun h=>J h.2)] at i;clear J;go_wp2;go_meet;exact⟨by rw[i.out],o⟩)
    |false=>
     have ar:=(ap a s).1;have al:=fun W u h T=>af a W u h T s;have au:=dK (2*K+1) ak;have H:=fun W v h=>oC (aI a x) v W h (by omega);have i:Hid ((aI a x).num.sign=S):=by
      unfold Hid;rw[<-z.out];rfl
     unfold eO at H;have ax:=hx.be e;clear au ar ae ai z Z ac s t;generalize aI a x=y at *;go_wp2_with fail
     go_region_with (first
      |(go_at_call 86;refine(al _ _ E.up ax.up).mono ?_;rintro e4 w4 ⟨v4,rfl,h4,ao⟩;have:=St.mk ao)
      |(go_at_call 85;refine(H _ _ h4.up).mono ?_;rintro e5 w5 ⟨rfl,ad⟩;have:=St.mk ad))
     all_goals (
      have o:=Up.out (a:=M) (b:=w5);go_wp2;go_meet;exact⟨by rw[i.out],o⟩)
   case rest=>
    obtain⟨rfl,ag⟩:=hcut;generalize wc=wz at *;replace X:=X.be ag;replace e:=aC e ag;clear cX hu E ah s t z;have g:=d.out;clear d;by_cases r:S=0
    ·subst r;rw[if_pos rfl] at g;have d:=aB g;clear g;go_wp2;go_roundg k
     case rel=>exact⟨j+1,C,b,by have:=n.out;unfold Hid;omega,rfl,rfl,by go_num,by omega,am,an,d.out,X,e⟩
     case measure=>omega
    ·rw[if_neg r] at g;have q0:(S != 0)=true:=by simpa using r
     by_cases D:b=0
     ·subst D;rw[if_neg (fun h=>h.1 rfl),bA] at g;have d:=aB g;clear g r;go_wp2;go_roundg k
      case rel=>exact⟨j+1,C,S,by have:=n.out;unfold Hid;omega,rfl,rfl,by go_num,by omega,m.1,m.2,d.out,X,e⟩
      case measure=>omega
     ·have q1:(b != 0)=true:=by simpa using D
      by_cases I:S=b
      ·subst I;rw[if_neg (fun h=>h.2 rfl),bA] at g;have d:=aB g;clear g r D;go_wp2;go_roundg k
       case rel=>exact⟨j+1,C,S,by have:=n.out;unfold Hid;omega,rfl,rfl,by go_num,by omega,m.1,m.2,d.out,X,e⟩
       case measure=>omega
      ·rw[if_pos ⟨D,I⟩] at g;have d:=aB g;have q2:(S != b)=true:=by simpa using I
       clear g r D I;go_wp2;go_roundg k
       case rel=>exact⟨j+1,C+1,S,by have:=n.out;unfold Hid;omega,by go_num,rfl,by go_num,by omega,m.1,m.2,by have:=d.out;unfold Hid;omega,X,e⟩
       case measure=>omega
def yA(w:World)(a:List (List UInt8))(e:Ending)(w':World):Prop:=∃v,e= .returned (.tuple #[v,.int .i64 (dM a)])∧QsAt w' v (oP a)∧Below w.1.size w w'
def L5(a:List (List UInt8))(v:Value)(w:World)(hv:StrsAt w v a)(e:a.length<=7)(g:∀l∈a,l.length<=6):Calls prog 30 #[v] w (yA w a):=by
 obtain⟨A,c,rfl,t⟩:=hv.form;have m:∀q∈aU a,RL 1 q:=pI (fun l e=>aH (g l e) (by decide));have f:=fun W h=>VQ a (.slice A a.length c) W h (by omega) (fun l e=>aH (g l e) (by decide)) (fun q s=>bU (m q s) (by decide));have r:=DC a;unfold qP at f;unfold yA;clear m g;generalize dM a=E at *;generalize oP a=Q at *;generalize vl a=V at *;rcases r with ⟨rfl,rfl,p, -⟩|⟨rfl,rfl,rfl⟩|⟨rfl,rfl,rfl⟩
 ·have u:((Q.length:Int)==0)=false:=by rw[beq_eq_false_iff_ne];omega
  clear p;go_enter func30,ntmps30;go_wp2_with fail;refine(f _ hv).mono ?_;rintro k o ⟨n,rfl,b,d⟩;obtain⟨i,j,rfl, -⟩:=b.form;go_wp2;go_ret2;exact⟨_,rfl,b,d⟩
 ·skip;go_enter func30,ntmps30;go_wp2_with fail;refine(f _ hv).mono ?_;rintro k o ⟨n,rfl,b,d⟩;obtain⟨i,j,rfl, -⟩:=b.form;go_wp2;go_ret2;exact⟨_,rfl,QsAt.nil _,d⟩
 ·skip;go_enter func30,ntmps30;go_wp2_with fail;refine(f _ hv).mono ?_;rintro k o ⟨n,rfl,b,d⟩;obtain⟨i,j,rfl, -⟩:=b.form;go_wp2;go_ret2;exact⟨_,rfl,QsAt.nil _,d⟩
def L4(h:∀q∈A,RL K q)(a:1<=K):RL (4*K+1) (jF A):=by
 unfold jF;exact bU (wW (K:=K+K) (KN h (lV h (iG a) _) a _) (bU rY (by omega))) (by omega)
def ZP(x y:Rat):0<(x-y).num.sign↔y<x:=by
 rcases iY (x-y) with h|h|h
 ·rw[(fS _).2 h];exact⟨fun k=>absurd k (by decide),fun k=>by grind⟩
 ·rw[h];exact⟨fun k=>absurd k (by decide),fun k=>by grind⟩
 ·rw[(fS _).1 h];exact⟨fun _=>by grind,fun _=>by decide⟩
def ZQ(p:List Rat)(v:Value)(w:World)(hv:QsAt w v p)(ac:cf p (p.length-1)≠0)(K:Nat)(Z:∀q∈p,RL K q)(hl:p.length<=1024)(h1:1<=K)(a1:4*K+1<=549755813888):
  Calls prog 123 #[v] w (eS w (jF p)):=by
 obtain⟨A,c,rfl,hc⟩:=hv.form;have ba:1<=p.length:=by
  rcases iB p.length with h|h
  ·exact absurd (by rw[bX h];rfl) ac
  ·exact h
 obtain⟨m,hm⟩:∃m,p.length-1=m:=⟨_,rfl⟩;have aw:m<p.length:=by omega
 have a9:(p.length:Int)-1=(m:Int):=by omega
 have bb:IntKind.i64.wrap (m:Int)=(m:Int):=IntWalk.i64_in _ ⟨by omega,by omega⟩;have a7:(0:Int)<=(m:Int):=by omega
 have a8:(m:Int)<(p.length:Int):=by omega
 unfold jF;rw[hm] at ac⊢;have kl:RL K (cf p m):=lV Z (iG h1) m;have kb:=fun j=>KN Z kl h1 j;have ak:∀W,Calls prog 122 #[.int .i64 1] W (eS W 1):=fun W=>r7 1 W (by decide);have ag:=fun W u v h L=>sK (lF (cf p m) (p.take m)) 1 u v W h L (K+K) (kb m) (bU rY (by omega)) (by omega);unfold eS at ak ag;unfold eS;generalize lF (cf p m) (p.take m)+1=y at *;obtain⟨W,eW,e,R,G⟩:=eL w [.bool false,.slice none 0 0,.bool false,.slice none 0 0] 108 [.bool false,.slice none 0 0,.bool false,.slice none 0 0] 108;have cM:=aa R.g4 G.g4;go_enter func123,ntmps123;go_wp2_with fail;(try rw[eW]);clear eW;obtain⟨W1,an,G,e,o,g⟩:=G.mut4 e (by omega) (.bool false) (.slice none 0 0) (.bool false) (.slice none 0 0) rfl rfl;replace R:=g R;rw[an];clear an;replace cM:=aa R.g4 G.g4;have HK:=aB Z;have aq:=aB ac;clear Z ac hm;go_loopg [4] m (fun k i wr=>∃j:Nat,Hid (j+k=m)∧i= .int .i64 j∧Bx wr w.1.size [.bool false,.slice none 0 0,.bool false,.slice none 0 0] 108∧QVar wr (w.1.size+1) (lF (cf p m) (p.take j))∧Below w.1.size w wr)
 case atStart=>exact⟨0,by unfold Hid;omega,rfl,R,⟨_,_,_,_,_,_,_,_,G,NQ.zero _⟩,e⟩
 case round=>
  clear R G e;obtain⟨j,Y,rfl,R,⟨s3,A3,k3,c3,s4,A4,k4,c4,G,f⟩,e⟩:=hrel;generalize wr=z at *;have a3:(0:Int)<=(j:Int):=by omega
  have cG:=G.g4;cases gk with
  |zero=>
   have hj:j=m:=Y.out;subst hj;go_wp2_with fail
   go_region_with (first
    |(go_at_call 122;refine(ak _).mono ?_;rintro e7 w7 ⟨v7,rfl,t,ah⟩;obtain⟨s7,A7,k7,c7,s8,A8,k8,c8,rfl⟩:=t.form;have:=St.mk ah;have az:=(G.up (b:=w7)).g4)
    |(go_at_call 135;refine(ag _ _ _ f.up t.up).mono ?_;rintro e9 w9 ⟨v9,rfl,h9,ar⟩;obtain⟨X,C,U,H,V,B,T,E,rfl⟩:=h9.form;have:=St.mk ar;have R9:=R.up (b:=w9);have a0:=R9.g4))
   all_goals (
    go_wp2_with fail;obtain⟨W6,s,R6,O,o,g⟩:=R9.mut4 (bJ (b:=w9) e) aE (.bool X) (.slice C U H) (.bool V) (.slice B T E) rfl rfl;rw[s];exact aM (v:= .agg #[.bool X,.slice C U H,.bool V,.slice B T E]) (by simp[results,results123,go_sem,R6.k4]) rfl ⟨_,rfl,h9.ke o,O⟩)
  |succ k=>
   have a6:j<m:=by have:=Y.out;omega
   have a4:(j:Int)<(m:Int):=by omega
   have a5:(j:Int)<(p.length:Int):=by omega
   obtain⟨q,hq⟩:∃q,p[j]? =some q:=⟨_,aR (by omega)⟩;have kq:=HK.out q (dG hq);have ao:=KI (d:=cf p m) hq;obtain⟨b,s5,A5,k5,c5,s6,A6,k6,c6,hA,au,g0,hi⟩:=(hv.be e).at_ hq;obtain⟨b2,t5,B5,l5,d5,t6,B6,l6,d6,M,av,i0,ap⟩:=(hv.be e).cell aw;subst hA;injection M with M;injection M with M;subst M;have kD:=xS kq kl;have kA:=KL kD;have ai:=fun W u v h L=>vD q (cf p m) u v W h L K kq kl (by omega) aq.out;have al:=fun W v h=>oC (q/cf p m) v W h (by have:=kD.1;omega);have aj:=fun W v h=>yW (q/cf p m) v W h (by have:=kD.1;omega);have ad:=fun W u v h L=>yS (iH (q/cf p m)) (lF (cf p m) (p.take j)) u v W h L (K+K) kA (kb j) (by omega);have af:=ZP (iH (q/cf p m)) (lF (cf p m) (p.take j));have N:iH (q/cf p m)=if (q/cf p m).num.sign<0 then -(q/cf p m) else q/cf p m:=rfl;have ae:=aB ao;unfold eS at ai aj;unfold eO at al ad;clear ao hq kD kA kq ak ag;generalize (iH (q/cf p m)-lF (cf p m) (p.take j)).num.sign=P at *;generalize iH (q/cf p m)=D' at *;generalize q/cf p m=D at *;generalize lF (cf p m) (p.take j)=gr at *;generalize cf p m=cl at *;have bc:=e.size;go_wp2_with fail;go_cut [5] (fun ax r=>∃J,ax= .pointer (some ⟨J,0,none⟩)∧z.1.size<=J∧QVar r J D∧Below z.1.size z r)
   case first=>
    go_region_held3 (fun w'=>R4 w' b (j*4) (.bool s5) (.slice A5 k5 c5) (.bool s6) (.slice A6 k6 c6)∧R4 w' b (m*4) (.bool t5) (.slice B5 l5 d5) (.bool t6) (.slice B6 l6 d6))
     (with_reducible exact⟨g0.up au,i0.up av⟩)
     (first|(go_at_call 80;refine(ai _ _ _ hi.up ap.up).mono ?_;rintro e7 w7 ⟨v7,rfl,t,ah⟩;obtain⟨s7,A7,k7,c7,s8,A8,k8,c8,rfl⟩:=t.form;have:=St.mk ah;have TT:=Up.out (a:=z) (b:=w7);have ll:=TT.size;(try (have D7:=(Bx.newAt z zR 108 z.1.size rfl).up (b:=w7);have ay:=D7.g4))))
    all_goals (
     go_wp2;go_meet;refine⟨_,rfl,by omega,?_⟩
     first|(with_reducible exact KZ t TT)|(with_reducible exact L0 D7 t TT (by omega)))
   case rest=>
    clear ai g0 i0 hi ap cG;obtain⟨J,rfl,a2,F,Q⟩:=hcut;generalize wc=wz at *;have gl:=G.lt;replace R:=R.be Q;replace G:=G.be Q;replace f:=f.be Q;replace e:=aC e Q;clear Q;obtain⟨X,C,U,H,V,B,T,E,F,hF⟩:=F;have I:=F.k4;go_wp2_with fail;refine(al _ _ hF).mono ?_;rintro e2 w2 ⟨rfl,l⟩;replace F:=F.be l;replace hF:=hF.be l;replace R:=R.be l;replace G:=G.be l;replace f:=f.be l;replace e:=aC e l;clear l;clear al;generalize D.num.sign=S at *;replace I:=F.g4;go_upto_if 27 with fail;go_cut [] (fun r=>Bx r w.1.size [.bool false,.slice none 0 0,.bool false,.slice none 0 0] 108∧QVar r (w.1.size+1) gr∧QVar r J D'∧Below w.1.size w r)
    case first=>
     clear ad af ae;by_cases hS:S<0
     ·rw[if_pos hS] at N;subst N;go_wp2_with fail;refine(aj _ _ hF).mono ?_;rintro e4 w4 ⟨v4,rfl,h4,x⟩;obtain⟨s7,A7,k7,c7,s8,A8,k8,c8,rfl⟩:=h4.form;replace F:=F.be x;replace R:=R.be x;replace G:=G.be x;replace f:=f.be x;replace e:=aC e x;clear x;replace I:=F.g4;go_wp2;go_meet;obtain⟨W6,s,F6,O,o,g⟩:=F.mut4 e (by omega) (.bool s7) (.slice A7 k7 c7) (.bool s8) (.slice A8 k8 c8) rfl rfl;rw[s];exact⟨g R,⟨_,_,_,_,_,_,_,_,g G,f.ke o⟩,⟨_,_,_,_,_,_,_,_,F6,h4.ke o⟩,O⟩
     ·rw[if_neg hS] at N;subst N;go_wp2;go_meet;exact⟨R,⟨_,_,_,_,_,_,_,_,G,f⟩,⟨_,_,_,_,_,_,_,_,F,hF⟩,e⟩
    case rest=>
     clear F hF R G f e I aj N;obtain⟨R,⟨s3,A3,k3,c3,s4,A4,k4,c4,G,f⟩,⟨X,C,U,H,V,B,T,E,F,hF⟩,e⟩:=hcut;generalize wc=wa at *;have I:=aa F.g4 G.g4;go_wp2_with fail;refine(ad _ _ _ hF f).mono ?_;rintro e5 w5 ⟨rfl,n⟩;replace F:=F.be n;replace hF:=hF.be n;replace R:=R.be n;replace G:=G.be n;replace f:=f.be n;replace e:=aC e n;clear n;replace I:=aa F.g4 G.g4;have am:=aB af;clear ad af;by_cases hP:0<P
     ·go_wp2_with fail;obtain⟨W6,s,G6,O,o,g⟩:=G.mut4 e (by omega) (.bool X) (.slice C U H) (.bool V) (.slice B T E) rfl rfl;rw[s];clear s;go_roundg k
      case rel=>exact⟨j+1,by have:=Y.out;unfold Hid;omega,by go_num,g R,⟨_,_,_,_,_,_,_,_,G6,by rw[ae.out,if_pos (am.out.1 hP)];exact hF.ke o⟩,O⟩
      case measure=>omega
     ·go_wp2;go_roundg k
      case rel=>exact⟨j+1,by have:=Y.out;unfold Hid;omega,by go_num,R,⟨_,_,_,_,_,_,_,_,G,by rw[ae.out,if_neg (fun h=>by have:=am.out.2 h;omega)];exact f⟩,e⟩
      case measure=>omega
end Go.Proofs.YtfdaieaidpcdgaaGreatDoor
namespace Go.Proofs.YtfdaieaidpcdgaaGreatDoor
open Sos
variable{K N n:Nat}{s w:List Int}{h q:Rat}
def ExQ.mem{V:Rat->Nat}{s:Rat->Int}{a b:Rat}{l:List (Rat×Rat)}(h:ExQ K V s a b l):a<b->∀p∈l,p.1=p.2∧s p.1=0∨p.1<p.2∧V p.1=V p.2+1∧s p.1≠0∧s p.2≠0:=by
 induction h with
 |none h=>exact fun _ p c=>by cases c
 |hit h d=>exact fun _ p c=>by rw[List.mem_singleton.1 c];exact .inl ⟨rfl,d⟩
 |one h d f=>exact fun e p c=>by rw[List.mem_singleton.1 c];exact .inr ⟨e,h,f,d⟩
 |split h j k _ _ g i=>
  intro e p c;rcases List.mem_append.1 c with c|c
  ·exact g (by grind) p c
  ·exact i (by grind) p c
def cqF(n:Nat):(2:Rat)^n=p2 n:=by
 induction n with
 |zero=>rfl
 |succ n a=>rw[azH,a,jQ,uP]
def cqG{x y W:Rat}{M:Nat}(h:RL K x)(s:RL K y)(r:RL M W)(f:0<W):y-x<=W*2^(64*(M+K+K+1))∧∀j i,j<=64*(M+K+K+1)->i<=2^j->RL (8*K+2*M+8) (azB x (y-x) i j):=by
 have g:=JM s h;refine⟨?_,fun j i q p=>bU (cxB (K:=K+K+1) (bU h (by omega)) g p (m:=M+K+K+1) q) (by omega)⟩;have c:=ax3 g;have l:(1:Rat)<=W*p2 (64*M):=by
  have d:=(yJ (n:=(W.den:Int)) (k:=M) r.2).2;rw[DJ] at d;have u:W*((W.den:Int):Rat)=((W.num:Int):Rat):=by
   have c:(W.num:Rat)/((W.den:Int):Rat)=W:=by rw[<-Rat.divInt_eq_div];exact Rat.num_divInt_den W
   have o:=gW (a:=(W.num:Rat)) (b:=((W.den:Int):Rat)) (fun e=>by have:=pP (n:=(W.den:Int)) (by have:=W.den_pos;omega);grind);rwa [c] at o
  have v:(1:Rat)<=((W.num:Int):Rat):=pP (pK f);have w:=Rat.mul_le_mul_of_nonneg_left d (az6 f);grind
 rw[cqF,show 64*(M+K+K+1)=64*M+64*(K+K+1) by omega,jQ,<-azC];have z:=jZ (64*(K+K+1));have t:=Rat.mul_le_mul_of_nonneg_right l (show(0:Rat)<=p2 (64*(K+K+1)) by grind);grind
def eT(s:List Int):Int:=((cf s (s.length-1)).natAbs:Int)
def V9(s:List Int):Rat:=1/2/(eT s:Rat)
def RA(s:List Int)(N:Nat)(p:Rat×Rat):Rat×Rat:=azN (fun z=>aP s 0 z) (V9 s) N p.1 p.2
def rT(s:List Int)(h:Rat):Rat:=(((h*(eT s:Rat)).floor:Int):Rat)/(eT s:Rat)
def l8(s:List Int)(N:Nat)(p:Rat×Rat):Option Rat:=if (RA s N p).1<=rT s (RA s N p).2∧aP s 0 (rT s (RA s N p).2)=0 then some (rT s (RA s N p).2) else none
structure RrP(s:List Int)(N:Nat)(p:Rat×Rat):Prop where
 k1:RL 1500000 p.1
 k2:RL 1500000 p.2
 fu:p.2-p.1<=V9 s*2^N
 pr:∀j i,j<=N->i<=2^j->RL 12000400 (azB p.1 (p.2-p.1) i j)
def cz2(s:List Int)(c:List (List Int))(n:Nat)(l:List (Rat×Rat)):Prop:=ExQ 1000000000 (fun x=>aY 0 ((s :: c).map (fun a=>aP a 0 x))) (fun x=>aP s 0 x) (((-((2:Int)^n):Int)):Rat) ((((2:Int)^n:Int)):Rat) l∧(∀p∈l,∀N,N=64*(152+1500000+1500000+1)->RrP s N p)∧l.length<=8
def czB(A R:List Rat):Prop:=∃w s c n l N,Prp A w∧CnZ w s c∧bC s=1∧Pw (jF (cE s)) n∧n<=40000∧cz2 s c n l∧N=64*(152+1500000+1500000+1)∧R=l.filterMap (l8 s N)
def czC(a:s≠[])(ts:aN s):0<eT s:=by
 have:=(fT a).1 ts;unfold eT;omega
def cz3(a:Sz s):nl (eT s).natAbs<=150:=by
 unfold eT;rw[dD];exact iU a.nums _
def cz6(d:0<eT s):(((1:Int):Rat))/((eT s*2^1:Int):Rat)=V9 s∧0<V9 s:=by
 have f:=pP d;unfold V9;have e:((eT s*2^1:Int):Rat)=(eT s:Rat)*2:=by rw[eJ];rfl
 rw[e];generalize (eT s:Rat)=x at *;have a:(1/2:Rat)/x*x=1/2:=gW (by grind);refine⟨?_,?_⟩
 ·have b:(((1:Int):Rat)/(x*2))*(x*2)=((1:Int):Rat):=gW (by grind);have c:((1:Int):Rat)=1:=rfl;rw[c] at b⊢;generalize (1:Rat)/(x*2)=u at *;generalize (1/2:Rat)/x=v at *;have:(u-v)*x=0:=by grind
  rcases Rat.mul_eq_zero.1 this with k|k
  ·grind
  ·grind
 ·generalize (1/2:Rat)/x=v at *;by_cases k:0<v
  ·exact k
  ·have:=cA (show 0<= -v by grind) (show 0<=x by grind);rw[Rat.neg_mul,a] at this;grind
def czD(b:Sz s)(a:0<eT s):RL 152 (V9 s):=by
 rw[<-(cz6 a).1];refine pM (aH (cJ (m:=1) (by unfold BN;decide)) (by decide)) ?_ (by decide);have:=gT (eT s) (2^1) 150 1 (cz3 b) (cJ (m:=1) (by unfold BN;decide));omega
def cqH{c:List (List Int)}(b:CnZ w s c)(v:aN w)(hn:n<=40000):∃l,ExK 1000000000 (fun _ _=>True) (fun x=>aY 0 ((s :: c).map (fun a=>aP a 0 x))) (fun x=>aP s 0 x) (((-((2:Int)^n):Int)):Rat) ((((2:Int)^n:Int)):Rat) l∧l.length<=1048576∧cz2 s c n l:=by
 obtain⟨l,d,m,o⟩:=ax7 b v hn;have e:=czC b.1.sq.ne b.1.sq.ts;refine⟨l,d.exk,by omega,d,fun p u N q=> ?_,o⟩;obtain⟨f,g⟩:=m p u;obtain⟨h,k⟩:=cqG f g (czD b.2.2.1 e) (cz6 e).2;subst q;exact⟨f,g,h,fun j i t r=>bU (k j i t r) (by decide)⟩
def cqI(c:Sz s):∃n,n<=40000∧Pw (jF (cE s)) n:=by
 have a:=L4 (CU c.nums (by decide)) (by decide);obtain⟨n,hn,b⟩:=ax2 (64*601) (ax3 (bU a (by decide)));exact⟨n,by omega,b⟩
def czE(h:RL K q):nl (q.floor).natAbs<=K:=by
 rw[Rat.floor_def];exact aH (cK (Int.natAbs_ediv_le_natAbs _ _)) h.1
def czF(a:Sz s):RL 150 (eT s:Rat):=⟨by rw[Rat.num_intCast];exact cz3 a,by rw[Rat.den_intCast];exact aH (cJ (m:=1) (by unfold BN;decide)) (by decide)⟩
def cz1(a:Sz s)(c:RL K h):RL (K+150) (h*(eT s:Rat))∧RL (K+150) (rT s h):=by
 have b:RL (K+150) (h*(eT s:Rat)):=o6 c (czF a);exact⟨b,pM (czE b) (aH (cz3 a) (by omega)) (by omega)⟩
def cyN{s:Rat->Int}{W x d:Rat}{K N:Nat}(a:∀j i,j<=N->i<=2^j->RL K (azB x d i j)):∀(k i j:Nat),j+k=N->i+1<=2^j->RL K (azN s W k (azB x d i j) (azB x d (i+1) j)).1∧RL K (azN s W k (azB x d i j) (azB x d (i+1) j)).2
 |0,i,j,hj,hi=>⟨a j i (by omega) (by omega),a j (i+1) (by omega) hi⟩
 |k+1,i,j,hj,hi=>by
  obtain⟨h,c⟩:=bqH x d i j;have l:azB x d (2*i+1+1) (j+1)=azB x d (i+1) j:=(bqH x d (i+1) j).1;have p:(2:Nat)^(j+1)=2^j*2:=dH ..;have f:RL K (azB x d (2*i+1) (j+1)):=a (j+1) (2*i+1) (by omega) (by omega);by_cases b:W<azB x d (i+1) j-azB x d i j
  ·by_cases e:s ((azB x d i j+azB x d (i+1) j)/2)=0
   ·rw[bq0 b e,c];exact⟨f,f⟩
   ·by_cases g:s ((azB x d i j+azB x d (i+1) j)/2)=s (azB x d i j)
    ·rw[bq1 b e g,c,<-l];exact cyN a k (2*i+1) (j+1) (by omega) (by omega)
    ·rw[bq2 b e g,c,<-h];exact cyN a k (2*i) (j+1) (by omega) (by omega)
  ·rw[byW b];exact⟨a j i (by omega) (by omega),a j (i+1) (by omega) hi⟩
def cqJ{p:Rat×Rat}(c:Sz s)(b:RrP s N p)(h:l8 s N p=some q):RL 12000550 q:=by
 obtain⟨d,e⟩:=bqG p.1 (p.2-p.1);have a:=(cyN (s:=fun z=>aP s 0 z) (W:=V9 s) b.pr N 0 0 (bA N) aE).2;rw[d,show 0+1=1 from rfl,e,show p.1+(p.2-p.1)=p.2 by grind] at a;unfold l8 at h;split at h
 ·injection h with h;rw[<-h];exact(cz1 c a).2
 ·cases h
def czS(x y:Rat):0<=(x-y).num.sign↔y<=x:=by
 rcases iY (x-y) with h|h|h
 ·rw[(fS _).2 h];exact⟨fun k=>absurd k (by decide),fun k=>by grind⟩
 ·rw[h];exact⟨fun k=>by grind,fun k=>by decide⟩
 ·rw[(fS _).1 h];exact⟨fun _=>by grind,fun _=>by decide⟩
end Go.Proofs.YtfdaieaidpcdgaaGreatDoor
namespace Go.Proofs.YtfdaieaidpcdgaaGreatDoor
open Go.RowKit Sos Tryz
variable{B K a b c g i j k:Nat}{A d:Option Addr}{l:List (List UInt8×List UInt8)}{cs r:List Value}{f u u0 u1 v:Value}{S e t t':TypeId}{W W0 w w' w1:World}{o:Obj}{x y:Rat}{s:List Int}{n:Int}{z:Bool}
def DD(w:World)(v:Value):Prop:=∀g,v.ownBlock=some g->∀cur t f,w.heap[g]? =some (.cells cur t f)->∀y∈cur.toList,NoInt y
def GrowD(w:World)(base:Nat)(e:TypeId)(k:Nat)(v:Value)(rows:List (List Value)):Prop:=w.ownsRow base e k v rows.length rows.flatten∧(∀r∈rows,r.length=k)∧DD w v
section
variable {w w':World}{base:Nat}{e:TypeId}{k:Nat}{v:Value}{rows:List (List Value)}
def GrowD.nil:GrowD w base e k (.slice none 0 0) []:=⟨World.ownsRow_nil _ _ _ _,(fun _ h=>by cases h),fun g h=>by simp[Value.ownBlock] at h⟩
def GrowD.lt(h:GrowD w base e k v rows):∀g,v.ownBlock=some g->base<=g∧g<w.1.size:=fun g b=>by
 rcases h.1.2 with ⟨rfl,_⟩|⟨i,f,cur,rfl,c,d,_⟩
 ·simp[Value.ownBlock] at b
 ·simp[Value.ownBlock] at b;subst b;exact⟨c,(Array.getElem?_eq_some_iff.1 d).1⟩
def GrowD.kept(h:GrowD w base e k v rows)(l:∀g,v.ownBlock=some g->w'.heap[g]? =w.heap[g]?):GrowD w' base e k v rows:=by
 obtain⟨j,n,q⟩:=h;refine⟨⟨j.1,?_⟩,n,fun g d b t f c=>q g d b t f ((l g d).symm.trans c)⟩;rcases j.2 with h|⟨i,m,b,rfl,p,c,h⟩
 ·exact .inl h
 ·exact .inr ⟨i,m,b,rfl,p,(l i (by simp[Value.ownBlock])).trans c,h⟩
def GrowD.be(h:GrowD w base e k v rows)(c:Below w.1.size w w'):GrowD w' base e k v rows:=h.kept (fun g b=>c.block g (h.lt g b).2)
def GrowD.up{a b:World}[u:Up a b](h:GrowD a base e k v rows):GrowD b base e k v rows:=h.be u.out
def GrowD.form(h:GrowD w base e k v rows):∃A c,v= .slice A rows.length c∧rows.length<=c:=by
 rcases h.1.2 with ⟨rfl,b⟩|⟨i,d,g,rfl,j,l,f,_⟩
 ·exact⟨none,0,by rw[b],by rw[b];exact aE⟩
 ·exact⟨_,d,rfl,f⟩
def GrowD.at_{l:Nat}(h:GrowD w base e k (.slice A l c) rows)(hi:rows[i]? =some r):∃b,A=some ⟨b,0,none⟩∧base<=b∧b<w.1.size∧∀(j:Nat) (u:Value),r[j]? =some u->w.cell? ⟨b,i*k+j,none⟩=some u:=by
 obtain⟨q,g,B⟩:=h;have C:=(List.getElem?_eq_some_iff.1 hi).1;rcases q.2 with ⟨_,z⟩|⟨f,y,p,hv,s,m,D,E,F,x⟩
 ·omega
 ·simp only[Value.slice.injEq] at hv;refine⟨f,hv.1,s,(Array.getElem?_eq_some_iff.1 m).1,fun j u n=> ?_⟩;have t:j<k:=by rw[<-g r (dG hi)];exact(List.getElem?_eq_some_iff.1 n).1
  rw[cell_of_row w f _ p e (0,0) m,<-Array.getElem?_toList];have d:=mW g hi t;rw[n,<-x,fC] at d;split at d
  ·exact d
  ·cases d
end
def LA(w:World)(t N e:TypeId)(k O:Nat)(z:Value)(W:Tryz.prog.underlying t=some (.slice e))(hi:(Tryz.prog.info? e).map (fun i=>(i.zero,i.size,i.bytes))=some (some z,k,O))(aw:z.cells.size=k)(hz:∀n,∀y∈Builtin.zeroCells z.cells n,NoInt y)(hk:0<k)(aj:O<=1024)
  {base:Nat}{rows:List (List Value)}(hG:GrowD w base e k v rows)(hB:Bx w g r t')(H:r.length=k)(U:∀u∈r,NoInt u∧u.oneCell'=true)(hl:rows.length<=1073741824)(hb:base<=w.1.size):
  ∃E w',(Builtin.append_ #[t,t] N #[v,.slice (some ⟨g,0,none⟩) 1 c]).run prog w= .ok E w'∧GrowD w' base e k E (rows++[r])∧Keep w w'∧w.grownBy w' v.ownBlock∧(E.ownBlock=v.ownBlock∨E.ownBlock=some w.1.size):=by
 obtain⟨F,h3,hN⟩:=hG;obtain⟨i,hi,ac,I,ad⟩:=info_parts hi;have af:(rows.length+1)*O<=140737488355328:=aH (aqK (show rows.length+1<=1073741825 by omega) aj) (by decide);have T:∀j u,r[j]? =some u->w.cell? ((⟨g,0,none⟩:Addr).add j)=some u:=fun j u M=>by
  have:=hB.cell j M;unfold Addr.add;split
  ·rename_i K;subst K;exact this
  ·simpa using this
 obtain⟨E,w',V,ho,S,_,ai⟩:=run_append_own_at (P:=prog) w base t N e i z k O W hi ac I ad aw hk v rows.length _ F ⟨g,0,none⟩ 1 c r (by rw[H,aqD]) T (fun u M=>(U u M).2) (by unfold maxLen;omega) af hb;have an:Keep w w':=fun x n D=>by
  obtain⟨A,c',hv,L,au,aq⟩:=D;refine⟨A,c',hv,L,?_,aq.mono S.size⟩;rcases au with h|⟨b,ax,rfl,ag,al⟩
  ·exact .inl h
  ·refine .inr ⟨b,ax,rfl,aZ ag S.size,fun j G=> ?_⟩;have Z:=al j G;by_cases R:v.ownBlock=some b
   ·rcases F.2 with ⟨rfl,_⟩|⟨p,q,l,rfl,_,C,_⟩
    ·simp[Value.ownBlock] at R
    ·have B:p=b:=by simpa [Value.ownBlock] using R
     subst B;rw[cell_of_row w p _ l _ (0,0) C,<-Array.getElem?_toList] at Z;exact absurd rfl (hN p R l _ _ C _ (dG Z) _ _)
   ·exact(World.cell?_of_block (S.block b ag (fun e'=>R e'.symm))).trans Z
 have am:DD w' E:=by
  have ae:∀(X:List Value) (q m:Nat),(∀y∈X,NoInt y)->DD (w.drew.alloc (.cells (X.toArray++r.toArray++Builtin.zeroCells z.cells m) e)) (.slice (some ⟨w.1.size,0,none⟩) (rows.length+1) q):=fun X q m hv p J l t f L=>by
   simp[Value.ownBlock] at J;subst J;have:=heap_alloc_new w.drew (.cells (X.toArray++r.toArray++Builtin.zeroCells z.cells m) e);have h5:=this.symm.trans L;simp only[Option.some.injEq,Obj.cells.injEq] at h5;rw[<-h5.1];intro y d;rw[bx5,bx5] at d;rcases List.mem_append.1 d with d|d
   ·rcases List.mem_append.1 d with d|d
    ·exact hv y d
    ·exact(U y d).1
   ·exact hz m y (Array.mem_toList_iff.1 d)
  rcases F.2 with ⟨rfl,K⟩|⟨p,q,l,rfl,az,C,ap,a0,hs,a1⟩
  ·have s:=run_append_nil (P:=prog) w t N e i z W hi ac ⟨g,0,none⟩ 1 c r (by rw[I,H,aqD]) T (by decide) (by decide) (by rw[ad];omega);rw[V] at s;injection s with e1 B;subst e1 B;have:=ae [] (grownCap w 1 0 e) (grownCap w 1 0 e-1) (fun _ h=>by cases h);rw[K] at this;simpa using this
  ·have Y:∀y∈l.toList,NoInt y:=hN p rfl l _ _ C;by_cases ah:rows.length+1<=q
   ·have s:=run_append_room (P:=prog) w t N e i W hi p rows.length q l C ⟨g,0,none⟩ 1 c r (by rw[I,H,aqD]) T (fun u M=>(U u M).2) ah (by
     rw[I,hs,H];have:=dK k ah;rw[aqA,aqD] at this;exact this)
    rw[V] at s;injection s with e1 B;subst e1 B;intro g3 J ay t f L;simp[Value.ownBlock] at J;subst J;have h7:=(setRow_heap w p l _ e _ C).symm.trans L;simp only[Option.some.injEq,Obj.cells.injEq] at h7;rw[<-h7.1];intro y d;have av:y∈l.toList.take (rows.length*i.size)++r++l.toList.drop (rows.length*i.size+r.length):=d;rcases List.mem_append.1 av with d|d
    ·rcases List.mem_append.1 d with d|d
     ·exact Y y (lH d)
     ·exact(U y d).1
    ·exact Y y (bxD d)
   ·have ar:∀j y,(l.toList.take (rows.length*k))[j]? =some y->w.cell? ((⟨p,0,none⟩:Addr).add j)=some y:=fun j y G=>by
     have F:w.cell? ⟨p,j,none⟩=some y:=by
      rw[cell_of_row w p j l _ (0,0) C,<-Array.getElem?_toList];rw[fC] at G;split at G
      ·exact G
      ·cases G
     unfold Addr.add;split
     ·rename_i K;subst K;exact F
     ·simpa using F
    have ao:(l.toList.take (rows.length*k)).length=rows.length*i.size:=by
     have ak:l.toList.length=q*k:=hs;rw[I,bK,ak];exact y8 (dK _ ap)
    have s:=run_append_grow (P:=prog) w t N e i z W hi ac ⟨p,0,none⟩ rows.length q (l.toList.take (rows.length*k)) ao ar ⟨g,0,none⟩ 1 c r (by rw[I,H,aqD]) T (by omega) (by omega) (growslice_fits (by omega) (by rw[ad];exact af));rw[V] at s;injection s with e1 B;subst e1 B;have:=ae (l.toList.take (rows.length*k)) (grownCap w (rows.length+1) q e) (grownCap w (rows.length+1) q e-(rows.length+1)) (fun y d=>Y y (lH d));simpa using this
 refine⟨E,w',V,⟨?_,fun x D=> ?_,am⟩,an,S,ai⟩
 ·rw[bE,byL];simpa using ho
 ·rcases List.mem_append.1 D with D|D
  ·exact h3 x D
  ·rw[List.mem_singleton.1 D];exact H
section
variable {ops:Array Oper}{rest:List Oper}{o:Oper}{a:Act}{Q:Exit->Act->World->Prop}{w:World}
def yE(D:o.guard=none){s x:Operand}(H:o.op= .call { callee:= .builtin .append,args:= #[s,x],argTypes:= #[t,t] })(e:TypeId)(k d:Nat)(z:Value)(M:Tryz.prog.underlying t=some (.slice e))(hi:(Tryz.prog.info? e).map (fun i=>(i.zero,i.size,i.bytes))=some (some z,k,d))(P:z.cells.size=k)(O:∀n,∀y∈Builtin.zeroCells z.cells n,NoInt y)(E:0<k)(C:d<=1024)
  {base:Nat}{rows:List (List Value)}(L:a.eval s=v)(q:GrowD w base e k v rows){R:TypeId}(N:a.eval x= .slice (some ⟨g,0,none⟩) 1 c)(p:Bx w g r R)(I:r.length=k)(G:∀u∈r,NoInt u∧u.oneCell'=true)(F:rows.length<=1073741824)(B:base<=w.1.size)
  (h:∀b w',GrowD w' base e k b (rows++[r])->Keep w w'->w.grownBy w' v.ownBlock->(b.ownBlock=v.ownBlock∨b.ownBlock=some w.1.size)->wpList prog ops Q rest (a.put o.dst b) w'):
  wpList prog ops Q (o :: rest) a w:=by
 obtain⟨b,w',J,f,j,l,m⟩:=LA w t o.type e k d z M hi P O E C q p I G F B (c:=c);refine wpList_plain D fun K A=> ?_;unfold Oper.wp execOp;simp only[H,resolve,invoke,builtin,Sem.run_bind,Sem.run_pure,Result.andThen_ok,bxC,fM,aqJ,L,N,J];exact A _ _ (h b w' f j l m)
def LB{K:Act->World->Prop}{E:Prop}(C:o.guard=none){s x:Operand}(H:o.op= .call { callee:= .builtin .append,args:= #[s,x],argTypes:= #[t,t] })(e:TypeId)(k d:Nat)(z:Value)(M:Tryz.prog.underlying t=some (.slice e))(hi:(Tryz.prog.info? e).map (fun i=>(i.zero,i.size,i.bytes))=some (some z,k,d))(R:z.cells.size=k)(P:∀n,∀y∈Builtin.zeroCells z.cells n,NoInt y)(D:0<k)(B:d<=1024)
  {base:Nat}{rows:List (List Value)}(L:a.eval s=v)(q:GrowD w base e k v rows)(O:a.eval x= .slice (some ⟨g,0,none⟩) 1 c)(p:Bx w g r S)(I:r.length=k)(G:∀u∈r,NoInt u∧u.oneCell'=true)(F:rows.length<=1073741824)(A:base<=w.1.size)
  (h:∀b w',GrowD w' base e k b (rows++[r])->Keep w w'->w.grownBy w' v.ownBlock->(b.ownBlock=v.ownBlock∨b.ownBlock=some w.1.size)->K (a.put o.dst b) w'):if Region.wanted o (yielded ops a.tmps)=true then Oper.wp prog o a w K Q else E:=by
 have N:Region.wanted o (yielded ops a.tmps)=true:=by simp[Region.wanted,C]
 rw[if_pos N];obtain⟨b,w',J,f,j,l,m⟩:=LA w t o.type e k d z M hi R P D B q p I G F A (c:=c);unfold Oper.wp execOp;simp only[H,resolve,invoke,builtin,Sem.run_bind,Sem.run_pure,Result.andThen_ok,bxC,fM,aqJ,L,O,J];exact h b w' f j l m
end
def GrowD.left{base:Nat}{rows:List (List Value)}(h:GrowD w base e k v rows)(b:w.grownBy w' v.ownBlock)(c:base<=w.1.size):Below base w w':=⟨b.os,b.tape,b.output,b.size,fun k d=>b.block k (by omega) (fun e=>by have:=(h.lt k e.symm).1;omega)⟩
class Nb(t:TypeId)(cs:List Value)(b:World)(g:outParam Nat):Prop where
 out:Bx b g cs t
instance(t:TypeId)(cs:List Value)(w:World):Nb t cs (w.alloc (.cells cs.toArray t)) w.1.size:=⟨Bx.new w cs t⟩
instance(t:TypeId)(cs:List Value)(a b:World)(g:Nat)[s:St a b][n:Nb t cs a g]:Nb t cs b g:=⟨n.out.be s.out⟩
class Nc(t:TypeId)(cs:List Value)(w:World)(g h:outParam Nat):Prop where
 a:Bx w g cs t
 b:Bx w h cs t
 c:g<h
instance(t:TypeId)(cs:List Value)(w:World)(g:Nat)[n:Nb t cs w g]:Nc t cs (w.alloc (.cells cs.toArray t)) g w.1.size:=⟨n.out.alloc _,Bx.new w cs t,n.out.lt⟩
instance(t:TypeId)(cs:List Value)(a b:World)(g h:Nat)[s:St a b][n:Nc t cs a g h]:Nc t cs b g h:=⟨n.a.be s.out,n.b.be s.out,n.c⟩
instance(priority:=2000)(t:TypeId)(cs:List Value)(w:World)(o:Obj):Nb t cs ((w.alloc o).alloc (.cells cs.toArray t)) (w.1.size+1):=⟨Bx.newAt (w.alloc o) cs t _ (World.size_alloc _ _)⟩
instance(priority:=2000)(t:TypeId)(cs:List Value)(w:World):Nc t cs ((w.alloc (.cells cs.toArray t)).alloc (.cells cs.toArray t)) w.1.size (w.1.size+1):=⟨(Bx.new w cs t).alloc _,Bx.newAt _ cs t _ (World.size_alloc _ _),aqC _⟩
abbrev z2:List Value:=[.bool false,.slice none 0 0]
abbrev z4:List Value:=[.bool false,.slice none 0 0,.bool false,.slice none 0 0]
abbrev z8:List Value:=[.bool false,.slice none 0 0,.bool false,.slice none 0 0,.bool false,.slice none 0 0,.bool false,.slice none 0 0]
def U8(W0:World)(P:World->Nat->Prop)(s:Value)(w:World):Prop:=∃g,s= .pointer (some ⟨g,0,none⟩)∧W0.1.size<=g∧P w g∧Below W0.1.size W0 w
def cz0{P:World->Nat->Prop}[n:Nw W0 g](h:P w g)(a:Below W0.1.size W0 w):U8 W0 P (.pointer (some ⟨g,0,none⟩)) w:=⟨g,rfl,n.out,h,a⟩
def cz8(w:World)(b:Nat)(q:Rat):Prop:=∃s A l c s' A' l' c',Bx w b [.bool s,.slice A l c,.bool s',.slice A' l' c'] 48∧RatAt w (.agg #[.bool s,.slice A l c,.bool s',.slice A' l' c']) q
section
variable {W0 w:World}{g:Nat}{q:Rat}{s s':Bool}{A A':Option Addr}{l c l' c':Nat}
def cq0[u:Up W0 w](h:RatAt w (.agg #[.bool s,.slice A l c,.bool s',.slice A' l' c']) q):U8 W0 (cz8 · · q) (.pointer (some ⟨w.1.size,0,none⟩)) (w.alloc (.cells #[.bool s,.slice A l c,.bool s',.slice A' l' c'] 48)):=
 cz0 ⟨_,_,_,_,_,_,_,_,Bx.new _ _ _,h.be ((aG _ _).alloc aE _)⟩ (u.out.alloc u.out.size _)
def cq1[u:Up W0 w][D:Nb 48 z4 w g][n:Nw W0 g](h:RatAt w (.agg #[.bool s,.slice A l c,.bool s',.slice A' l' c']) q):
  U8 W0 (cz8 · · q) (.pointer (some ⟨g,0,none⟩)) ((((w.setCell ⟨g,0,none⟩ (.bool s)).setCell ⟨g,1,none⟩ (.slice A l c)).setCell ⟨g,2,none⟩ (.bool s')).setCell ⟨g,3,none⟩ (.slice A' l' c')):=by
 obtain⟨f,e,a,b,d, -⟩:=D.out.put4 u.out n.out (.bool s) (.slice A l c) (.bool s') (.slice A' l' c') rfl rfl;rw[e];exact cz0 ⟨_,_,_,_,_,_,_,_,a,h.ke d⟩ b
def cq2[D:Nb 48 z4 w g]:C4 w g (.bool false) (.slice none 0 0) (.bool false) (.slice none 0 0)∧Fz w g:=D.out.g4
end
def cyX(q:Rat):List Value:=[.string ⟨(cW q).toArray⟩]
def dx1(n:Nat):∀y∈Builtin.zeroCells (Value.string ⟨#[]⟩).cells n,NoInt y:=fun y b=>by
 unfold Builtin.zeroCells at b;obtain⟨j,_,rfl⟩:=Array.mem_map.1 b;have a:(Value.string ⟨#[]⟩).cells= #[Value.string ⟨#[]⟩]:=rfl;rw[a];have a:(#[Value.string ⟨#[]⟩]:Array Value).size=1:=rfl;rw[a,Nat.mod_one];exact NoInt.string _
def GrowD.strs{R:List Rat}(h:GrowD w j 9 1 v (R.map cyX)):StrsAt w v (R.map cW):=by
 obtain⟨A,c,rfl,d⟩:=h.form;rw[cH] at d;refine⟨A,c,by rw[cH,cH],by rw[cH];exact d,?_⟩;cases R with
 |nil=>exact .inl rfl
 |cons o R=>
  obtain⟨b,e, -,m, -⟩:=h.at_ (i:=0) (r:=cyX o) rfl;refine .inr ⟨b,0,e,m,fun i t f=> ?_⟩;rw[iK] at f;obtain⟨q,n,rfl⟩:=Option.map_eq_some_iff.1 f;obtain⟨p,a, -, -,k⟩:=h.at_ (i:=i) (r:=cyX q) (by rw[iK,n];rfl);rw[e] at a;simp only[Option.some.injEq,Addr.mk.injEq] at a;obtain⟨rfl,_⟩:=a;have:=k 0 _ rfl;rwa [az9,gQ,<-bA i] at this
def cq3{α β:Type}{f:α->Option β}{l:List α}{p:α}(h:l[j]? =some p):(l.take (j+1)).filterMap f=(l.take j).filterMap f++(f p).toList:=by
 rw[Q9,h,aqO,List.filterMap_append];cases hf:f p with
 |none=>rw[List.filterMap_cons_none hf];rfl
 |some y=>rw[List.filterMap_cons_some hf];rfl
def ZS(x y:Rat):(x+y)*(((1:Int):Rat)/((2:Int):Rat))=(x+y)/2:=by
 have a:((1:Int):Rat)=1:=rfl;have c:((2:Int):Rat)=2:=rfl;rw[a,c];grind
def ZT:(((1:Int):Rat)/((2:Int):Rat)).den≠1:=by rw[<-Rat.divInt_eq_div];decide
def ZU:(((1:Int):Rat)/((2:Int):Rat)).num≠0:=by rw[<-Rat.divInt_eq_div];decide
def SpanAt(w:World)(v:Value)(x y:Rat):Prop:=∃o a k f p c l h q d m i r e n j,v= .agg #[.bool o,.slice a k f,.bool p,.slice c l h,.bool q,.slice d m i,.bool r,.slice e n j]∧RatAt w (.agg #[.bool o,.slice a k f,.bool p,.slice c l h]) x∧RatAt w (.agg #[.bool q,.slice d m i,.bool r,.slice e n j]) y
def uN(K:Nat)(D:Rat->Rat->Prop):Prop:=∀x y,D x y->RL K x->RL K y->∀W u v,Glob W->RatAt W u x->RatAt W v y->Calls prog 54 #[u,v] W (iF W (x+y))
def ZV(d:10*K+40<=aJ):uN K y7:=fun x y e f i W u v c h a=>IZ x y u v W c h a e.2 K f i d
def ZW(D:Rat->Rat->Prop)(x y:Rat)(v:Value)(w:World)(a:Glob w)(hv:SpanAt w v x y)(K:Nat)(r:RL K x)(q:RL K y)(h1:1<=K)(ag:K<=1073741824)(I:uN K D)(J:D x y):
  Calls prog 57 #[v] w (iF w ((x+y)/2)):=by
 obtain⟨Y,j,N,s,Z,k,O,t,s3,l,P,A,s4,n,Q,B,rfl,hx,hy⟩:=hv;have L:=fun W a h d=>I x y J r q W (.agg #[.bool Y,.slice j N s,.bool Z,.slice k O t]) (.agg #[.bool s3,.slice l P A,.bool s4,.slice n Q B]) a h d;clear I J;have U:nl (1:Int).natAbs<=1:=cJ (by decide);have V:nl (2:Int).natAbs<=1:=cJ (by decide);have M:=fun W u v a h d=>I3 1 2 u v W a h d 1 U V (by unfold aJ;decide);have i:=fun W u v a h d=>UT (x+y) (((1:Int):Rat)/((2:Int):Rat)) u v W a h d (fun e=>absurd e.2 ZT) ZU (2*K+2) (bU (wW r q) (by omega)) (bU (pM U V (mC 1)) (by omega)) (by unfold aJ;omega);rw[ZS] at i;unfold iF at L M i;unfold iF;generalize (x+y)/2=m at *;generalize x+y=z at *;generalize ((1:Int):Rat)/((2:Int):Rat)=ah at *;obtain⟨W,G,c,X,R⟩:=eL w [.bool Y,.slice j N s,.bool Z,.slice k O t,.bool s3,.slice l P A,.bool s4,.slice n Q B] 57 [.bool false,.slice none 0 0,.bool false,.slice none 0 0] 48;have cM:=aa X.g8 R.g4;go_enter func57,ntmps57;go_wp2_with fail;(try rw[G]);clear G;refine(L _ (a.be c) (hx.be c) (hy.be c)).mono ?_;rintro e5 w5 ⟨v5,rfl,h5,ac⟩;have:=St.mk ac;go_wp2_with fail;refine(lL 1 _ (by decide) (by decide)).mono ?_;rintro F w6 ⟨v6,rfl,h6,f⟩;have:=St.mk f;go_wp2_with fail;refine(lL 2 _ (by decide) (by decide)).mono ?_;rintro e7 w7 ⟨v7,rfl,h7,ad⟩;have:=St.mk ad;go_wp2_with fail;refine(M _ _ _ (a.be c).up h6.up h7).mono ?_;rintro e8 w8 ⟨v8,rfl,h8,ae⟩;have:=St.mk ae;go_wp2_with fail;refine(i _ _ _ (a.be c).up h5.up h8).mono ?_;rintro e9 w9 ⟨v9,rfl,H,af⟩;obtain⟨s5,o,S,C,s6,p,T,E,rfl⟩:=H.form;have:=St.mk af;replace R:=R.up (b:=w9);have cR:=R.g4;go_wp2_with fail;obtain⟨W6,F,R6,f,hk,ff⟩:=R.put4 (bJ (b:=w9) c) (by omega) (.bool s5) (.slice o S C) (.bool s6) (.slice p T E) rfl rfl;rw[F];exact aM (v:= .agg #[.bool s5,.slice o S C,.bool s6,.slice p T E]) (by simp[results,results57,go_sem,R6.k4]) rfl ⟨_,rfl,H.ke hk,f⟩
def ZX(x y:Rat)(v:Value)(w:World)(a:Glob w)(hv:SpanAt w v x y)(K:Nat)(S:RL K x)(Q:RL K y)(L:K<=1073741824):
  Calls prog 33 #[v] w fun e w'=>e= .returned (.agg #[.string ⟨(cW x).toArray⟩,.string ⟨(cW y).toArray⟩])∧Below w.1.size w w':=by
 obtain⟨A,i,s,m,B,j,t,n,C,k,u,o,D,l,z,p,rfl,q,r⟩:=hv;have U:=fun W a h=>I4 x (.agg #[.bool A,.slice i s m,.bool B,.slice j t n]) W a h K S L;have V:=fun W a h=>I4 y (.agg #[.bool C,.slice k u o,.bool D,.slice l z p]) W a h K Q L;generalize (cW x).toArray=N at *;generalize (cW y).toArray=O at *;obtain⟨W,I,c,X,R⟩:=eL w [.bool A,.slice i s m,.bool B,.slice j t n,.bool C,.slice k u o,.bool D,.slice l z p] 57 [.string ⟨#[]⟩,.string ⟨#[]⟩] 37;have cM:=aa X.g8 R.g2;go_enter func33,ntmps33;go_wp2_with fail;(try rw[I]);clear I;replace q:=q.be c;replace r:=r.be c;have M:w.1.size+1≠w.1.size:=by omega
 go_region_held3 (fun w'=>C8 w' w.1.size (.bool A) (.slice i s m) (.bool B) (.slice j t n) (.bool C) (.slice k u o) (.bool D) (.slice l z p)) (first|(with_reducible exact X.up.k8)|(with_reducible exact((G.far 0 _ M).far 1 _ M).k8))
  (first
   |(go_at_call 29;first|(with_reducible refine(U _ (a.be c).up q.up).mono ?_;rintro e5 E ⟨rfl,Y⟩;have:=St.mk Y;have d:=R.up (b:=E);have G:=X.up (b:=E);have T:=d.g2;have J:=bJ (b:=E) c)|(with_reducible refine(V _ (a.be c).up r.up).mono ?_;rintro H F ⟨rfl,f⟩;have:=St.mk f;have d:=R.up (b:=F);have G:=X.up (b:=F);have T:=d.g2;have J:=bJ (b:=F) c)))
 all_goals (
  go_wp2_with fail;obtain⟨Z,H,P,f,hk,ff⟩:=d.put2 J (by omega) (.string ⟨N⟩) (.string ⟨O⟩) rfl rfl;rw[H];exact aM (v:= .agg #[.string ⟨N⟩,.string ⟨O⟩]) (by simp[results,results33,go_sem,P.k2]) rfl ⟨rfl,by first|exact f|exact f.drew⟩)
def PoAt(w:World)(v:Value)(x:Rat)(n:Int)(z:Bool):Prop:=∃i a f d j c h e,v= .agg #[.bool i,.slice a f d,.bool j,.slice c h e,.int .i64 n,.bool z]∧RatAt w (.agg #[.bool i,.slice a f d,.bool j,.slice c h e]) x
def Bx.put6(h:Bx W b cs t)(H:Below B w W)(c:B<=b)(v0 v1 v2 v3 v4 v5:Value){e i j l:Value}{k:Int}(I:cs=[e,f,i,j,.int .i64 k,l])(hn:(cS (some e)&&(cS (some f)&&(cS (some i)&&(cS (some j)&&cS (some l)))))=true):
  ∃d,(((((W.setCell ⟨b,0,none⟩ v0).setCell ⟨b,1,none⟩ v1).setCell ⟨b,2,none⟩ v2).setCell ⟨b,3,none⟩ v3).setCell ⟨b,4,none⟩ v4).setCell ⟨b,5,none⟩ v5=d∧Bx d b [v0,v1,v2,v3,v4,v5] t∧Below B w d∧Keep W d∧∀{g:Nat} {cs:List Value} {t:TypeId},Bx W g cs t->(a:b≠g:=by omega)->Bx d g cs t:=by
 subst I;simp only[az7] at hn;obtain⟨P,rfl,C,n,J,v⟩:=h.put1 H c 0 v0 hn.1;obtain⟨Q,rfl,D,o,K,x⟩:=C.put1 n c 1 v1 hn.2.1;obtain⟨R,rfl,E,q,L,y⟩:=D.put1 o c 2 v2 hn.2.2.1;obtain⟨S,rfl,m,r,M,z⟩:=E.put1 q c 3 v3 hn.2.2.2.1;have s:=r.setCell (p:=⟨b,4,none⟩) c v4;have N:=Keep.puti (m.cell 4 rfl) v4;have F:=m.set 4 v4;obtain⟨T,rfl,G,u,O,A⟩:=F.put1 s c 5 v5 hn.2.2.2.2;exact⟨_,rfl,G,u,((((J.trans K).trans L).trans M).trans N).trans O,fun k a=>A ((z (y (x (v k a) a) a) a).far 4 v4 a) a⟩
section
variable {w:World}{b g:Nat}{v0 v1 v2 v3 v4 v5:Value}
def qV(a:b≠g){o:Nat}(h:w.cell? ⟨g,o,none⟩=some u):((((((w.setCell ⟨b,0,none⟩ v0).setCell ⟨b,1,none⟩ v1).setCell ⟨b,2,none⟩ v2).setCell ⟨b,3,none⟩ v3).setCell ⟨b,4,none⟩ v4).setCell ⟨b,5,none⟩ v5).cell? ⟨g,o,none⟩=some u:=by
 exact(aL _ _ _ _ _ _ a).trans ((aL _ _ _ _ _ _ a).trans ((aL _ _ _ _ _ _ a).trans ((aL _ _ _ _ _ _ a).trans ((aL _ _ _ _ _ _ a).trans ((aL _ _ _ _ _ _ a).trans h)))))
def ZY(a:b≠g){u2 u3:Value}(h:C4 w g u0 u1 u2 u3):C4 ((((((w.setCell ⟨b,0,none⟩ v0).setCell ⟨b,1,none⟩ v1).setCell ⟨b,2,none⟩ v2).setCell ⟨b,3,none⟩ v3).setCell ⟨b,4,none⟩ v4).setCell ⟨b,5,none⟩ v5) g u0 u1 u2 u3:=⟨qV a h.1,qV a h.2.1,qV a h.2.2.1,qV a h.2.2.2⟩
def ZZ(a:b≠g)(h:C2 w g u0 u1):C2 ((((((w.setCell ⟨b,0,none⟩ v0).setCell ⟨b,1,none⟩ v1).setCell ⟨b,2,none⟩ v2).setCell ⟨b,3,none⟩ v3).setCell ⟨b,4,none⟩ v4).setCell ⟨b,5,none⟩ v5) g u0 u1:=⟨qV a h.1,qV a h.2⟩
end
def ax0(s:List Int)(x:Rat):decide (fE s x.num x.den=0)=decide (aP s 0 x=0):=by
 unfold aP;rw[if_pos rfl];exact decide_eq_decide.2 (by rw[Int.sign_eq_zero_iff_zero])
def ax1(s:List Int)(c:List (List Int))(B E:Nat)(x:Rat)(vc vr vx:Value)(w:World)(H:Bx w E [vc,vr] 83)(hv:WsAt w B 39 vc (s :: c))(y:RatAt w vx x)(an:(s :: c).length<=1024)(K:Nat)(J:∀a∈s :: c,a≠[]∧a.length<=65∧∀n∈a,nl n.natAbs<=K)(C:RL K x)(ac:140*K+10<=17592186044416):
  Calls prog 51 #[.pointer (some ⟨E,0,none⟩),vx] w fun e w'=>∃v',e= .returned v'∧PoAt w' v' x (aY 0 ((s :: c).map (fun a=>aP a 0 x)):Nat) (decide (aP s 0 x=0))∧Below w.1.size w w':=by
 obtain⟨r,d,o,k,t,f,q,m,rfl⟩:=y.form;obtain⟨A,Q,rfl,hc⟩:=hv.form;obtain⟨j,u0,rfl,ae,hu,ah⟩:=hv.at_ (i:=0) (l:=s) rfl;obtain⟨N,P,rfl,ap⟩:=ah.form;have aq:(0:Int)<((s :: c).length:Int):=by rw[eG];omega
 have z:=J s (iC ..);have af:=fun W h G=>BV (s :: c) B 0 x (.slice (some ⟨j,0,none⟩) (s :: c).length Q) (.agg #[.bool r,.slice d o k,.bool t,.slice f q m,.int .i64 0]) W h G (by decide) an K J C ac;have ad:=fun W h G=>CB s x (.slice N s.length P) (.agg #[.bool r,.slice d o k,.bool t,.slice f q m]) W h G K z.2.2 C z.2.1 ac;have O:=xK (ns:=s) (a:=x.num) (b:=x.den) (T:=BN^K) (fun n h=>mS (z.2.2 n h)) (mS C.1) (mS C.2);have aj:nl (fE s x.num x.den).natAbs<=K*65+1:=by
  refine cJ (jI O.1 (aZ (xL (by omega)).1 (cO (by decide) ?_)));have:=eV K z.2.1;omega
 have ag:=fun W u h=>g9 (fE s x.num x.den) u W h (by omega);rw[ax0] at ag;have ao:=H.lt;unfold eO at af;unfold dW at ad;generalize (aY 0 ((s :: c).map (fun a=>aP a 0 x)):Nat)=V at *;generalize decide (aP s 0 x=0)=Z at *;generalize fE s x.num x.den=au at *;clear J z O aj C;have ar:0<(s :: c).length:=by rw[eG];omega
 generalize (s :: c).length=n at *;obtain⟨W,U,I,X,R⟩:=eL w [.bool r,.slice d o k,.bool t,.slice f q m] 48 [.bool false,.slice none 0 0,.bool false,.slice none 0 0,.int .i64 0,.bool false] 86;have cM:=aa X.g4 R.g6;go_enter func51,ntmps51;go_wp2_with fail;(try rw[U]);clear U;have:=St.mk I;have n1:w.1.size+1≠w.1.size:=by omega
 have n2:w.1.size+1≠E:=by omega
 have n3:w.1.size+1≠j:=by omega
 go_region_held3 (fun w'=>C4 w' w.1.size (.bool r) (.slice d o k) (.bool t) (.slice f q m)∧C2 w' E (.slice (some ⟨j,0,none⟩) n Q) vr∧w'.cell? ⟨j,0,none⟩=some (.slice N s.length P))
  (first
   |(with_reducible exact⟨X.up.k4,H.up.k2,((Up.out (a:=w)).cell (p:=⟨j,0,none⟩) ae).trans hu⟩)
   |(with_reducible exact⟨ZY n1 X.up.k4,ZZ n2 H.up.k2,qV n3 (((Up.out (a:=w)).cell (p:=⟨j,0,none⟩) ae).trans hu)⟩))
  (first
   |(go_at_call 102;refine(af _ hv.up (EndAt.of y.up)).mono ?_;rintro e5 L ⟨rfl,al⟩;have:=St.mk al;have D:=R.up (b:=L);have ak:=D.g6;have Y:=bJ (b:=L) I;have ai:=y.up (b:=L))
   |(go_at_call 27;refine(ad _ ah.up y.up).mono ?_;rintro S w6 ⟨v6,rfl,h6,F⟩;have:=St.mk F)
   |(go_at_call 28;refine(ag _ _ h6.up).mono ?_;rintro e7 M ⟨rfl,am⟩;have:=St.mk am;have D:=R.up (b:=M);have ak:=D.g6;have Y:=bJ (b:=M) I;have ai:=y.up (b:=M)))
 all_goals (
  go_wp2_with fail;obtain⟨W6,S,R6,F,hk,ff⟩:=D.put6 Y (by omega) (.bool r) (.slice d o k) (.bool t) (.slice f q m) (.int .i64 (V:Int)) (.bool Z) rfl rfl;rw[S];exact aM (v:= .agg #[.bool r,.slice d o k,.bool t,.slice f q m,.int .i64 (V:Int),.bool Z]) (by simp[results,results51,go_sem,R6.k6]) rfl ⟨_,rfl,⟨_,_,_,_,_,_,_,_,rfl,ai.ke hk⟩,by first|exact F|exact F.drew⟩)
structure Fr(gb:Nat)(v:Value)(w w':World):Prop where
 be:Below gb w w'
 ke:Keep w w'
 block:∀k,gb<k->k<w.1.size->v.ownBlock≠some k->w'.heap[k]? =w.heap[k]?
def OwnTo(w:World)(v v':Value):Prop:=∀g,v'.ownBlock=some g->v.ownBlock=some g∨w.1.size<=g
def Fr.of(h:Below w.1.size w w')(b:a<=w.1.size):Fr a v w w':=⟨h.mono b,Keep.be h,fun k _ c _=>h.block k c⟩
def Fr.trans{i:Value}{j:World}(h:Fr a v w w1)(b:Fr a i w1 j)(l:OwnTo w v i):Fr a v w j:=
 ⟨h.be.trans b.be,h.ke.trans b.ke,fun k c d f=>(b.block k c (aZ d h.be.size) (fun e=>by
  rcases l k e with g|g
  ·exact f g
  ·omega)).trans (h.block k c d f)⟩
def OwnTo.trans{b c:Value}(h:OwnTo w v b)(d:OwnTo w1 b c)(f:w.1.size<=w1.1.size):OwnTo w v c:=fun g e=>by
 rcases d g e with a|a
 ·exact h g a
 ·exact .inr (aH f a)
def Bx.fr(h:Bx w g cs t)(b:Fr a v w w')(c:a<g)(hv:v.ownBlock≠some g):Bx w' g cs t:=(b.block g c h.lt hv).trans h
def SpRow(w:World)(rows:List (List Value))(l:List (Rat×Rat)):Prop:=rows.length=l.length∧∀(i:Nat) (p:Rat×Rat),l[i]? =some p->∃q a k f r b m g s c n h t d o j,rows[i]? =some [Value.bool q,.slice a k f,.bool r,.slice b m g,.bool s,.slice c n h,.bool t,.slice d o j]∧RatAt w (.agg #[.bool q,.slice a k f,.bool r,.slice b m g]) p.1∧RatAt w (.agg #[.bool s,.slice c n h,.bool t,.slice d o j]) p.2
def SpRow.ke{rows:List (List Value)}{l:List (Rat×Rat)}(h:SpRow w rows l)(a:Keep w w'):SpRow w' rows l:=⟨h.1,fun i p q=>by
 obtain⟨v,b,r,g,y,c,s,j,z,d,t,k,A,f,u,m,e,n,o⟩:=h.2 i p q;exact⟨v,b,r,g,y,c,s,j,z,d,t,k,A,f,u,m,e,n.ke a,o.ke a⟩⟩
def RowSp(w:World)(a:Nat)(v:Value)(l:List (Rat×Rat)):Prop:=∃rows,GrowD w a 57 8 v rows∧SpRow w rows l
def RowSp.be{l:List (Rat×Rat)}(h:RowSp w a v l)(b:Below w.1.size w w'):RowSp w' a v l:=by
 obtain⟨f,c,d⟩:=h;exact⟨f,c.be b,d.ke (Keep.be b)⟩
def RowSp.lt{l:List (Rat×Rat)}(h:RowSp w a v l):∀g,v.ownBlock=some g->a<=g∧g<w.1.size:=by
 obtain⟨d,b,c⟩:=h;exact b.lt
def RowSp.nil(w:World)(a:Nat):RowSp w a (.slice none 0 0) []:=⟨[],GrowD.nil,rfl,fun i p h=>by simp at h⟩
def RowSp.form{l:List (Rat×Rat)}(h:RowSp w a v l):∃A c,v= .slice A l.length c∧l.length<=c:=by
 obtain⟨f,b,d⟩:=h;rw[<-d.1];exact b.form
def L6:(Tryz.prog.info? 57).map (fun i=>(i.zero,i.size,i.bytes))=some (some (.agg #[.bool false,.slice none 0 0,.bool false,.slice none 0 0,.bool false,.slice none 0 0,.bool false,.slice none 0 0]),8,128):=by kernel_rfl
def yB(n:Nat):∀y∈Builtin.zeroCells (Value.agg #[.bool false,.slice none 0 0,.bool false,.slice none 0 0,.bool false,.slice none 0 0,.bool false,.slice none 0 0]).cells n,NoInt y:=fun y b=>by
 unfold Builtin.zeroCells at b;obtain⟨j,_,rfl⟩:=Array.mem_map.1 b;have a:(Value.agg #[.bool false,.slice none 0 0,.bool false,.slice none 0 0,.bool false,.slice none 0 0,.bool false,.slice none 0 0]).cells= #[Value.bool false,.slice none 0 0,.bool false,.slice none 0 0,.bool false,.slice none 0 0,.bool false,.slice none 0 0]:=rfl;rw[a];have a:(#[Value.bool false,.slice none 0 0,.bool false,.slice none 0 0,.bool false,.slice none 0 0,.bool false,.slice none 0 0]:Array Value).size=8:=rfl;rw[a];rcases(show j%8=0∨j%8=1∨j%8=2∨j%8=3∨j%8=4∨j%8=5∨j%8=6∨j%8=7 by omega) with h|h|h|h|h|h|h|h<;>rw[h]
 ·exact NoInt.bool _
 ·exact NoInt.slice _ _ _
 ·exact NoInt.bool _
 ·exact NoInt.slice _ _ _
 ·exact NoInt.bool _
 ·exact NoInt.slice _ _ _
 ·exact NoInt.bool _
 ·exact NoInt.slice _ _ _
def Bx.grown{a:Option Nat}(h:Bx w g cs t)(b:w.grownBy w' a)(c:a≠some g):Bx w' g cs t:=(b.block g h.lt (fun e=>c e.symm)).trans h
def L7{d:World}{vc vr b:Value}{rows:List (List Value)}{q:List (Rat×Rat)}{Q R S T:Bool}{s t u v:Option Addr}{L M N O C E F:Nat}
  (l:Below w.1.size w W)(ai:a<w.1.size)(P:Bx W a [vc,vr] 83)(ah:∃A k c,vr= .slice A k c)(hG:GrowD W (a+1) 57 8 vr rows)(hS:SpRow W rows q)(hx:RatAt W (.agg #[.bool Q,.slice s L B,.bool R,.slice t M C]) x)(hy:RatAt W (.agg #[.bool S,.slice u N E,.bool T,.slice v O F]) y)
  (H:GrowD d (a+1) 57 8 b (rows++[[.bool Q,.slice s L B,.bool R,.slice t M C,.bool S,.slice u N E,.bool T,.slice v O F]]))(j:Keep W d)(f:W.grownBy d vr.ownBlock)(ho:b.ownBlock=vr.ownBlock∨b.ownBlock=some W.1.size):
  Bx (d.setCell ⟨a,1,none⟩ b) a [vc,b] 83∧RowSp (d.setCell ⟨a,1,none⟩ b) (a+1) b (q++[(x,y)])∧Fr a vr w (d.setCell ⟨a,1,none⟩ b)∧OwnTo w vr b:=by
 have af:vr.ownBlock≠some a:=fun e=>by have:=(hG.lt a e).1;omega
 have z:=P.grown f af;obtain⟨A,k,c,rfl⟩:=ah;have o:Keep d (d.setCell ⟨a,1,none⟩ b):=Keep.put (z.cell 1 rfl) (NoInt.slice _ _ _) b;have J:∀k,k≠a->(d.setCell ⟨a,1,none⟩ b).heap[k]? =d.heap[k]? :=fun k j=>Below.heap_setCell d ⟨a,1,none⟩ b k j;have aj:(d.setCell ⟨a,1,none⟩ b).1.size=d.1.size:=by simp[World.setCell]
 refine⟨z.set 1 b,⟨_,H.kept (fun g e=>J g (by have:=(H.lt g e).1;omega)),?_⟩,⟨?_,((Keep.be l).trans j).trans o,fun k G r h3=> ?_⟩,fun g e=> ?_⟩
 ·have m:=hS.ke (j.trans o);refine⟨by rw[bE,bE,m.1];rfl,fun i p n=> ?_⟩;rcases dE i q.length with I|I
  ·rw[gA I] at n;obtain⟨t1,U,l1,d1,t2,X,l2,d2,t3,Y,l3,d3,t4,Z,l4,d4,e,G,r⟩:=m.2 i p n;exact⟨t1,U,l1,d1,t2,X,l2,d2,t3,Y,l3,d3,t4,Z,l4,d4,by rw[gA (by have:=m.1;omega)];exact e,G,r⟩
  ·have ae:=(List.getElem?_eq_some_iff.1 n).1;rw[bE,iJ] at ae;obtain rfl:i=q.length:=by omega
   rw[fK aE,azV] at n;have ag:(x,y)=p:=by simpa using n
   subst ag;exact⟨_,_,_,_,_,_,_,_,_,_,_,_,_,_,_,_,by rw[fK (by have:=m.1;omega),m.1,azV];rfl,hx.ke (j.trans o),hy.ke (j.trans o)⟩
 ·have ac:Below a w W:=l.mono (by omega);have ad:Below a W d:=⟨f.os,f.tape,f.output,f.size,fun k j=>f.block k (by have:=l.size;omega) (fun e=>by have:=(hG.lt k e.symm).1;omega)⟩;exact(ac.trans ad).setCell (p:=⟨a,1,none⟩) aE b
 ·rw[J k (by omega),f.block k (by have:=l.size;omega) (fun e=>h3 e.symm)];exact l.block k r
 ·rcases ho with h|h
  ·exact .inl (by rw[<-h];exact e)
  ·rw[h] at e;injection e with e;exact .inr (by have:=l.size;omega)
def yC(wb w:World)(vc vr:Value)(a:List (Rat×Rat))(e:Ending)(w':World):Prop:=∃v',e= .returned (.tuple #[])∧Bx w' wb.1.size [vc,v'] 83∧RowSp w' (wb.1.size+1) v' a∧Fr wb.1.size vr w w'∧OwnTo w vr v'
def PoAt.of{i j:Bool}{a b:Option Addr}{f d:Nat}(h:RatAt w (.agg #[.bool i,.slice a f c,.bool j,.slice b g d]) x):PoAt w (.agg #[.bool i,.slice a f c,.bool j,.slice b g d,.int .i64 n,.bool z]) x n z:=⟨_,_,_,_,_,_,_,_,rfl,h⟩
def SpanAt.of{o p q r:Bool}{a b c:Option Addr}{f l m n:Nat}(h:RatAt w (.agg #[.bool o,.slice a k f,.bool p,.slice b l g]) x)(s:RatAt w (.agg #[.bool q,.slice c m i,.bool r,.slice d n j]) y):SpanAt w (.agg #[.bool o,.slice a k f,.bool p,.slice b l g,.bool q,.slice c m i,.bool r,.slice d n j]) x y:=⟨_,_,_,_,_,_,_,_,_,_,_,_,_,_,_,_,rfl,h,s⟩
def PoAt.ke(h:PoAt w v x n z)(a:Keep w w'):PoAt w' v x n z:=by
 obtain⟨j,b,g,d,k,c,i,f,rfl,h⟩:=h;exact⟨_,_,_,_,_,_,_,_,rfl,h.ke a⟩
def GrowD.form3{rows:List (List Value)}(h:GrowD w a e k v rows):∃A n c,v= .slice A n c:=by
 obtain⟨A,c,e, -⟩:=h.form;exact⟨A,_,c,e⟩
def yD(o p q r:Bool)(b c d f:Option Addr)(k g l h m i n j:Nat):∀u∈[Value.bool o,.slice b k g,.bool p,.slice c l h,.bool q,.slice d m i,.bool r,.slice f n j],NoInt u∧u.oneCell'=true:=fun u a=>by
 simp at a;rcases a with rfl|rfl|rfl|rfl|rfl|rfl|rfl|rfl
 ·exact⟨NoInt.bool _,rfl⟩
 ·exact⟨NoInt.slice _ _ _,rfl⟩
 ·exact⟨NoInt.bool _,rfl⟩
 ·exact⟨NoInt.slice _ _ _,rfl⟩
 ·exact⟨NoInt.bool _,rfl⟩
 ·exact⟨NoInt.slice _ _ _,rfl⟩
 ·exact⟨NoInt.bool _,rfl⟩
 ·exact⟨NoInt.slice _ _ _,rfl⟩
section
variable {V:Rat->Nat}{sg:Rat->Int}{K:Nat}{D:Rat->Rat->Prop}{wb:World}{vc:Value}(hG:Glob wb)(hA:uN K D)(hV:∀x,V x<=1024)(hK1:1<=K)(hK2:K<=1073741824)
 (hat:∀(x:Rat) (W:World) (vr vx:Value),Bx W wb.1.size [vc,vr] 83->Below wb.1.size wb W->RatAt W vx x->RL K x->Calls prog 51 #[.pointer (some ⟨wb.1.size,0,none⟩),vx] W fun e w'=>∃v',e= .returned v'∧PoAt w' v' x (V x) (decide (sg x=0))∧Below W.1.size W w')
include hG hA hV hK1 hK2 hat
def ZR{a b:Rat}{l:List (Rat×Rat)}(h:ExK K D V sg a b l):RL K a->RL K b->∀(T:List (Rat×Rat)) (vr va vb:Value) (w:World),Bx w wb.1.size [vc,vr] 83->Below wb.1.size wb w->RowSp w (wb.1.size+1) vr T->PoAt w va a (V a) (decide (sg a=0))->PoAt w vb b (V b) (decide (sg b=0))->T.length+l.length<=1048576->
  Calls prog 50 #[.pointer (some ⟨wb.1.size,0,none⟩),va,vb] w (yC wb w vc vr (T++l)):=by
 induction h with
 | @none a b h=>
  intro ka kb T vr va vb w P al k i f hl;obtain⟨I,r,E,z,J,s,F,A,rfl,i⟩:=i;obtain⟨L,t,G,B,M,y,H,C,rfl,f⟩:=f;have bi:=hV a;have ap:=hV b;have Q:=P.lt;rw[fH];have hn:((V a:Nat):Int)-((V b:Nat):Int)<=0:=by omega
  generalize decide (sg a=0)=za at *;generalize decide (sg b=0)=zb at *;generalize V a=R at *;generalize V b=S at *;clear hat;obtain⟨W,n,c,X,Y⟩:=eL w [.bool I,.slice r E z,.bool J,.slice s F A,.int .i64 (R:Int),.bool za] 86 [.bool L,.slice t G B,.bool M,.slice y H C,.int .i64 (S:Int),.bool zb] 86;have cM:=aa X.g6 Y.g6;go_enter func50,ntmps50;go_wp2_with fail;(try rw[n]);clear n;exact aM (v:= .tuple #[]) (by simp[results,results50,go_sem]) rfl ⟨vr,rfl,P.be c,k.be c,Fr.of c (iE Q),fun g e=> .inl e⟩
 | @hit a b h ai=>
  intro ka kb T vr va vb w P al k i f hl;obtain⟨I,r,E,z,J,s,F,A,rfl,i⟩:=i;obtain⟨L,t,G,B,M,y,H,C,rfl,f⟩:=f;have ap:=hV b;have Q:=P.lt;have p:=k.lt;obtain⟨U,ac,ah⟩:=k;obtain⟨Ar,cr,rfl,bk⟩:=ac.form;have hN:((V a:Nat):Int)-((V b:Nat):Int)=1:=by omega
  clear h;have a0:=ah.1;have a1:U.length<=1073741824:=by omega
  clear a0;have am:decide (sg b=0)=true:=decide_eq_true ai;rw[am];clear am ai;generalize decide (sg a=0)=za at *;generalize V a=R at *;generalize V b=S at *;clear hat;obtain⟨W,n,c,X,Y⟩:=eL w [.bool I,.slice r E z,.bool J,.slice s F A,.int .i64 (R:Int),.bool za] 86 [.bool L,.slice t G B,.bool M,.slice y H C,.int .i64 (S:Int),.bool true] 86;have cM:=aa X.g6 Y.g6;go_enter func50,ntmps50;go_wp2_with fail;(try rw[n]);clear n;have:=St.mk c;have aq:(Value.slice Ar U.length cr).ownBlock≠some w.1.size:=fun e=>by have:=(p _ e).2;omega
  have ad:(Value.slice Ar U.length cr).ownBlock≠some (w.1.size+1):=fun e=>by have:=(p _ e).2;omega
  have ao:(Value.slice Ar U.length cr).ownBlock≠some wb.1.size:=fun e=>by have:=(p _ e).1;omega
  have n1:wb.1.size≠w.1.size:=by omega
  have n2:wb.1.size≠w.1.size+1:=by omega
  have cP:=(P.up (b:=W.drew)).k2;have a9:=(P.up (b:=W)).cell 1 rfl;have dP:=fun o:Obj=>((P.up (b:=W.drew)).alloc o).cell 1 rfl;have l1:wb.1.size<W.1.size:=(P.up (b:=W)).lt;have l2:wb.1.size≠W.1.size:=bxQ l1;have l3:W.1.size≠wb.1.size:=Nat.ne_of_gt l1;have cX:=X.k6;have cY:=Y.k6;have aw:=X.lt;have ax:=Y.lt;have bn:=bxQ aw;have bo:=bxQ ax
  go_region_law (first
    |(refine LB (by rfl) (by rfl) 57 8 128 _ underlying53 L6 rfl yB (by decide) (by decide) (by rfl) ac.up (by rfl) (Bx.new _ _ _) rfl (yD _ _ _ _ _ _ _ _ _ _ _ _ _ _ _ _) a1 (by have:=c.size;simp;omega) ?_;intro v9 w9 ag av O az;obtain⟨A9,L9,m9,rfl⟩:=ag.form3;have X9:=Bx.grown X.up O aq;have Y9:=Bx.grown Y.up O ad;have P9:=Bx.grown P.up O ao;have c9:=P9.g2;have bf:=X9.k6;have bg:=Y9.k6;have SP:=L7 (Up.out (a:=w)) Q P.up ⟨_,_,_,rfl⟩ ac.up (ah.ke (Keep.be (Up.out (a:=w)))) f.up f.up ag av O az))
  all_goals (
   go_wp2_with fail;obtain⟨z1,z2,z3,z4⟩:=SP;exact aM (v:= .tuple #[]) (by simp[results,results50,go_sem]) rfl ⟨_,rfl,z1,z2,z3,z4⟩)
 | @one a b h ai a2=>
  intro ka kb T vr va vb w P al k i f hl;obtain⟨I,r,E,z,J,s,F,A,rfl,i⟩:=i;obtain⟨L,t,G,B,M,y,H,C,rfl,f⟩:=f;have ap:=hV b;have Q:=P.lt;have p:=k.lt;obtain⟨U,ac,ah⟩:=k;obtain⟨Ar,cr,rfl,bk⟩:=ac.form;have hN:((V a:Nat):Int)-((V b:Nat):Int)=1:=by omega
  clear h;have a0:=ah.1;have a1:U.length<=1073741824:=by omega
  clear a0;have am:decide (sg b=0)=false:=decide_eq_false ai;have a5:decide (sg a=0)=false:=decide_eq_false a2;rw[am,a5];clear am ai a5 a2;generalize V a=R at *;generalize V b=S at *;clear hat;obtain⟨W,n,c,X,Y⟩:=eL w [.bool I,.slice r E z,.bool J,.slice s F A,.int .i64 (R:Int),.bool false] 86 [.bool L,.slice t G B,.bool M,.slice y H C,.int .i64 (S:Int),.bool false] 86;have cM:=aa X.g6 Y.g6;go_enter func50,ntmps50;go_wp2_with fail;(try rw[n]);clear n;have:=St.mk c;have aq:(Value.slice Ar U.length cr).ownBlock≠some w.1.size:=fun e=>by have:=(p _ e).2;omega
  have ad:(Value.slice Ar U.length cr).ownBlock≠some (w.1.size+1):=fun e=>by have:=(p _ e).2;omega
  have ao:(Value.slice Ar U.length cr).ownBlock≠some wb.1.size:=fun e=>by have:=(p _ e).1;omega
  have n1:wb.1.size≠w.1.size:=by omega
  have n2:wb.1.size≠w.1.size+1:=by omega
  have cP:=(P.up (b:=W.drew)).k2;have a9:=(P.up (b:=W)).cell 1 rfl;have dP:=fun o:Obj=>((P.up (b:=W.drew)).alloc o).cell 1 rfl;have l1:wb.1.size<W.1.size:=(P.up (b:=W)).lt;have l2:wb.1.size≠W.1.size:=bxQ l1;have l3:W.1.size≠wb.1.size:=Nat.ne_of_gt l1;have cX:=X.k6;have cY:=Y.k6;have aw:=X.lt;have ax:=Y.lt;have bn:=bxQ aw;have bo:=bxQ ax
  go_region_law (first
    |(refine LB (by rfl) (by rfl) 57 8 128 _ underlying53 L6 rfl yB (by decide) (by decide) (by rfl) ac.up (by rfl) (Bx.new _ _ _) rfl (yD _ _ _ _ _ _ _ _ _ _ _ _ _ _ _ _) a1 (by have:=c.size;simp;omega) ?_;intro v9 w9 ag av O az;obtain⟨A9,L9,m9,rfl⟩:=ag.form3;have X9:=Bx.grown X.up O aq;have Y9:=Bx.grown Y.up O ad;have P9:=Bx.grown P.up O ao;have c9:=P9.g2;have bf:=X9.k6;have bg:=Y9.k6;have SP:=L7 (Up.out (a:=w)) Q P.up ⟨_,_,_,rfl⟩ ac.up (ah.ke (Keep.be (Up.out (a:=w)))) i.up f.up ag av O az))
  all_goals (
   go_wp2_with fail;obtain⟨z1,z2,z3,z4⟩:=SP;exact aM (v:= .tuple #[]) (by simp[results,results50,go_sem]) rfl ⟨_,rfl,z1,z2,z3,z4⟩)
 | @split a b l m h h' hd hk bm hm a6 a7=>
  intro ka kb T vr va vb w P al k i f hl;obtain⟨I,r,E,z,J,s,F,A,rfl,i⟩:=i;obtain⟨L,t,G,B,M,y,H,C,rfl,f⟩:=f;have bi:=hV a;have ap:=hV b;have Q:=P.lt;have p:=k.lt;have ay:=fun W hG h=>ZW D a b (.agg #[.bool I,.slice r E z,.bool J,.slice s F A,.bool L,.slice t G B,.bool M,.slice y H C]) W hG h K ka kb hK1 hK2 hA hd;have a3:=fun W vx P c h=>hat ((a+b)/2) W vr vx P c h hk;have i1:=fun vm W P c k h1 h2=>a6 ka hk T vr (.agg #[.bool I,.slice r E z,.bool J,.slice s F A,.int .i64 (V a:Int),.bool (decide (sg a=0))]) vm W P c k h1 h2 (by rw[bE] at hl;omega);have i2:=fun v1 vm W P c k h1 h2=>a7 hk kb (T++l) v1 vm (.agg #[.bool L,.slice t G B,.bool M,.slice y H C,.int .i64 (V b:Int),.bool (decide (sg b=0))]) W P c k h1 h2 (by rw[bE] at hl⊢;omega);have bh:¬((V a:Nat):Int)-((V b:Nat):Int)<=0:=by omega
  have hZ:((V a:Nat):Int)-((V b:Nat):Int)=1->decide (sg a=0)=true∧decide (sg b=0)=false:=fun e=>⟨decide_eq_true (h' (by omega)).2,decide_eq_false (h' (by omega)).1⟩;have a4:Glob w:=hG.be al;have ae:=fun (W':World) (u:Below w.1.size w W')=>al.trans (u.mono (iE Q));rw[<-eK];unfold iF at ay;unfold yC at i1 i2;unfold yC;clear a6 a7 hat hV h h' hl hk bm hm ka kb hG hA hd;generalize (a+b)/2=a8 at *;generalize decide (sg a=0)=za at *;generalize decide (sg b=0)=zb at *;generalize decide (sg a8=0)=zm at *;generalize V a=R at *;generalize V b=S at *;generalize V a8=nm at *;obtain⟨N,hN⟩:∃N:Int,(R:Int)-(S:Int)=N:=⟨_,rfl⟩;rw[hN] at hZ bh;have bq:IntKind.i64.wrap N=N:=IntWalk.i64_in _ ⟨by omega,by omega⟩;have bp: -1024<=N∧N<=1024:=by omega
  have ad:vr.ownBlock≠some (w.1.size+1):=fun e=>by have:=(p _ e).2;omega
  by_cases an:N=1
  ·obtain⟨rfl,rfl⟩:=hZ an;subst an;clear hZ;obtain⟨W,n,c,X,Y⟩:=eL w [.bool I,.slice r E z,.bool J,.slice s F A,.int .i64 (R:Int),.bool true] 86 [.bool L,.slice t G B,.bool M,.slice y H C,.int .i64 (S:Int),.bool false] 86;have cM:=aa X.g6 Y.g6;go_enter func50,ntmps50;go_wp2_with fail;(try rw[n]);clear n;have bj:=c.size;have:=St.mk c;refine(ay _ (a4.be c) (SpanAt.of i.up f.up)).mono ?_;rintro e5 w5 ⟨v5,rfl,h5,aj⟩;have:=St.mk aj;obtain⟨s5,A5,k5,c5,s6,A6,k6,c6,rfl⟩:=h5.form;have ba:=aa (X.up (b:=w5)).k6 (Y.up (b:=w5)).k6;go_wp2_with fail;refine(a3 _ _ P.up (ae _ (Up.out (a:=w))) h5).mono ?_;rintro e6 w6 ⟨v6,rfl,h6,ak⟩;have:=St.mk ak;obtain⟨s7,A7,k7,c7,s8,A8,k8,c8,rfl,h7⟩:=h6;obtain⟨q,e7,au,Z⟩:=bI w6 [.bool s7,.slice A7 k7 c7,.bool s8,.slice A8 k8 c8,.int .i64 (nm:Int),.bool zm] 86;have:=St.mk au;have d:=Up.out (a:=w) (b:=q);have X7:=X.up (b:=q);have Y7:=Y.up (b:=q);have bb:=aa X7.k6 (aa Y7.k6 Z.k6);have s6:=ak.size;have s5:=aj.size;go_wp2_with fail;(try rw[e7]);(try clear e7);refine(i1 _ q (P.be d) (ae _ d) (k.be d) (PoAt.of (i.be d)) (PoAt.of h7.up)).mono ?_;rintro e8 w8 ⟨v8,rfl,P8,R8,j,O8⟩;have ar:vr.ownBlock≠some w6.1.size:=fun e=>by have:=(p _ e).2;omega
   have Y8:=Y7.fr j (by omega) ad;have Z8:=Z.fr j (by omega) ar;have bc:=aa Y8.k6 Z8.k6;go_wp2_with fail;refine(i2 v8 _ w8 P8 ((ae _ d).trans j.be) R8 (PoAt.of ((h7.up (b:=q)).ke j.ke)) (PoAt.of ((f.be d).ke j.ke))).mono ?_;rintro e9 w9 ⟨v9,rfl,P9,R9,F9,O9⟩;have af:OwnTo w vr v8:=fun g e=>(O8 g e).imp id (fun h=>aH d.size h);go_wp2_with fail;exact bodyPost_end (v:= .tuple #[]) (by simp[results,results50,go_sem]) rfl ⟨v9,rfl,P9,R9,((Fr.of d (iE Q)).trans j (fun g e=> .inl e)).trans F9 af,af.trans O9 (aH d.size j.be.size)⟩
  ·have q1:(N==1)=false:=by simpa using an
   clear hZ an;obtain⟨W,n,c,X,Y⟩:=eL w [.bool I,.slice r E z,.bool J,.slice s F A,.int .i64 (R:Int),.bool za] 86 [.bool L,.slice t G B,.bool M,.slice y H C,.int .i64 (S:Int),.bool zb] 86;have cM:=aa X.g6 Y.g6;go_enter func50,ntmps50;go_wp2_with fail;(try rw[n]);clear n;have bj:=c.size;have:=St.mk c;refine(ay _ (a4.be c) (SpanAt.of i.up f.up)).mono ?_;rintro e5 w5 ⟨v5,rfl,h5,aj⟩;have:=St.mk aj;obtain⟨s5,A5,k5,c5,s6,A6,k6,c6,rfl⟩:=h5.form;have ba:=aa (X.up (b:=w5)).k6 (Y.up (b:=w5)).k6;go_wp2_with fail;refine(a3 _ _ P.up (ae _ (Up.out (a:=w))) h5).mono ?_;rintro e6 w6 ⟨v6,rfl,h6,ak⟩;have:=St.mk ak;obtain⟨s7,A7,k7,c7,s8,A8,k8,c8,rfl,h7⟩:=h6;obtain⟨q,e7,au,Z⟩:=bI w6 [.bool s7,.slice A7 k7 c7,.bool s8,.slice A8 k8 c8,.int .i64 (nm:Int),.bool zm] 86;have:=St.mk au;have d:=Up.out (a:=w) (b:=q);have X7:=X.up (b:=q);have Y7:=Y.up (b:=q);have bb:=aa X7.k6 (aa Y7.k6 Z.k6);have s6:=ak.size;have s5:=aj.size;go_wp2_with fail;(try rw[e7]);(try clear e7);refine(i1 _ q (P.be d) (ae _ d) (k.be d) (PoAt.of (i.be d)) (PoAt.of h7.up)).mono ?_;rintro e8 w8 ⟨v8,rfl,P8,R8,j,O8⟩;have ar:vr.ownBlock≠some w6.1.size:=fun e=>by have:=(p _ e).2;omega
   have Y8:=Y7.fr j (by omega) ad;have Z8:=Z.fr j (by omega) ar;have bc:=aa Y8.k6 Z8.k6;go_wp2_with fail;refine(i2 v8 _ w8 P8 ((ae _ d).trans j.be) R8 (PoAt.of ((h7.up (b:=q)).ke j.ke)) (PoAt.of ((f.be d).ke j.ke))).mono ?_;rintro e9 w9 ⟨v9,rfl,P9,R9,F9,O9⟩;have af:OwnTo w vr v8:=fun g e=>(O8 g e).imp id (fun h=>aH d.size h);go_wp2_with fail;exact bodyPost_end (v:= .tuple #[]) (by simp[results,results50,go_sem]) rfl ⟨v9,rfl,P9,R9,((Fr.of d (iE Q)).trans j (fun g e=> .inl e)).trans F9 af,af.trans O9 (aH d.size j.be.size)⟩
end
def ay7(j:Nat):nl ((2:Int)^j).natAbs<=j/64+1:=by
 rw[Int.natAbs_pow]
 exact cJ (by
  have e:BN^(j/64+1)=2^(64*(j/64+1)):=by rw[azL];rfl
  rw[e];exact by9 (by decide) (by omega))
def uW(h:nl n.natAbs<=K)(a:1<=K):RL K (n:Rat):=⟨by rw[Rat.num_intCast];exact h,by rw[Rat.den_intCast];exact aH (cJ (m:=1) (by unfold BN;decide)) a⟩
def LU(x y:Rat):(x-y).num.sign<0↔x<y:=by
 rcases iY (x-y) with h|h|h
 ·rw[(fS _).2 h];exact⟨fun _=>by grind,fun _=>by decide⟩
 ·rw[h];exact⟨fun k=>absurd k (by decide),fun k=>by grind⟩
 ·rw[(fS _).1 h];exact⟨fun k=>absurd k (by decide),fun k=>by grind⟩
def Bx.old(h:Bx w g cs t)(a:Below B w w')(b:g<B):Bx w' g cs t:=(a.block g b).trans h
def PoAt.upp{a b:World}[u:Up a b](h:PoAt a v x n z):PoAt b v x n z:=h.ke (Keep.be u.out)
def DT(w:World)(P:List (Rat×Rat)->Prop)(e:Ending)(w':World):Prop:=∃a b l,e= .returned a∧P l∧RowSp w' b a l∧Below w.1.size w w'
def ay8(s:List Int)(b:Rat)(n K:Nat)(P:List (Rat×Rat)->Prop)(v u:Value)(w:World)(Q:Glob w)(hv:WholeAt w v s)(hu:RatAt w u b)(ts:aN s)(h0:s≠[])(Y:Sz s)(am:Pw b n)(hn:n<=40000)(kb:RL 110079 b)(av:110079<=K)(aw:K<=1073741824)(D:Rat->Rat->Prop)(hA:uN K D)
  (al:∀c,StT 110079 s (aS (bB s)) c->∃l,ExK K D (fun x=>aY 0 ((s :: c).map (fun a=>aP a 0 x))) (fun x=>aP s 0 x) (((-((2:Int)^n):Int)):Rat) ((((2:Int)^n:Int)):Rat) l∧l.length<=1048576∧P l):
  Calls prog 20 #[v,u] w (DT w P):=by
 obtain⟨A,c,rfl,hc⟩:=hv.form;obtain⟨s1,H,Z,J,s2,I,k2,L,rfl⟩:=hu.form;have ad:=fun W Q h=>KE s (.slice A s.length c) W Q h ts h0 Y;have td:=Q5 (lE ts);have kd:∀n∈aS (bB s),nl n.natAbs<=110079:=fun n hn=>by
  obtain⟨K,hK,av,aw, -⟩:=Y.ex;exact aH (gU (pL hK (by have:=Y.1;omega)) n hn) (by omega)
 have ld:(aS (bB s)).length=s.length-1:=by rw[dF,lZ]
 have ak:∀c,StT 110079 s (aS (bB s)) c->(s :: c).length<=8∧∀a∈s :: c,a≠[]∧a.length<=65∧∀n∈a,nl n.natAbs<=110079:=fun c h=>by
  have B:=h.len;have h7:=Y.1;refine⟨by rw[eG];omega,fun a ha=> ?_⟩;rcases List.mem_cons.1 ha with rfl|ha
  ·exact⟨h0,by omega,fun n hn=>aH (Y.nums n hn) (by omega)⟩
  ·obtain⟨e1,M,e3,e4⟩:=h.mem td kd a ha;exact⟨e1,by omega,e4⟩
 unfold y6 at ad;unfold DT;clear td kd ld;obtain⟨W,eW,d,X⟩:=bI w [.bool s1,.slice H Z J,.bool s2,.slice I k2 L] 48;have cM:=X.g4;go_enter func20,ntmps20;go_wp2_with fail;(try rw[eW]);clear eW;refine(lL 1 _ (by decide) (by decide)).mono ?_;rintro e1 w1 ⟨v1,rfl,B,af⟩;obtain⟨m,f,i,g,rfl⟩:=B.form;obtain⟨w2,M,ax,G⟩:=bI w1 [.bool m,.slice f i g] 42;have p:=aC af ax;have bv:=X.lt;have bw:=af.size;have bx:w.1.size<w1.1.size:=by omega
 replace X:=X.be p;replace d:=aC d p;have au:IntBx w2 w1.1.size ((2:Int)^0):=⟨_,_,_,_,G,B.be ax⟩;clear G B;go_wp2_with fail;(try rw[M]);(try clear M);generalize w1.1.size=O at *;go_loopg [] n (fun k wr=>∃j,Hid (j+k=n)∧IntBx wr O ((2:Int)^j)∧Bx wr w.1.size [.bool s1,.slice H Z J,.bool s2,.slice I k2 L] 48∧Below w.1.size w wr)
 case atStart=>exact⟨0,by unfold Hid;omega,au,X,d⟩
 case round=>
  clear au X d;obtain⟨j,HJ,⟨m,f,i,g,G,V⟩,X,d⟩:=hrel;generalize wr=wy at *;have bz:j<=n:=by have:=HJ.out;omega
  have kp:nl ((2:Int)^j).natAbs<=700:=aH (ay7 j) (by omega);have U:=fun W v h h'=>BY (((2:Int)^j:Int):Rat) b v (.agg #[.bool s1,.slice H Z J,.bool s2,.slice I k2 L]) W h h' 110079 (uW (aH kp (by decide)) (by decide)) kb (by decide);have ae:=fun W h=>BZ ((2:Int)^j) (.agg #[.bool m,.slice f i g]) W h;obtain⟨S,hS⟩:∃S,((((2:Int)^j:Int):Rat)-b).num.sign=S:=⟨_,rfl⟩;have R:=LU (((2:Int)^j:Int):Rat) b;rw[hS] at R U;unfold eO at U;unfold iF at ae;have aj:=hu.be d;have bu:=Q.be d;have b3:=hv.be d;have:=d;cases gk with
  |succ k=>
   have b1:S<0:=R.2 (am.2 j (by have:=HJ.out;omega));clear R hS ad al ak;have an:∀W,IntAt W (.agg #[.bool m,.slice f i g]) ((2:Int)^j)->Calls prog 19 #[.agg #[.bool m,.slice f i g],.int .u64 1] W (dW W ((2:Int)^j*2^1)):=fun W h=>YZ ((2:Int)^j) 1 (.agg #[.bool m,.slice f i g]) W h (by decide) (by omega);have M:(2:Int)^j*2^1=2^(j+1):=by rw[gR];rfl
   rw[M] at an;unfold dW at an;go_wp2_with fail
   go_region_held3 (fun t=>C2 t O (.bool m) (.slice f i g)∧C4 t w.1.size (.bool s1) (.slice H Z J) (.bool s2) (.slice I k2 L)) (with_reducible exact⟨G.up.k2,X.up.k4⟩)
    (first
     |(go_at_call 24;refine(ae _ V.up).mono ?_;rintro e4 w4 ⟨v4,rfl,h4,ag⟩;have:=St.mk ag)
     |(go_at_call 26;refine(U _ _ h4.up aj.up).mono ?_;rintro e5 o ⟨rfl,ah⟩;have:=St.mk ah))
   all_goals (
    have y:=G.up (b:=o);have X5:=X.up (b:=o);have a6:=aa y.g2 X5.k4;have q:=bJ (b:=o) d;go_wp2_with fail;refine(an _ (V.up (b:=o))).mono ?_;rintro e6 e ⟨v6,rfl,C,r⟩;obtain⟨s6,A6,k6,c6,rfl⟩:=C.form;have z:=y.be r;have X6:=X5.be r;have bp:=aa z.g2 X6.k4;have T:=aC q r;go_wp2_with fail;obtain⟨W7,N,G7,ai,hk,ff⟩:=z.put2 T (by omega) (.bool s6) (.slice A6 k6 c6) rfl rfl;rw[N];clear N;go_roundg k
    case rel=>exact⟨j+1,by have:=HJ.out;unfold Hid;omega,⟨_,_,_,_,G7,C.ke hk⟩,ff X6,ai⟩
    case measure=>omega)
  |zero=>
   obtain rfl:j=n:=HJ.out;have b2:¬S<0:=fun h=>by have:=R.1 h;have:=am.1;grind
   clear R hS;go_wp2_with fail
   go_region_held3 (fun t=>C2 t O (.bool m) (.slice f i g)∧C4 t w.1.size (.bool s1) (.slice H Z J) (.bool s2) (.slice I k2 L)) (with_reducible exact⟨G.up.k2,X.up.k4⟩)
    (first
     |(go_at_call 24;refine(ae _ V.up).mono ?_;rintro e4 w4 ⟨v4,rfl,h4,ag⟩;have:=St.mk ag)
     |(go_at_call 26;refine(U _ _ h4.up aj.up).mono ?_;rintro e5 o ⟨rfl,ah⟩;have:=St.mk ah))
   all_goals (
    have y:=G.up (b:=o);have q:=bJ (b:=o) d;have a6:=y.k2;have ay:=V.up (b:=o);clear ae U G X V aj;go_wp2_with fail;refine(ad _ (Q.be q) (hv.be q)).mono ?_;rintro e6 e ⟨v6,c,rfl,C,hT,r⟩;have z:=y.be r;have az:=ay.be r;have T:=aC q r;obtain⟨b0,E⟩:=ak c hT;obtain⟨l,a3,hl,hP⟩:=al c hT;have aq:=aB a3;have HP:=aB hP;replace E:=fun a h=>(⟨(E a h).1,(E a h).2.1,fun n hn=>aH ((E a h).2.2 n hn) av⟩:a≠[]∧a.length<=65∧∀n∈a,nl n.natAbs<=K);clear a3 hP;obtain⟨Ac,cc,rfl, -⟩:=C.form;clear ad al ak hT;have bj:O<e.1.size:=z.lt;have a0:=fun W h=>sQ ((2:Int)^j) (.agg #[.bool m,.slice f i g]) W h (aH kp (by decide));have a1:=fun W v h=>BZ (-((2:Int)^j)) v W h;have a2:=fun W h=>BZ ((2:Int)^j) (.agg #[.bool m,.slice f i g]) W h;have kn:RL K ((-((2:Int)^j):Int):Rat):=uW (by rw[azJ];exact aH kp (by omega)) (by omega);have kq:RL K (((2:Int)^j:Int):Rat):=uW (aH kp (by omega)) (by omega);have ac:=fun (x:Rat) (W:World) (vr F:Value) (P:Bx W e.1.size [.slice Ac (s :: c).length cc,vr] 83) (d:Below e.1.size e W) (h:RatAt W F x) (hk:RL K x)=>ax1 s c o.1.size e.1.size x (.slice Ac (s :: c).length cc) vr F W P (C.be d) h (by omega) K E hk (by omega);have hV:∀x:Rat,aY 0 ((s :: c).map (fun a=>aP a 0 x))<=1024:=fun x=>by have:=qR ((s :: c).map (fun a=>aP a 0 x)) 0;rw[cH] at this;omega
    have ao:=fun va vb W P p hR B h2=>ZR (wb:=e) (vc:= .slice Ac (s :: c).length cc) (Q.be T) hA hV (by omega) aw ac aq.out kn kq [] (.slice none 0 0) va vb W P p hR B h2 (by rw[azS];omega);have ba:=fun W F P p h=>ac ((-((2:Int)^j):Int):Rat) W (.slice none 0 0) F P p h kn;have bb:=fun W F P p h=>ac (((2:Int)^j:Int):Rat) W (.slice none 0 0) F P p h kq;rw[iM] at ao;unfold yC at ao;unfold dW at a0;unfold iF at a1 a2;clear ac aq hV E kb am kn kq C y ay;generalize (s :: c).length=nc at *;generalize aY 0 ((s :: c).map (fun a=>aP a 0 ((-((2:Int)^j):Int):Rat)))=Vn at *;generalize aY 0 ((s :: c).map (fun a=>aP a 0 (((2:Int)^j:Int):Rat)))=Vp at *;generalize decide (aP s 0 ((-((2:Int)^j):Int):Rat)=0)=Zn at *;generalize decide (aP s 0 (((2:Int)^j:Int):Rat)=0)=Zp at *;generalize ((-((2:Int)^j):Int):Rat)=xn at *;generalize (((2:Int)^j:Int):Rat)=xp at *;generalize (-((2:Int)^j))=pn at *;go_wp2_with fail;obtain⟨w7,N,ai,P⟩:=bI e [.slice Ac nc cc,.slice none 0 0] 83;rw[N];clear N;have:=St.mk ai;have cP:=P.g2
    go_region_held3 (fun t=>C2 t O (.bool m) (.slice f i g)) (first|(with_reducible exact z.up.k2)|(with_reducible exact G9.k2))
     (first
      |(go_at_call 41;refine(a0 _ az.up).mono ?_;rintro e8 w8 ⟨v8,rfl,h8,bh⟩;have:=St.mk bh)
      |(go_at_call 24;first|(with_reducible refine(a2 _ az.up).mono ?_;rintro e9 w9 ⟨v9,rfl,h9,bi⟩;have:=St.mk bi)|(with_reducible refine(a1 _ _ h8.up).mono ?_;rintro bq b8 ⟨b4,rfl,a7,bc⟩;have:=St.mk bc))
      |(go_at_call 51;first|(with_reducible refine(bb _ _ P.up (Up.out (a:=e)) h9.up).mono ?_;rintro br b9 ⟨b5,rfl,a8,bf⟩;have:=St.mk bf)|(with_reducible refine(ba _ _ P.up (Up.out (a:=e)) a7.up).mono ?_;rintro bs ca ⟨b6,rfl,a9,bg⟩;have:=St.mk bg))
      |(go_at_call 50;refine(ao _ _ _ P.up (Up.out (a:=e)) (RowSp.nil _ _) (a9.upp) (a8.upp)).mono ?_;rintro bt cb ⟨b7,rfl,a5,ar,ap,bm⟩;have G9:=Bx.old z.up ap.be bj;have a4:=(Up.out (a:=e)).trans ap.be;have bn:=a5.k2;obtain⟨bk,bo,rfl, -⟩:=ar.form))
    all_goals (
     go_wp2;go_ret;exact⟨_,_,l,rfl,HP.out,ar,aC T a4⟩))
def jG(p:List UInt8×List UInt8):List Value:=[.string ⟨p.1.toArray⟩,.string ⟨p.2.toArray⟩]
def IvsAt(w:World)(v:Value)(l:List (List UInt8×List UInt8)):Prop:=∃A c,v= .slice A l.length c∧l.length<=c∧(l=[]∨∃b,A=some ⟨b,0,none⟩∧b<w.1.size∧∀(i:Nat) (p:List UInt8×List UInt8),l[i]? =some p->w.cell? ⟨b,i*2,none⟩=some (.string ⟨p.1.toArray⟩)∧w.cell? ⟨b,i*2+1,none⟩=some (.string ⟨p.2.toArray⟩))
def IvsAt.be(h:IvsAt w v l)(a:Below w.1.size w w'):IvsAt w' v l:=by
 obtain⟨A,c,hv,g,h⟩:=h;refine⟨A,c,hv,g,?_⟩;rcases h with h|⟨b,e,d,f⟩
 ·exact .inl h
 ·exact .inr ⟨b,e,aZ d a.size,fun i p h=>⟨(a.cell (p:=⟨b,i*2,none⟩) d).trans (f i p h).1,(a.cell (p:=⟨b,i*2+1,none⟩) d).trans (f i p h).2⟩⟩
def IvsAt.form(h:IvsAt w v l):∃A c,v= .slice A l.length c∧l.length<=c:=by
 obtain⟨A,c,hv,a,_⟩:=h;exact⟨A,c,hv,a⟩
def IvsAt.at_{n:Nat}(h:IvsAt w (.slice A n c) l){p:List UInt8×List UInt8}(hi:l[i]? =some p):∃b,A=some ⟨b,0,none⟩∧b<w.1.size∧w.cell? ⟨b,i*2,none⟩=some (.string ⟨p.1.toArray⟩)∧w.cell? ⟨b,i*2+1,none⟩=some (.string ⟨p.2.toArray⟩):=by
 obtain⟨f,g,e,j,h⟩:=h;simp only[Value.slice.injEq] at e;obtain⟨rfl,rfl,rfl⟩:=e;rcases h with rfl|⟨b,e,d,a⟩
 ·simp at hi
 ·exact⟨b,e,d,(a i p hi).1,(a i p hi).2⟩
def GrowD.ivs(h:GrowD w g 37 2 v (l.map jG)):IvsAt w v l:=by
 obtain⟨A,c,rfl,d⟩:=h.form;rw[cH] at d;refine⟨A,c,by rw[cH],d,?_⟩;cases l with
 |nil=>exact .inl rfl
 |cons m l=>
  obtain⟨b,e, -,k, -⟩:=h.at_ (i:=0) (r:=jG m) rfl;refine .inr ⟨b,e,k,fun i p j=> ?_⟩;obtain⟨n,a, -, -,f⟩:=h.at_ (i:=i) (r:=jG p) (by rw[iK,j];rfl);rw[e] at a;simp only[Option.some.injEq,Addr.mk.injEq] at a;obtain⟨rfl,_⟩:=a;exact⟨f 0 _ rfl,f 1 _ rfl⟩
def IvsAt.built(w:World)(l:List (List UInt8×List UInt8))(t:TypeId):IvsAt (w.alloc (.cells (l.map jG).flatten.toArray t)) (.slice (some ⟨w.1.size,0,none⟩) l.length l.length) l:=by
 refine⟨_,_,rfl,aE,.inr ⟨w.1.size,rfl,by simp,fun i p e=> ?_⟩⟩;have B:=Bx.new w (l.map jG).flatten t;have b:∀r∈l.map jG,r.length=2:=fun r a=>by
  obtain⟨q, -,rfl⟩:=List.mem_map.1 a;rfl
 have a:(l.map jG)[i]? =some (jG p):=by rw[iK,e];rfl
 have c:=mW b a (j:=0) (by decide);have d:=mW b a (j:=1) (by decide);exact⟨B.cell (i*2) c,B.cell (i*2+1) d⟩
def LP(a:List (List UInt8×List UInt8))(l m:Value)(w:World)(g:IvsAt w l a)(h:IvsAt w m a)(F:a.length<=1073741824):
  Calls prog 12 #[l,m] w fun e w'=>e= .returned (.bool true)∧Below w.1.size w w':=by
 obtain⟨A,c,rfl,B⟩:=g.form;obtain⟨r,u,rfl,C⟩:=h.form;go_enter func12,ntmps12;go_wp2_with fail;go_loopg [5] a.length (fun k i wr=>∃j,Hid (j+k=a.length)∧i= .int .i64 j∧Below w.1.size w wr)
 case atStart=>exact⟨0,by unfold Hid;omega,rfl,aG _ _⟩
 case round=>
  obtain⟨j,d,rfl,b⟩:=hrel;generalize wr=K at *;have D:(0:Int)<=(j:Int):=by omega
  cases gk with
  |zero=>
   have o:j=a.length:=d.out;subst o;go_wp2;go_ret;exact⟨rfl,b⟩
  |succ k=>
   have q:j<a.length:=by have:=d.out;omega
   have E:(j:Int)<(a.length:Int):=by omega
   obtain⟨p,f⟩:∃p,a[j]? =some p:=⟨_,aR q⟩;obtain⟨s,rfl,G,v,x⟩:=(g.be b).at_ f;obtain⟨t,rfl,H,y,z⟩:=(h.be b).at_ f;have n:=b.drew;generalize (⟨p.1.toArray⟩:ByteArray)=I at *;generalize (⟨p.2.toArray⟩:ByteArray)=J at *;clear f;go_wp2_with fail;go_region
   all_goals (
    go_wp2;go_roundg k
    case rel=>exact⟨j+1,by have:=d.out;unfold Hid;omega,by go_num,n⟩
    case measure=>omega)
def LQ:(Tryz.prog.info? 37).map (fun i=>(i.zero,i.size,i.bytes))=some (some (.agg #[.string ⟨#[]⟩,.string ⟨#[]⟩]),2,32):=by kernel_rfl
def LR(n:Nat):∀y∈Builtin.zeroCells (Value.agg #[.string ⟨#[]⟩,.string ⟨#[]⟩]).cells n,NoInt y:=fun y b=>by
 unfold Builtin.zeroCells at b;obtain⟨j,_,rfl⟩:=Array.mem_map.1 b;have a:(Value.agg #[.string ⟨#[]⟩,.string ⟨#[]⟩]).cells= #[Value.string ⟨#[]⟩,.string ⟨#[]⟩]:=rfl;rw[a];have a:(#[Value.string ⟨#[]⟩,.string ⟨#[]⟩]:Array Value).size=2:=rfl;rw[a];rcases(show j%2=0∨j%2=1 by omega) with h|h<;>rw[h]
 ·exact NoInt.string _
 ·exact NoInt.string _
def RowSp.get{n:Nat}{l:List (Rat×Rat)}(h:RowSp w B (.slice A n c) l){p:Rat×Rat}(hi:l[i]? =some p):∃b v d r k x f s m y g t o z j u q,A=some ⟨b,0,none⟩∧b<w.1.size∧
  (w.cell? ⟨b,i*8,none⟩=some (.bool v)∧w.cell? ⟨b,i*8+1,none⟩=some (.slice d r k)∧w.cell? ⟨b,i*8+2,none⟩=some (.bool x)∧w.cell? ⟨b,i*8+3,none⟩=some (.slice f s m)∧w.cell? ⟨b,i*8+4,none⟩=some (.bool y)∧w.cell? ⟨b,i*8+5,none⟩=some (.slice g t o)∧w.cell? ⟨b,i*8+6,none⟩=some (.bool z)∧w.cell? ⟨b,i*8+7,none⟩=some (.slice j u q))∧
  SpanAt w (.agg #[.bool v,.slice d r k,.bool x,.slice f s m,.bool y,.slice g t o,.bool z,.slice j u q]) p.1 p.2:=by
 obtain⟨I,D,E⟩:=h;obtain⟨v,d,r,k,x,f,s,m,y,g,t,o,z,j,u,q,e,G,H⟩:=E.2 i p hi;obtain⟨b,C, -,F,a⟩:=D.at_ e;exact⟨b,v,d,r,k,x,f,s,m,y,g,t,o,z,j,u,q,C,F,⟨a 0 _ rfl,a 1 _ rfl,a 2 _ rfl,a 3 _ rfl,a 4 _ rfl,a 5 _ rfl,a 6 _ rfl,a 7 _ rfl⟩,SpanAt.of G H⟩
def SpanAt.be(h:SpanAt w v x y)(a:Below w.1.size w w'):SpanAt w' v x y:=by
 obtain⟨q,d,m,i,r,e,n,j,s,f,o,k,t,g,p,l,rfl,b,c⟩:=h;exact SpanAt.of (b.be a) (c.be a)
def kQ(p:Rat×Rat):List UInt8×List UInt8:=(cW p.1,cW p.2)
def LT(d:List (List UInt8))(n K:Nat)(P:List (Rat×Rat)->Prop)(v:Value)(w:World)(g:Glob w)(hv:StrsAt w v d)(hl:d.length<=7)(hs:∀l∈d,l.length<=6)(Z:vl d=true->d≠[]->Pw (jF (aU d)) n)(hn:n<=1000)(a7:110079<=K)(an:K<=1073741824)(DA:Rat->Rat->Prop)(hA:uN K DA)(H:∀l,P l->l.length<=1048576∧∀p∈l,RL K p.1∧RL K p.2)
  (T:∀w s c,Prp (aU d) w->CnZ w s c->∃l,ExK K DA (fun x=>aY 0 ((s :: c).map (fun a=>aP a 0 x))) (fun x=>aP s 0 x) (((-((2:Int)^n):Int)):Rat) ((((2:Int)^n:Int)):Rat) l∧P l):
  Calls prog 10 #[v] w fun e w'=>∃v' l,e= .returned (.tuple #[v',.int .i64 (dM d)])∧(dM d=0->P l)∧(dM d≠0->l=[])∧IvsAt w' v' (l.map kQ)∧Below w.1.size w w':=by
 obtain⟨A,c,rfl,hc⟩:=hv.form;have z:=fun W g h=>D5 d (.slice A d.length c) W g h hl hs;have ao:∀q∈aU d,RL 1 q:=pI (fun l hl=>aH (hs l hl) (by decide));have a0:(aU d).length=d.length:=cH _;have S:=uL d;unfold uK at z;obtain⟨E,hE⟩:∃E,dM d=E:=⟨_,rfl⟩;rw[hE] at z S⊢;clear hE;go_enter func10,ntmps10;go_wp2_with fail;refine(z _ g hv).mono ?_;rintro e1 w1 ⟨C,k1,G,bt,rfl,⟨s2,M,k2,N,rfl⟩,V,f⟩;obtain⟨w2,r,af,F⟩:=bI w1 [.bool s2,.slice M k2 N] 42;replace f:=aC f af;rcases S with ⟨rfl,ad,h0⟩|⟨rfl, -⟩|⟨rfl, -, -⟩;rotate_left
 ·skip;clear V z T H;go_wp2_with fail;(try rw[r]);(try clear r);go_ret2;exact⟨_,[],rfl,fun h=>absurd h (by decide),fun _=>rfl,⟨_,_,rfl,aE,.inl rfl⟩,f⟩
 ·skip;clear V z T H;go_wp2_with fail;(try rw[r]);(try clear r);go_ret2;exact⟨_,[],rfl,fun h=>absurd h (by decide),fun _=>rfl,⟨_,_,rfl,aE,.inl rfl⟩,f⟩
 replace Z:=Z ad h0;obtain⟨D, -, -,I,m, -⟩:=V rfl;replace m:=m.be af;have ay:(cC (aU d) D).length=d.length:=by rw[oN,a0]
 have U:cC (aU d) D≠[]:=fun e=>h0 (bX (by rw[<-ay,e];rfl));have ac:=oO I.pos I.dvd (pJ ad).2.2;have J:=sA _ D 1 _ ao I.nl_;have aj:=uE I (pJ ad).2.2;have az:=nM aj;have av:=czJ aj ac U;have al:=(IY J (by decide)).1;have a3:=gU J;have a4:(aS (cC (aU d) D)).length<=7:=by rw[dF];omega
 obtain⟨A8,c8,e8, -⟩:=m.form;simp only[Value.slice.injEq] at e8;obtain⟨rfl,rfl,rfl⟩:=e8;have a1:=fun W g h=>CZ (cC (aU d) D) (.slice C (cC (aU d) D).length G) W g h ac U (by omega) J;have Q:=fun W g h=>UK (cC (aU d) D) (.slice C (cC (aU d) D).length G) W g h U ac 9 J (by omega) (by decide) (by decide);rw[av] at Q al
 have ah:=fun s u u' W g h h' (o:Sqp 24057 (aS (cC (aU d) D)) s) (L:Sz s)=>ay8 s (jF (aU d)) n K P u u' W g h h' o.ts o.ne L Z (aH hn (by decide)) (bU al (by decide)) a7 an DA hA (fun c hc=>by
  obtain⟨l,h1,h2⟩:=T _ s c az ⟨⟨o.mono (by decide),hc⟩,o,L,a4,a3⟩;exact⟨l,h1,(H l h2).1,h2⟩)
 unfold iF at Q;unfold DT at ah;clear z V I ay U ac J aj az av al T Z ao a0 h0 ad F af a3 a4;generalize cC (aU d) D=ns at *;generalize jF (aU d)=bq at *;go_wp2_with fail;(try rw[r]);(try clear r);refine(a1 _ (g.be f) m).mono ?_;rintro e3 w3 ⟨v3,s,rfl,O,o,L,ap⟩;replace m:=m.be ap;replace f:=aC f ap;have ax:=fun u' W g h h'=>ah s v3 u' W g h h' o L;clear ah a1;go_wp2_with fail;refine(Q _ (g.be f) m).mono ?_;rintro e4 w4 ⟨v4,rfl,h4,aq⟩;replace O:=O.be aq;replace f:=aC f aq;go_wp2_with fail;refine(ax _ _ (g.be f) O h4).mono ?_;rintro e5 w5 ⟨v5,bi,l,rfl,ae,h5,a8⟩;obtain⟨br,bc⟩:=H l ae;have a5:=aB ae;clear ae H;replace f:=aC f a8;obtain⟨A5,c5,rfl,bm⟩:=h5.form;clear ax Q o L O h4 m;go_wp2_with fail;go_loopg [7,25] l.length (fun k vf i wr=>∃j,Hid (j+k=l.length)∧i= .int .i64 j∧GrowD wr w5.1.size 37 2 vf (((l.take j).map kQ).map jG)∧Below w5.1.size w5 wr)
 case atStart=>exact⟨0,by unfold Hid;omega,rfl,GrowD.nil,aG _ _⟩
 case round=>
  obtain⟨j,HJ,rfl,y,B⟩:=hrel;generalize wr=wy at *;have bn:(0:Int)<=(j:Int):=by omega
  have au:=aC f B;obtain⟨Af,nf,bj,rfl⟩:=y.form3;cases gk with
  |zero=>
   have hj:j=l.length:=HJ.out;subst hj;rw[aq9] at y;have hI:=y.ivs;clear y;go_wp2;go_ret2;exact⟨_,rfl,l,a5.out,hI,au⟩
  |succ k=>
   have bb:j<l.length:=by have:=HJ.out;omega
   have bo:(j:Int)<(l.length:Int):=by omega
   obtain⟨p,Y⟩:∃p,l[j]? =some p:=⟨_,aR bb⟩;obtain⟨b,s1,C,k1,G,s2,M,k2,N,s3,A3,k3,c3,s4,A4,k4,c4,rfl,bk,S,bg⟩:=(h5.be B).get Y;have ai:=bc p (dG Y);have a2:=fun W g h=>ZX p.1 p.2 (.agg #[.bool s1,.slice C k1 G,.bool s2,.slice M k2 N,.bool s3,.slice A3 k3 c3,.bool s4,.slice A4 k4 c4]) W g h K ai.1 ai.2 an;have a6:Hid (((l.take (j+1)).map kQ).map jG=((l.take j).map kQ).map jG++[[.string ⟨(cW p.1).toArray⟩,.string ⟨(cW p.2).toArray⟩]]):=by
    unfold Hid;rw[Q9,Y,aqO,aq7,aq7];rfl
   have a9:(((l.take j).map kQ).map jG).length<=1073741824:=by rw[cH,cH,bK];omega
   generalize ((l.take j).map kQ).map jG=R at *;generalize (⟨(cW p.1).toArray⟩:ByteArray)=tx at *;generalize (⟨(cW p.2).toArray⟩:ByteArray)=ty at *;clear Y ai;obtain⟨w6,e6,t,X⟩:=bI wy [.bool s1,.slice C k1 G,.bool s2,.slice M k2 N,.bool s3,.slice A3 k3 c3,.bool s4,.slice A4 k4 c4] 57;have cX:=X.k8;go_wp2_with fail;(try rw[e6]);(try clear e6);refine(a2 _ ((g.be au).be t) (bg.be t)).mono ?_;rintro e7 w7 ⟨rfl,ag⟩;have ar:Below w7.1.size w7 (w7.alloc (.cells #[.string tx,.string ty] 37)):=(aG _ _).alloc aE _;have aw:=((y.be t).be ag).be ar;have ak:=((aC B t).trans (ag.mono (aH B.size t.size))).trans (ar.mono (aH B.size (aH t.size ag.size)));have XB:=Bx.new w7 [.string tx,.string ty] 37;have bf:∀u∈[Value.string tx,.string ty],NoInt u∧u.oneCell'=true:=fun u hu=>by
    simp at hu;rcases hu with rfl|rfl
    ·exact⟨NoInt.string _,rfl⟩
    ·exact⟨NoInt.string _,rfl⟩
   clear y a2 X cX S;go_wp2_with (at_builtin;refine yE rfl rfl 37 2 32 _ underlying30 LQ rfl LR (by decide) (by decide) rfl aw rfl XB rfl bf a9 ak.size ?_;intro v8 w8 am bp ba bs);have bh:=ak.trans (aw.left ba ak.size);rw[<-a6.out] at am;go_roundg k
   case rel=>exact⟨j+1,by have:=HJ.out;unfold Hid;omega,by go_num,am,bh⟩
   case measure=>omega
def Bx.put8{m n o p q r s:Value}(h:Bx W b [m,n,o,p,q,r,s,u] t)(N:Below B w W)(a:B<=b)(d e f g i j k l:Value)(hn:(cS (some m)&&(cS (some n)&&(cS (some o)&&(cS (some p)&&(cS (some q)&&(cS (some r)&&(cS (some s)&&cS (some u))))))))=true):
  ∃c,(((((((W.setCell ⟨b,0,none⟩ d).setCell ⟨b,1,none⟩ e).setCell ⟨b,2,none⟩ f).setCell ⟨b,3,none⟩ g).setCell ⟨b,4,none⟩ i).setCell ⟨b,5,none⟩ j).setCell ⟨b,6,none⟩ k).setCell ⟨b,7,none⟩ l=c∧Bx c b [d,e,f,g,i,j,k,l] t∧Below B w c∧Keep W c:=by
 simp only[az7] at hn;obtain⟨X,rfl,F,v,O,f1⟩:=h.put1 N a 0 d hn.1;obtain⟨Y,rfl,G,x,P,f2⟩:=F.put1 v a 1 e hn.2.1;obtain⟨Z,rfl,H,y,Q,f3⟩:=G.put1 x a 2 f hn.2.2.1;obtain⟨W4,rfl,I,z,R,f4⟩:=H.put1 y a 3 g hn.2.2.2.1;obtain⟨W5,rfl,J,A,S,f5⟩:=I.put1 z a 4 i hn.2.2.2.2.1;obtain⟨W6,rfl,K,C,T,f6⟩:=J.put1 A a 5 j hn.2.2.2.2.2.1;obtain⟨W7,rfl,L,D,U,f7⟩:=K.put1 C a 6 k hn.2.2.2.2.2.2.1;obtain⟨W8,rfl,M,E,V,f8⟩:=L.put1 D a 7 l hn.2.2.2.2.2.2.2;exact⟨_,rfl,M,E,((((((O.trans P).trans Q).trans R).trans S).trans T).trans U).trans V⟩
def Bx.far8(h:Bx w g cs t)(a:b≠g){c d e i j k l:Value}:Bx ((((((((w.setCell ⟨b,0,none⟩ c).setCell ⟨b,1,none⟩ d).setCell ⟨b,2,none⟩ e).setCell ⟨b,3,none⟩ f).setCell ⟨b,4,none⟩ i).setCell ⟨b,5,none⟩ j).setCell ⟨b,6,none⟩ k).setCell ⟨b,7,none⟩ l) g cs t:=(((((((h.far 0 c a).far 1 d a).far 2 e a).far 3 f a).far 4 i a).far 5 j a).far 6 k a).far 7 l a
def ayB{z:Rat}(f:∀n∈s,nl n.natAbs<=K)(c:RL K z)(e:s.length<=65):nl (fE s z.num z.den).natAbs<=K*65+1:=by
 have d:=xK (ns:=s) (a:=z.num) (b:=z.den) (T:=BN^K) (fun n h=>mS (f n h)) (mS c.1) (mS c.2);refine cJ (jI d.1 (aZ (xL (by omega)).1 (cO (by decide) ?_)));have:=eV K e;omega
def bqU(w:World)(g:Nat)(a b:Rat):Prop:=∃p c l h q d m i r e n j s f o k,Bx w g [.bool p,.slice c l h,.bool q,.slice d m i,.bool r,.slice e n j,.bool s,.slice f o k] 57∧RatAt w (.agg #[.bool p,.slice c l h,.bool q,.slice d m i]) a∧RatAt w (.agg #[.bool r,.slice e n j,.bool s,.slice f o k]) b
def Bx.put84(h:Bx W b cs t)(A:Below B w W)(d:B<=b)(o:Nat)(e f i j:Value)(hn:(cS cs[o]? &&(cS cs[o+1]? &&(cS cs[o+2]? &&cS cs[o+3]?)))=true):
  ∃a,(((W.setCell ⟨b,o,none⟩ e).setCell ⟨b,o+1,none⟩ f).setCell ⟨b,o+2,none⟩ i).setCell ⟨b,o+3,none⟩ j=a∧Bx a b ((((cs.set o e).set (o+1) f).set (o+2) i).set (o+3) j) t∧Below B w a∧Keep W a∧∀{g:Nat} {cs:List Value} {t:TypeId},Bx W g cs t->(c:b≠g:=by omega)->Bx a g cs t:=by
 simp only[az7] at hn;obtain⟨G,rfl,v,l,C,q⟩:=h.put1 A d o e hn.1;obtain⟨H,rfl,x,m,D,r⟩:=v.put1 l d (o+1) f (by rw[lI (by omega)];exact hn.2.1);obtain⟨I,rfl,y,n,E,s⟩:=x.put1 m d (o+2) i (by rw[lI (by omega),lI (by omega)];exact hn.2.2.1);obtain⟨J,rfl,z,p,F,u⟩:=y.put1 n d (o+3) j (by rw[lI (by omega),lI (by omega),lI (by omega)];exact hn.2.2.2);exact⟨_,rfl,z,p,((C.trans D).trans E).trans F,fun k c=>u (s (r (q k c) c) c) c⟩
def bq6(x y:Rat):0<(x-y).num.sign↔y<x:=by
 rcases iY (x-y) with h|h|h
 ·rw[(fS _).2 h];exact⟨fun k=>absurd k (by decide),fun k=>by grind⟩
 ·rw[h];exact⟨fun k=>absurd k (by decide),fun k=>by grind⟩
 ·rw[(fS _).1 h];exact⟨fun _=>by grind,fun _=>by decide⟩
def bq7(w:World)(K:Nat)(R:Rat×Rat)(e:Ending)(w':World):Prop:=∃a,e= .returned a∧SpanAt w' a R.1 R.2∧RL K R.1∧RL K R.2∧Below w.1.size w w'
def bxV(s:List Int)(x d L:Rat)(n:Nat)(R:Rat×Rat)(S:Int)(k:Nat)(a b:Rat):Prop:=azN (fun z=>aP s 0 z) L k a b=R∧b-a<=L*2^k∧aP s 0 a=S∧∃i j,j+k=n∧i+1<=2^j∧a=azB x d i j∧b=azB x d (i+1) j
def bq8{d L:Rat}{n:Nat}{R:Rat×Rat}{S:Int}{a b:Rat}(h:bxV s x d L n R S (k+1) a b)(o:L<b-a):(aP s 0 ((a+b)/2)=0->R=((a+b)/2,(a+b)/2))∧(aP s 0 ((a+b)/2)≠0->aP s 0 ((a+b)/2)=S->bxV s x d L n R S k ((a+b)/2) b)∧(aP s 0 ((a+b)/2)≠0->aP s 0 ((a+b)/2)≠S->bxV s x d L n R S k a ((a+b)/2))∧∃i j,j<=n∧i<=2^j∧(a+b)/2=azB x d i j:=by
 obtain⟨l,v,m,i,j,w,y,rfl,rfl⟩:=h;obtain⟨q,g⟩:=bqH x d i j;have r:=(bqH x d (i+1) j).1;obtain⟨t,u⟩:=cxA v;have p:(2:Nat)^(j+1)=2^j*2:=dH ..;refine⟨fun c=>by rw[<-l,bq0 o c],fun c f=>⟨by rw[<-l,bq1 o c (f.trans m.symm)],u,f,2*i+1,j+1,by omega,by omega,g,r.symm⟩,fun c f=>⟨by rw[<-l,bq2 o c (fun e=>f (e.trans m))],t,m,2*i,j+1,by omega,by omega,q.symm,g⟩,2*i+1,j+1,by omega,by omega,g⟩
def bqV(s:List Int)(x y L:Rat)(n K:Nat)(Q:Rat×Rat)(hR:azN (fun z=>aP s 0 z) L n x y=Q)(v u g:Value)(w:World)(O:Glob w)(hv:WholeAt w v s)(hs:Sz s)(hu:SpanAt w u x y)(hg:RatAt w g L)(hf:y-x<=L*2^n)(hp:∀j i,j<=n->i<=2^j->RL K (azB x (y-x) i j))(kL:RL K L)(am:150<=K)(a3:K<=268435456):
  Calls prog 22 #[v,u,g] w (bq7 w K Q):=by
 obtain⟨A,c,rfl,hc⟩:=hv.form;obtain⟨s1,V,k1,c1,s2,Z,k2,c2,s3,A3,k3,c3,s4,A4,k4,c4,rfl,hx,hy⟩:=hu;obtain⟨s5,A5,k5,c5,s6,A6,k6,c6,rfl⟩:=hg.form;obtain⟨q0,q1⟩:=bqG x (y-x);have U:x+(y-x)=y:=by grind
 obtain⟨S,hS⟩:∃S,aP s 0 x=S:=⟨_,rfl⟩;have al:bxV s x (y-x) L n Q S n x y:=⟨hR,hf,hS,0,0,bA n,aE,q0.symm,by rw[q1];exact U.symm⟩;have kx:RL K x:=by have:=hp 0 0 (dC _) (dC _);rwa [q0] at this
 have d:∀k a b,bxV s x (y-x) L n Q S k a b->RL K a∧RL K b:=fun k a b h=>by
  obtain⟨-, -, -,i,j,h4,h5,rfl,rfl⟩:=h;exact⟨hp j i (by omega) (by omega),hp j (i+1) (by omega) h5⟩
 have kn:=hs.nums;have a2:=hs.1;have hw:=fun z u W h E (kz:RL K z)=>CB s z (.slice A s.length c) u W h E K (fun n hn=>aH (kn n hn) am) kz (by omega) (by omega);have ah:=fun z u W (kz:RL K z) h=>qG (fE s z.num z.den) u W h (aH (ayB (fun n hn=>aH (kn n hn) am) kz (by omega)) (by omega));have aj:∀z:Rat,(fE s z.num z.den).sign=aP s 0 z:=fun z=>by unfold aP;rw[if_pos rfl]
 have g1:=fun W u h=>ah x u W kx h;rw[aj,hS] at g1;unfold dW at hw;clear q0 q1 U hS hR hf kn a2 hs;obtain⟨W,eW,l,X,Y,R⟩:=gE w [.bool s1,.slice V k1 c1,.bool s2,.slice Z k2 c2,.bool s3,.slice A3 k3 c3,.bool s4,.slice A4 k4 c4] 57 [.bool s5,.slice A5 k5 c5,.bool s6,.slice A6 k6 c6] 48 [.bool false,.slice none 0 0,.bool false,.slice none 0 0,.bool false,.slice none 0 0,.bool false,.slice none 0 0] 57;have cM:=aa X.g8 (aa Y.g4 R.g8);go_enter func22,ntmps22;go_wp2_with fail;(try rw[eW]);clear eW;refine(hw x _ _ (hv.be l) (hx.be l) kx).mono ?_;rintro e1 w1 ⟨v1,rfl,h1,au⟩;have:=St.mk au;go_wp2_with fail;refine(g1 _ _ h1).mono ?_;rintro e2 w2 ⟨rfl,av⟩;have:=St.mk av;replace X:=X.up (b:=w2);replace Y:=Y.up (b:=w2);replace R:=R.up (b:=w2);replace l:=bJ (b:=w2) l;replace hx:=hx.be l;replace hy:=hy.be l;clear cM g1 h1 kx;go_wp2_with fail;go_loopg [] n (fun k wr=>∃a b,bxV s x (y-x) L n Q S k a b∧bqU wr w.1.size a b∧Bx wr (w.1.size+1) [.bool s5,.slice A5 k5 c5,.bool s6,.slice A6 k6 c6] 48∧Bx wr (w.1.size+1+1) [.bool false,.slice none 0 0,.bool false,.slice none 0 0,.bool false,.slice none 0 0,.bool false,.slice none 0 0] 57∧Below w.1.size w wr)
 case atStart=>exact⟨x,y,al,⟨_,_,_,_,_,_,_,_,_,_,_,_,_,_,_,_,X,hx,hy⟩,Y,R,l⟩
 case round=>
  clear al hx hy X Y R l;obtain⟨a,b,HN,⟨s1,V,k1,c1,s2,Z,k2,c2,s3,A3,k3,c3,s4,A4,k4,c4,X,ha,ao⟩,Y,R,l⟩:=hrel;generalize wr=wy at *;obtain⟨ka,kb⟩:=d _ _ _ HN;have ai:=fun W u v O h E=>cx0 b a u v W O h E K kb ka (by unfold aJ;omega);have ae:=fun W u v h E=>BY (b-a) L u v W h E (2*K+1) (bU (JM kb ka) (by omega)) (bU kL (by omega)) (by omega);have an:=bq6 (b-a) L;generalize (b-a-L).num.sign=Sg at *;unfold iF at ai;unfold eO at ae;have ar:=O.be l;have a1:=hg.be l;have ac:=aB HN;have ad:=aB an;clear HN an;have cM:=aa X.k8 Y.k4;go_wp2_with fail
  go_region_held3 (fun w'=>C8 w' w.1.size (.bool s1) (.slice V k1 c1) (.bool s2) (.slice Z k2 c2) (.bool s3) (.slice A3 k3 c3) (.bool s4) (.slice A4 k4 c4)∧C4 w' (w.1.size+1) (.bool s5) (.slice A5 k5 c5) (.bool s6) (.slice A6 k6 c6)) (with_reducible exact⟨X.up.k8,Y.up.k4⟩)
   (first
    |(go_at_call 56;refine(ai _ _ _ ar.up ao.up ha.up).mono ?_;rintro e4 w4 ⟨v4,rfl,h4,aw⟩;have:=St.mk aw)
    |(go_at_call 26;refine(ae _ _ _ h4.up a1.up).mono ?_;rintro e5 w5 ⟨rfl,ax⟩;have:=St.mk ax))
  all_goals (
   have t:=X.up (b:=w5);have B:=Y.up (b:=w5);have o:=R.up (b:=w5);have a5:=ha.up (b:=w5);have b5:=ao.up (b:=w5);have zb:=bJ (b:=w5) l;have ak:=aa t.g8 (aa B.k4 o.g8);by_cases ap:0<Sg
   ·have af:=ad.out.1 ap;cases gk with
    |zero=>exact absurd af (bqF ac.out.2.1)
    |succ k=>
     have H:=aB (bq8 ac.out af);have km:RL K ((a+b)/2):=by
      obtain⟨-, -, -,i,j,hj,hi,e⟩:=H.out;rw[e];exact hp j i hj hi
     have ag:=fun W v O h=>ZW (fun _ _=>True) a b v W O h K ka kb (by omega) (by omega) (fun x y _ kx ky W u v O h E=>UW x y u v W O h E K kx ky (by unfold aJ;omega)) trivial;unfold iF at ag;generalize (a+b)/2=m at *;have gm:=fun W u h=>ah m u W km h;rw[aj] at gm;have aq:=fun u W h E=>hw m u W h E km;clear aj ah hw af ae ai ac ad d hp;generalize aP s 0 m=Sm at *;go_wp2_with fail;refine(ag _ _ (O.be zb) (SpanAt.of a5 b5)).mono ?_;rintro f w6 ⟨v6,rfl,p,F⟩;obtain⟨J,q,G,C,N,r,I,D,rfl⟩:=p.form;obtain⟨w7,e7,ay,M⟩:=bI w6 [.bool J,.slice q G C,.bool N,.slice r I D] 48;have:=St.mk F;have:=St.mk ay;replace p:=p.up (b:=w7);replace t:=t.up (b:=w7);replace B:=B.up (b:=w7);replace o:=o.up (b:=w7);replace zb:=bJ (b:=w7) zb;have ak:=aa t.g8 (aa B.k4 (aa o.g8 M.k4));go_wp2_with fail;(try rw[e7]);(try clear e7);refine(aq _ _ (hv.be zb) p).mono ?_;rintro e8 w8 ⟨v8,rfl,h8,az⟩;have:=St.mk az;go_wp2_with fail;refine(gm _ _ h8).mono ?_;rintro e9 P ⟨rfl,a0⟩;have:=St.mk a0;replace p:=p.up (b:=P);replace a5:=a5.up (b:=P);replace b5:=b5.up (b:=P);replace t:=t.up (b:=P);replace B:=B.up (b:=P);replace o:=o.up (b:=P);replace M:=M.up (b:=P);replace zb:=bJ (b:=P) zb;have ak:=aa t.g8 (aa B.k4 (aa o.g8 M.k4));clear ag gm aq;by_cases hz:Sm=0
     ·subst hz;obtain rfl:=H.out.1 rfl;clear H;go_wp2_with fail;obtain⟨W6,f,R6,F,d⟩:=o.put8 zb (by omega) (.bool J) (.slice q G C) (.bool N) (.slice r I D) (.bool J) (.slice q G C) (.bool N) (.slice r I D) rfl;rw[f];exact aM (v:= .agg #[.bool J,.slice q G C,.bool N,.slice r I D,.bool J,.slice q G C,.bool N,.slice r I D]) (by simp[results,results22,go_sem,R6.k8]) rfl ⟨_,rfl,SpanAt.of (p.ke d) (p.ke d),km,km,F⟩
     ·have a6:(Sm==0)=false:=beq_eq_false_iff_ne.2 hz;by_cases U:Sm=S
      ·subst U;have HR:=aB (H.out.2.1 hz rfl);clear H hz;go_wp2_with fail;obtain⟨W6,f,T,F,d,ff⟩:=t.put84 zb (by omega) 0 (.bool J) (.slice q G C) (.bool N) (.slice r I D) rfl;simp only[Nat.reduceAdd] at f;rw[f];clear f;replace T:Bx W6 w.1.size [.bool J,.slice q G C,.bool N,.slice r I D,.bool s3,.slice A3 k3 c3,.bool s4,.slice A4 k4 c4] 57:=T;go_roundg k
       case rel=>exact⟨m,b,HR.out,⟨_,_,_,_,_,_,_,_,_,_,_,_,_,_,_,_,T,p.ke d,b5.ke d⟩,ff B,ff o,F⟩
       case measure=>omega
      ·have a4:(Sm==S)=false:=beq_eq_false_iff_ne.2 U;have HR:=aB (H.out.2.2.1 hz U);clear H hz U;go_wp2_with fail;obtain⟨W6,f,T,F,d,ff⟩:=t.put84 zb (by omega) 4 (.bool J) (.slice q G C) (.bool N) (.slice r I D) rfl;simp only[Nat.reduceAdd] at f;rw[f];clear f;replace T:Bx W6 w.1.size [.bool s1,.slice V k1 c1,.bool s2,.slice Z k2 c2,.bool J,.slice q G C,.bool N,.slice r I D] 57:=T;go_roundg k
       case rel=>exact⟨a,m,HR.out,⟨_,_,_,_,_,_,_,_,_,_,_,_,_,_,_,_,T,a5.ke d,p.ke d⟩,ff B,ff o,F⟩
       case measure=>omega
   ·obtain rfl:(a,b)=Q:=by rw[<-ac.out.1,byW (fun e=>ap (ad.out.2 e))]
    clear ac ad;go_wp2_with fail;obtain⟨W6,f,R6,F,d⟩:=o.put8 zb (by omega) (.bool s1) (.slice V k1 c1) (.bool s2) (.slice Z k2 c2) (.bool s3) (.slice A3 k3 c3) (.bool s4) (.slice A4 k4 c4) rfl;rw[f];exact aM (v:= .agg #[.bool s1,.slice V k1 c1,.bool s2,.slice Z k2 c2,.bool s3,.slice A3 k3 c3,.bool s4,.slice A4 k4 c4]) (by simp[results,results22,go_sem,R6.k8]) rfl ⟨_,rfl,SpanAt.of (a5.ke d) (b5.ke d),ka,kb,F⟩
  )
def czA(w:World)(a:List (List UInt8))(e:Ending)(w':World):Prop:=∃b R,e= .returned (.tuple #[b,.int .i64 (dM a)])∧StrsAt w' b (R.map cW)∧(dM a=0->czB (aU a) R)∧(dM a≠0->R=[])∧R.length<=8∧Below w.1.size w w'
def cqB(o:List (List UInt8))(v:Value)(w:World)(a:Glob w)(hv:StrsAt w v o)(hl:o.length<=7)(hs:∀l∈o,l.length<=6):
  Calls prog 6 #[v] w (czA w o):=by
 obtain⟨A,c,rfl,hc⟩:=hv.form;have aj:=fun W a h=>D5 o (.slice A o.length c) W a h hl hs;have cn:∀q∈aU o,RL 1 q:=pI (fun l hl=>aH (hs l hl) (by decide));have cz:(aU o).length=o.length:=cH _;have a0:=uL o;unfold uK at aj;unfold czA;obtain⟨E,hE⟩:∃E,dM o=E:=⟨_,rfl⟩;rw[hE] at aj a0⊢;clear hE;go_enter func6,ntmps6;go_wp2_with fail;refine(aj _ a hv).mono ?_;rintro e1 w1 ⟨A1,k1,c1,fd,rfl,⟨s2,A2,k2,c2,rfl⟩,ac,C⟩;obtain⟨w2,e2,bk,F⟩:=bI w1 [.bool s2,.slice A2 k2 c2] 42;replace C:=aC C bk;rcases a0 with ⟨rfl,b0,h0⟩|⟨rfl, -⟩|⟨rfl, -, -⟩;rotate_left
 ·skip;clear ac aj;go_wp2_with fail;(try rw[e2]);(try clear e2);go_ret2;exact⟨_,[],rfl,StrsAt.nil _ _ _,fun h=>absurd h (by decide),fun _=>rfl,dC _,C⟩
 ·skip;clear ac aj;go_wp2_with fail;(try rw[e2]);(try clear e2);go_ret2;exact⟨_,[],rfl,StrsAt.nil _ _ _,fun h=>absurd h (by decide),fun _=>rfl,dC _,C⟩
 obtain⟨D, -, -,aq,hx, -⟩:=ac rfl;replace hx:=hx.be bk;have cv:(cC (aU o) D).length=o.length:=by rw[oN,cz]
 have bp:cC (aU o) D≠[]:=fun e=>h0 (bX (by rw[<-cv,e];rfl));have bz:=oO aq.pos aq.dvd (pJ b0).2.2;have br:=sA _ D 1 _ cn aq.nl_;have bu:=nM (uE aq (pJ b0).2.2);have cx:=xZ (nI bz bp);have dh:=gU br;have di:(aS (cC (aU o) D)).length<=7:=by rw[dF];omega
 obtain⟨A8,c8,e8, -⟩:=hx.form;simp only[Value.slice.injEq] at e8;obtain⟨rfl,rfl,rfl⟩:=e8;have db:=fun W a h=>CZ (cC (aU o) D) (.slice A1 (cC (aU o) D).length c1) W a h bz bp (by omega) br;clear aj ac aq cv bp bz br cn cz h0 b0 F bk;generalize cC (aU o) D=ns at *;go_wp2_with fail;(try rw[e2]);(try clear e2);refine(db _ (a.be C) hx).mono ?_;rintro e3 w3 ⟨v3,s,rfl,h3,t,r,du⟩;obtain⟨As,cs,rfl,cr⟩:=h3.form;replace C:=aC C du;replace a:=a.be C;obtain⟨n,hn,bv⟩:=cqI r;have bt:=czC t.ne t.ts;have cy:=cqS t cx;have ea:=r.1;have kI:=cz3 r;have kW:=czD r bt;have K:=fun W h=>wS s (.slice As s.length cs) W h t.ne (by omega);have bh:∀W v,IntAt W v (cf s (s.length-1))->Calls prog 16 #[v] W (dW W (eT s)):=fun W v h=>J3 (cf s (s.length-1)) v W h;have bs:=fun W=>lL 1 W (by decide) (by decide);have bw:∀W u,IntAt W u (eT s)->Calls prog 19 #[u,.int .u64 1] W (dW W (eT s*2^1)):=fun W u h=>YZ (eT s) 1 u W h (by decide) (by omega);have a2:=fun W u v a h z=>I3 1 (eT s*2^1) u v W a h z 152 (aH (cJ (m:=1) (by unfold BN;decide)) (by decide)) (by have:=gT (eT s) (2^1) 150 1 kI (cJ (m:=1) (by unfold BN;decide));omega) (by unfold aJ;decide);rw[(cz6 bt).1] at a2;have ap:=fun W a h=>UK s (.slice As s.length cs) W a h t.ne t.ts 150 r.nums (by omega) (by decide) (by decide);rw[czJ (uD t.ts) t.ts t.ne] at ap;have df:=L4 (CU r.nums (by decide)) (by decide)
 have a5:=fun u W a h z=>ay8 s (jF (cE s)) n 1000000000 (fun l=>∃c,CnZ (aS ns) s c∧cz2 s c n l) (.slice As s.length cs) u W a h z t.ts t.ne r bv hn (bU df (by decide)) (by decide) (by decide) (fun _ _=>True) (fun x y _ g ky W u v a h z=>UW x y u v W a h z 1000000000 g ky (by unfold aJ;decide)) (fun c hc=>by
  have hC:CnZ (aS ns) s c:=⟨⟨t.mono (by decide),hc⟩,t,r,di,dh⟩;obtain⟨l,h1,h2,h3⟩:=cqH hC bu.2.1 hn;exact⟨l,h1,h2,c,hC,h3⟩)
 obtain⟨N,hN⟩:∃N,N=64*(152+1500000+1500000+1):=⟨_,rfl⟩;have b7:Hid (∀c l,CnZ (aS ns) s c->cz2 s c n l->czB (aU o) (l.filterMap (l8 s N))∧l.length<=8∧∀p∈l,RrP s N p):=fun c l hC hI=>⟨⟨_,s,c,n,l,N,bu,hC,cy,bv,hn,hI,hN,rfl⟩,hI.2.2,fun p hp=>hI.2.1 p hp N hN⟩;have a7:=fun (p:Rat×Rat) (hP:RrP s N p) W u v a h h1 h2=>bqV s p.1 p.2 (V9 s) N 12000400 (RA s N p) rfl (.slice As s.length cs) u v W a h r h1 h2 hP.fu hP.pr (bU kW (by decide)) (by decide) (by decide);have a9:=fun W u h=>BZ (eT s) u W h;have a6:=fun (x:Rat) (g:RL 12000400 x) W u v a h z=>dx0 x (eT s:Rat) u v W a h z 12000400 g (bU (czF r) (by decide)) (by unfold aJ;decide);have a1:=fun (x:Rat) (g:RL 12000400 x) W u h=>cqD (x*(eT s:Rat)) u W h 12000550 (cz1 r g).1 (by decide);have a3:∀(x:Rat),RL 12000400 x->∀W u v,Glob W->IntAt W u (x*(eT s:Rat)).floor->IntAt W v (eT s)->Calls prog 17 #[u,v] W (iF W (rT s x)):=fun x g W u v a h z=>I3 (x*(eT s:Rat)).floor (eT s) u v W a h z 12000550 (czE (cz1 r g).1) (aH kI (by decide)) (by unfold aJ;decide);have b3:=fun (x:Rat) (g:RL 12000400 x)=>(cz1 r g).2;have a8:=fun (x:Rat) (g:RL 12000550 x) W u h z=>CB s x (.slice As s.length cs) u W h z 12000550 (fun n hn=>aH (r.nums n hn) (by decide)) g (by omega) (by decide);have bn:=fun (x:Rat) (g:RL 12000550 x) W u h=>g9 (fE s x.num x.den) u W h (aH (ayB (fun n hn=>aH (r.nums n hn) (by decide)) g (by omega)) (by decide));have bx:=fun x=>ax0 s x;unfold dW at K bh bs bw a8;unfold iF at a2 ap a9 a6 a3;unfold dW at a1;unfold DT at a5;unfold bq7 at a7;clear db hx t r bu cx dh di bt cy bv hn df kI kW hN ea;have eg:=aB cr;clear cr;generalize jF (cE s)=bq at *;generalize cf s (s.length-1)=cl at *;generalize s.length=sl at *;go_wp2_with fail;refine(K _ h3).mono ?_;rintro e4 w4 ⟨v4,rfl,h4,dv⟩;have:=St.mk dv;go_wp2_with fail;refine(bh _ _ h4).mono ?_;rintro e5 w5 ⟨v5,rfl,h5,dw⟩;obtain⟨s5,A5,k5,c5,rfl⟩:=h5.form;obtain⟨w6,e6,dx,G⟩:=bI w5 [.bool s5,.slice A5 k5 c5] 42;have:=St.mk dw;have:=St.mk dx;have L:=h3.up (b:=w6);have P:=h5.up (b:=w6);have I:=a.up (b:=w6);have J:=bJ (b:=w6) C;have cG:=G.k2;have gl:=G.lt;clear K bh h4;go_wp2_with fail;(try rw[e6]);(try clear e6);generalize w5.1.size=gG at *;go_cut [8] (fun s8 wx=>U8 w6 (cz8 · · (V9 s)) s8 wx)
 case first=>
  clear a7 a9 a6 a1 a3 b3 a8 bn bx a5 ap
  go_region_held3 (fun w'=>C2 w' gG (.bool s5) (.slice A5 k5 c5)) (with_reducible exact G.up.k2)
   (first
    |(go_at_call 18;refine(bs _).mono ?_;rintro e7 w7 ⟨v7,rfl,h7,dy⟩;have:=St.mk dy)
    |(go_at_call 19;refine(bw _ _ P.up).mono ?_;rintro e8 w8 ⟨v8,rfl,h8,d0⟩;have:=St.mk d0)
    |(go_at_call 17;refine(a2 _ _ _ I.up h7.up h8.up).mono ?_;rintro e9 w9 ⟨v9,rfl,Y,bm⟩;obtain⟨s9,A9,k9,c9,s0,A0,k0,c0,rfl⟩:=Y.form;have:=St.mk bm;(try have D:=cq2 (w:=w9))))
  all_goals (
   go_wp2;go_meet
   first|(with_reducible exact cq0 Y)|(with_reducible exact cq1 Y))
 case rest=>
  obtain⟨gH,rfl,es,⟨s6,A6,k6,c6,s7,A7,k7,c7,H,hH⟩,ah⟩:=hcut;clear bs bw a2 cG;have:=St.mk ah;replace G:=G.be ah;replace L:=L.be ah;replace P:=P.be ah;replace I:=I.be ah;replace J:=aC J ah;go_wp2_with fail;refine(ap _ I L).mono ?_;rintro el fe ⟨ez,rfl,cd,S⟩;have:=St.mk S;replace G:=G.be S;replace H:=H.be S;replace hH:=hH.be S;replace L:=L.be S;replace P:=P.be S;replace I:=I.be S;replace J:=aC J S;go_wp2_with fail;refine(a5 _ _ I L cd).mono ?_;rintro em b5 ⟨e0,ei,l,rfl,⟨cc,ch,cm⟩,bc,T⟩;obtain⟨ac,d8,cw⟩:=b7.out cc l ch cm;have HK:=aB ac;clear ac ch cm b7;have:=St.mk T;replace G:=G.be T;replace H:=H.be T;replace hH:=hH.be T;replace L:=L.be T;replace P:=P.be T;replace I:=I.be T;replace J:=aC J T;obtain⟨ef,ej,rfl,er⟩:=bc.form;clear ap a5 cd h3 h5 a C;go_wp2_with fail;go_loopg [9,36] l.length (fun k vf i wr=>∃j,Hid (j+k=l.length)∧i= .int .i64 j∧GrowD wr b5.1.size 9 1 vf (((l.take j).filterMap (l8 s N)).map cyX)∧Below b5.1.size b5 wr)
  case atStart=>exact⟨0,by unfold Hid;omega,rfl,GrowD.nil,aG _ _⟩
  case round=>
   obtain⟨j,HJ,rfl,d,hw⟩:=hrel;generalize wr=wy at *;have eu:(0:Int)<=(j:Int):=by omega
   have d3:=aC J hw;obtain⟨Af,nf,ek,rfl⟩:=d.form3;cases gk with
   |zero=>
    have hj:j=l.length:=HJ.out;subst hj;rw[aq9] at d;have hI:=d.strs;have d7:=aH (List.length_filterMap_le (l8 s N) l) d8;clear d;go_wp2;go_ret2;exact⟨_,rfl,_,hI,HK.out,d7,d3⟩
   |succ k=>
    have d6:j<l.length:=by have:=HJ.out;omega
    have ev:(j:Int)<(l.length:Int):=by omega
    obtain⟨p,hp⟩:∃p,l[j]? =some p:=⟨_,aR d6⟩;have hP:=cw p (dG hp);have af:=aB (cq3 (f:=l8 s N) hp);obtain⟨b,s1,A1,k1,c1,s2,A2,k2,c2,s3,A3,k3,c3,s4,A4,k4,c4,rfl,eq,a0,da⟩:=(bc.be hw).get hp;have co:=fun W u v a h h1 h2=>a7 p hP W u v a h h1 h2;have HR:Hid (l8 s N p=if (RA s N p).1<=rT s (RA s N p).2∧aP s 0 (rT s (RA s N p).2)=0 then some (rT s (RA s N p).2) else none):=rfl;have d4:(((l.take j).filterMap (l8 s N)).map cyX).length<=1073741824:=by
     have:=List.length_filterMap_le (l8 s N) (l.take j);rw[bK] at this;rw[cH];omega
    generalize RA s N p=Q at *;generalize l8 s N p=op at *;generalize (l.take j).filterMap (l8 s N)=Rj at *;generalize cp:(l.take (j+1)).filterMap (l8 s N)=Rk at *;have ae:=aB cp;clear hP a7 hp cw cp bc;obtain⟨ff,b9,an,X⟩:=bI wy [.bool s1,.slice A1 k1 c1,.bool s2,.slice A2 k2 c2,.bool s3,.slice A3 k3 c3,.bool s4,.slice A4 k4 c4] 57;have au:=aC hw an;have cX:=aa X.k8 (H.be au).k4;go_wp2_with fail;(try rw[b9]);(try clear b9);refine(co _ _ _ (I.be au) (L.be au) (da.be an) (hH.be au)).mono ?_;rintro en fg ⟨fa,rfl,⟨s1,A1,k1,c1,s2,A2,k2,c2,s3,A3,k3,c3,s4,A4,k4,c4,rfl,ai,a4⟩,kl,kh,bi⟩;replace X:=X.be bi;have de:=aC an bi;clear cX co a0 da H hH;have cX:=X.g8;go_upto_region 12 with fail;obtain⟨dn,ca,bb,b4,bo⟩:=X.put8 de aE (.bool s1) (.slice A1 k1 c1) (.bool s2) (.slice A2 k2 c2) (.bool s3) (.slice A3 k3 c3) (.bool s4) (.slice A4 k4 c4) rfl;rw[ca];clear ca cX;replace ai:=ai.ke bo;replace a4:=a4.ke bo;have ad:=aC hw b4;replace d:=d.be b4;have ce:=L.be ad;have bg:=P.be ad;have b6:=G.be ad;have ax:=I.be ad;have hm:=a6 Q.2 kh;have hF:=a1 Q.2 kh;have hX:=a3 Q.2 kh;have g:=b3 Q.2 kh;have hA:=a8 (rT s Q.2) g;have R:=bn (rT s Q.2) g;rw[bx] at R;have az:=fun W u v h z=>BY (rT s Q.2) Q.1 u v W h z 12000550 g (bU kl (by decide)) (by decide);have ar:=fun W v a h=>I4 (rT s Q.2) v W a h 12000550 g (by decide);have ay:=czS (rT s Q.2) Q.1;unfold eO at az;clear an au bi de X a6 a1 a3 b3 a8 bn bx g kl kh bo;generalize (rT s Q.2-Q.1).num.sign=Sg at *;generalize fE s (rT s Q.2).num (rT s Q.2).den=ey at *;generalize (Q.2*(eT s:Rat)).floor=fl at *;generalize Q.2*(eT s:Rat)=hq at *;generalize cu:wy.1.size=gX at *;have eh:=aB cu;clear cu;go_cut [12] (fun ec wx=>U8 dn (cz8 · · (rT s Q.2)) ec wx)
    case first=>
     clear hA R az ar
     go_region_held3 (fun w'=>C8 w' gX (.bool s1) (.slice A1 k1 c1) (.bool s2) (.slice A2 k2 c2) (.bool s3) (.slice A3 k3 c3) (.bool s4) (.slice A4 k4 c4)∧C2 w' gG (.bool s5) (.slice A5 k5 c5)) (with_reducible exact⟨bb.up.k8,b6.up.k2⟩)
      (first
       |(go_at_call 24;refine(a9 _ _ bg.up).mono ?_;rintro eo fh ⟨fb,rfl,dr,dt⟩;have:=St.mk dt)
       |(go_at_call 23;refine(hm _ _ _ ax.up a4.up dr.up).mono ?_;rintro dp ed ⟨fc,rfl,ds,U⟩;have:=St.mk U)
       |(go_at_call 25;refine(hF _ _ ds.up).mono ?_;rintro cb dk ⟨dj,rfl,am,M⟩;have:=St.mk M)
       |(go_at_call 17;refine(hX _ _ _ ax.up am.up bg.up).mono ?_;rintro e9 w9 ⟨v9,rfl,Y,bm⟩;obtain⟨s9,A9,k9,c9,s0,A0,k0,c0,rfl⟩:=Y.form;have:=St.mk bm;(try have D:=cq2 (w:=w9))))
     all_goals (
      go_wp2;go_meet
      first|(with_reducible exact cq0 Y)|(with_reducible exact cq1 Y))
    case rest=>
     obtain⟨gV,rfl,et,⟨t1,B1,l1,d1,t2,B2,l2,d2,V,B⟩,Z⟩:=hcut;clear a9 hm hF hX a4;have b8:=bb.be Z;replace ai:=ai.be Z;have cg:=ce.be Z;have ci:=ax.be Z;replace d:=d.be Z;have b1:=aC ad Z;have O:=aa V.k4 b8.k8;generalize rT s Q.2=xq at *;go_wp2_with fail;refine(az _ _ _ B ai).mono ?_;rintro dp ed ⟨rfl,U⟩;have av:=aC b1 U;replace d:=d.be U;replace V:=V.be U;replace B:=B.be U;have bf:=cg.be U;have cj:=ci.be U;clear az b8 bb b6 ce bg ax b4 cg ci ai O ad b1 Z;have O:=V.k4;by_cases K:Q.1<=xq
     ·have p0:=ay.2 K;clear ay;by_cases ak:aP s 0 xq=0
      ·rw[decide_eq_true ak] at R;have al:Hid (Rk.map cyX=Rj.map cyX++[cyX xq]):=by
        unfold Hid;rw[af.out,HR.out,if_pos ⟨K,ak⟩];simp
       have dl:Hid ((l.take (j+1)).filterMap (l8 s N)=Rk):=ae.out;clear af HR ae ak K;go_wp2_with fail;refine(hA _ _ bf B).mono ?_;rintro cb dk ⟨dj,rfl,am,M⟩;replace V:=V.be M;replace B:=B.be M;clear O;have O:=V.k4;go_wp2_with fail;refine(R _ _ am).mono ?_;rintro dq ee ⟨rfl,ao⟩;have ag:=aC M ao;have aw:=aC av ag;replace d:=d.be ag;replace V:=V.be ao;replace B:=B.be ao;clear O;have O:=V.k4;go_wp2_with fail;refine(ar _ _ (cj.be ag) B).mono ?_;rintro ep ba ⟨rfl,bj⟩;generalize dc:(⟨(cW xq).toArray⟩:ByteArray)=tx at *;have dm:Hid (cyX xq=[.string tx]):=by unfold Hid cyX;rw[dc]
       have cq:Below ba.1.size ba (ba.alloc (.cells #[.string tx] 9)):=(aG _ _).alloc aE _;have ct:=(d.be bj).be cq;have b2:=(aC aw bj).trans (cq.mono (aH aw.size bj.size));have XB:=Bx.new ba [.string tx] 9;have d9:∀u∈[Value.string tx],NoInt u∧u.oneCell'=true:=fun u hu=>by
        rw[List.mem_singleton.1 hu];exact⟨NoInt.string _,rfl⟩
       clear d dc V B O ar hA R;go_wp2_with (at_builtin;refine yE rfl rfl 9 1 16 _ underlying22 czR rfl dx1 (by decide) (by decide) rfl ct rfl XB rfl d9 d4 b2.size ?_;intro v8 w8 ck ew d5 ex);have eb:=b2.trans (ct.left d5 b2.size);rw[<-dm.out,<-al.out,<-dl.out] at ck;go_roundg k
       case rel=>exact⟨j+1,by have:=HJ.out;unfold Hid;omega,by go_num,ck,eb⟩
       case measure=>omega
      ·rw[decide_eq_false ak] at R;have al:Hid (Rj=(l.take (j+1)).filterMap (l8 s N)):=by
        unfold Hid;rw[ae.out,af.out,HR.out,if_neg (fun h=>ak h.2)];simp
       clear af HR ae ak K;go_wp2_with fail;refine(hA _ _ bf B).mono ?_;rintro cb dk ⟨dj,rfl,am,M⟩;go_wp2_with fail;refine(R _ _ am).mono ?_;rintro dq ee ⟨rfl,ao⟩;have ag:=aC M ao;have aw:=aC av ag;replace d:=d.be ag;rw[al.out] at d;clear V B O ar;go_wp2;go_roundg k
       case rel=>exact⟨j+1,by have:=HJ.out;unfold Hid;omega,by go_num,d,aw⟩
       case measure=>omega
     ·have p0:¬0<=Sg:=fun h=>K (ay.1 h);have al:Hid (Rj=(l.take (j+1)).filterMap (l8 s N)):=by
       unfold Hid;rw[ae.out,af.out,HR.out,if_neg (fun h=>K h.1)];simp
      rw[al.out] at d;clear ay af HR ae K hA R ar B bf cj;go_wp2;go_roundg k
      case rel=>exact⟨j+1,by have:=HJ.out;unfold Hid;omega,by go_num,d,av⟩
      case measure=>omega
def NBx(w:World)(g:Nat)(n:Int):Prop:=∃s A k c,Bx w g [.bool s,.slice A k c] 106∧NI w (.agg #[.bool s,.slice A k c]) n
section
variable {W0 w w':World}{g g':Nat}{m m' n n':Int}{s s':Bool}{A A':Option Addr}{l c l' c':Nat}
def NBx.be(h:NBx w g n)(a:Below w.1.size w w'):NBx w' g n:=by
 obtain⟨s,A,k,c,b,d⟩:=h;exact⟨s,A,k,c,b.be a,d.be a⟩
def NBx.lt(h:NBx w g n):g<w.1.size:=by
 obtain⟨s,A,k,c,a,b⟩:=h;exact a.lt
def nz(D:Bx w g z2 106):NBx w g 0:=⟨_,_,_,_,D,NI.zero _⟩
def NBx.set(h:NBx w g m)(hn:NI w (.agg #[.bool s,.slice A l c]) n):∃a,(w.setCell ⟨g,0,none⟩ (.bool s)).setCell ⟨g,1,none⟩ (.slice A l c)=a∧NBx a g n∧KM w a∧(∀{g' m'},NBx w g' m'->g≠g'->NBx a g' m')∧∀{W0:World},Below W0.1.size W0 w->W0.1.size<=g->Below W0.1.size W0 a:=by
 obtain⟨t,B,k,d,D, -⟩:=h;obtain⟨a,e,j, -,b,p⟩:=D.mut2 (aG 0 w) (dC _) (.bool s) (.slice A l c) rfl rfl;refine⟨a,e,⟨_,_,_,_,j,hn.ke b⟩,b,fun h v=> ?_,fun q f=>by rw[<-e];exact us (us q f) f⟩;obtain⟨y,i,x,o,E,r⟩:=h;exact⟨y,i,x,o,p E v,r.ke b⟩
def cz5(h:NI w (.agg #[.bool s,.slice A l c]) n):NBx (w.alloc (.cells #[.bool s,.slice A l c] 106)) w.1.size n:=⟨_,_,_,_,Bx.new _ _ _,h.be ((aG _ _).alloc aE _)⟩
def czL(h:NBx w g n):NBx (w.alloc o) g n:=h.be ((aG _ _).alloc aE _)
def cz9(h:NI w v n):NI (w.alloc o) v n:=h.be ((aG _ _).alloc aE _)
def dxG[u:Up W0 w](h:NI w (.agg #[.bool s,.slice A l c]) n):U8 W0 (NBx · · n) (.pointer (some ⟨w.1.size,0,none⟩)) (w.alloc (.cells #[.bool s,.slice A l c] 106)):=cz0 (cz5 h) (ua u.out)
def dxH[u:Up W0 w][D:Nb 106 z2 w g][e:Nw W0 g](h:NI w (.agg #[.bool s,.slice A l c]) n):
  U8 W0 (NBx · · n) (.pointer (some ⟨g,0,none⟩)) ((w.setCell ⟨g,0,none⟩ (.bool s)).setCell ⟨g,1,none⟩ (.slice A l c)):=by
 obtain⟨f,a,b, -, -,d⟩:=(nz D.out).set h;rw[a];exact cz0 b (d u.out e.out)
def cyZ(W0:World)(n n':Int)(x y:Value)(w:World):Prop:=∃g g',x= .pointer (some ⟨g,0,none⟩)∧y= .pointer (some ⟨g',0,none⟩)∧W0.1.size<=g∧NBx w g n∧NBx w g' n'∧Below W0.1.size W0 w
def czM(I:NBx w g m)(J:NBx w g' m')(h:NI w (.agg #[.bool s,.slice A l c]) n)(k:NI w (.agg #[.bool s',.slice A' l' c']) n')(b:g≠g')(t:Below W0.1.size W0 w)(a:W0.1.size<=g)(v:W0.1.size<=g'):
  cyZ W0 n n' (.pointer (some ⟨g,0,none⟩)) (.pointer (some ⟨g',0,none⟩)) ((((w.setCell ⟨g,0,none⟩ (.bool s)).setCell ⟨g,1,none⟩ (.slice A l c)).setCell ⟨g',0,none⟩ (.bool s')).setCell ⟨g',1,none⟩ (.slice A' l' c')):=by
 obtain⟨y,i,q,x,o,d⟩:=I.set h;obtain⟨z,j,r,B,p,f⟩:=(o J b).set (k.ke x);rw[i,j];exact⟨_,_,rfl,rfl,a,p q (fun e=>b e.symm),r,f (d t a) v⟩
variable [u:Up W0 w](h:NI w (.agg #[.bool s,.slice A l c]) n)(k:NI w (.agg #[.bool s',.slice A' l' c']) n')
include u h k
def cq4[D:Nc 106 z2 w g g'][p:Nw W0 g][q:Nw W0 g']:cyZ W0 n n' (.pointer (some ⟨g,0,none⟩)) (.pointer (some ⟨g',0,none⟩)) ((((w.setCell ⟨g,0,none⟩ (.bool s)).setCell ⟨g,1,none⟩ (.slice A l c)).setCell ⟨g',0,none⟩ (.bool s')).setCell ⟨g',1,none⟩ (.slice A' l' c')):=czM (nz D.a) (nz D.b) h k (bxQ D.c) u.out p.out q.out
def cq5[D:Nc 106 z2 w g g'][p:Nw W0 g][q:Nw W0 g']:cyZ W0 n n' (.pointer (some ⟨g',0,none⟩)) (.pointer (some ⟨g,0,none⟩)) ((((w.setCell ⟨g',0,none⟩ (.bool s)).setCell ⟨g',1,none⟩ (.slice A l c)).setCell ⟨g,0,none⟩ (.bool s')).setCell ⟨g,1,none⟩ (.slice A' l' c')):=czM (nz D.b) (nz D.a) h k (Nat.ne_of_gt D.c) u.out q.out p.out
def czN:cyZ W0 n n' (.pointer (some ⟨w.1.size,0,none⟩)) (.pointer (some ⟨w.1.size+1,0,none⟩)) ((w.alloc (.cells #[.bool s,.slice A l c] 106)).alloc (.cells #[.bool s',.slice A' l' c'] 106)):=
 ⟨_,_,rfl,rfl,u.out.size,czL (cz5 h),by have:=cz5 (cz9 (o:= .cells #[.bool s,.slice A l c] 106) k);rwa [World.size_alloc] at this,ua (ua u.out)⟩
def cq6:cyZ W0 n n' (.pointer (some ⟨w.1.size+1,0,none⟩)) (.pointer (some ⟨w.1.size,0,none⟩)) ((w.alloc (.cells #[.bool s',.slice A' l' c'] 106)).alloc (.cells #[.bool s,.slice A l c] 106)):=by
 obtain⟨a,b,d,e, -,x,y,z⟩:=czN (W0:=W0) k h;injection d with d;injection d with d;injection d with d;injection e with e;injection e with e;injection e with e;subst d e;exact⟨_,_,rfl,rfl,Nat.le_succ_of_le u.out.size,y,x,z⟩
def cq7[D:Nb 106 z2 w g'][q:Nw W0 g']:cyZ W0 n n' (.pointer (some ⟨w.1.size,0,none⟩)) (.pointer (some ⟨g',0,none⟩)) (((w.alloc (.cells #[.bool s,.slice A l c] 106)).setCell ⟨g',0,none⟩ (.bool s')).setCell ⟨g',1,none⟩ (.slice A' l' c')):=by
 have J:=czL (o:= .cells #[.bool s,.slice A l c] 106) (nz D.out);obtain⟨f,b,e,i,d,a⟩:=J.set (cz9 k);rw[b];exact⟨_,_,rfl,rfl,u.out.size,d (cz5 h) (by have:=D.out.lt;omega),e,a (ua u.out) q.out⟩
def cq8[D:Nb 106 z2 w g][q:Nw W0 g]:cyZ W0 n n' (.pointer (some ⟨g,0,none⟩)) (.pointer (some ⟨w.1.size,0,none⟩)) (((((w.alloc (.cells #[.bool false,.slice none 0 0] 106)).setCell ⟨g,0,none⟩ (.bool s)).setCell ⟨g,1,none⟩ (.slice A l c)).setCell ⟨w.1.size,0,none⟩ (.bool s')).setCell ⟨w.1.size,1,none⟩ (.slice A' l' c')):=
 czM (czL (nz D.out)) (cz5 (NI.zero _)) (cz9 h) (cz9 k) (by have:=D.out.lt;omega) (ua u.out) q.out u.out.size
end
section
variable {w:World}{g g':Nat}
def czO[D:Nb 106 z2 w g]:(C2 w g (.bool false) (.slice none 0 0)∧Fz w g)∧(∀o:Obj,C2 (w.alloc o) g (.bool false) (.slice none 0 0)∧Fz (w.alloc o) g)∧g≠w.1.size∧w.1.size≠g:=dd D.out
def cq9[D:Nc 106 z2 w g g']:C2 w g (.bool false) (.slice none 0 0)∧Fz w g∧g≠g'∧g'≠g∧g≠w.1.size∧w.1.size≠g:=⟨D.a.k2,D.a.g2.2,bxQ D.c,Nat.ne_of_gt D.c,bxQ D.a.lt,Nat.ne_of_gt D.a.lt⟩
end
