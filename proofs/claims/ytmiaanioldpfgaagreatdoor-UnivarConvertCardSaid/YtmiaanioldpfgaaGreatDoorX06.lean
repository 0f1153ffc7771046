/- Laws. -/
import Derived.Test.YtmiaanioldpfgaaGreatDoorX05
set_option linter.all false
set_option maxHeartbeats 8000000
set_option maxRecDepth 99999
namespace Go.Proofs.YtmiaanioldpfgaaGreatDoor
open Go.RowKit Sos Tryz
variable{H L P a n p q r s x y:Nat}{w w1:World}{vs:List Value}{v:Value}{b c:List Int}
def GQ(w:World)(n:Nat)(b:TypeId):Rd .u64 (w.alloc (.cells #[.int .u64 n] b)) (some ⟨w.1.size,0,none⟩) [(n:Int)]:=by
 refine Rd.mk (by simp) ?_;intro i a;obtain rfl:i=0:=by simpa using a
 simp[go_sem]
def eqE(w:World)(n:Nat)(a:n≠0)(hn:n<BN)(b:TypeId):NatAt (w.alloc (.cells #[.int .u64 n] b)) (.slice (some ⟨w.1.size,0,none⟩) 1 1) n:=by
 refine⟨_,1,by rw[mJ a hn],by rw[mJ a hn];exact aE,?_,Old.mk (by simp)⟩;rw[pC a hn];exact GQ w n b
def oI(w:World)(o:Obj):Below w.1.size w (w.alloc o):=(aG _ _).alloc aE _
def RX(j:2<=P)(k:P%2=0)(m:y=P*H+L)(i:L<P)(l:P*P<=2*y)(d:x<y*P):
  P<=2*H∧x/P<y∧(x/P/P<H->x/P<H*P)∧(¬x/P/P<H->P*H<=x/P):=by
 have e:x/P<y:=mU (by rw[dN];exact d);have a:P<=2*H:=by
  have b:P*P<P*(2*H+2):=by
   rw[iL];have:P*(2*H)=2*(P*H):=by grind
   omega
  have f:=bqM b;omega
 refine⟨a,e,fun h=> ?_,fun h=> ?_⟩
 ·exact(Nat.div_lt_iff_lt_mul (by omega)).1 h
 ·have g:=bzD (x/P) P;have c:P*H<=P*(x/P/P):=eV _ (by omega);rw[dN P (x/P/P)] at c;omega
def RY(b:y=P*H+L)(a:x/P=q*H+r):x+q*L=q*y+(x%P+P*r):=by
 have h:=iD x P;have:P*(x/P)=P*(q*H+r):=by rw[a]
 subst b;grind
def RZ(e:y=P*H+L)(c:r<H)(b:0<P):x%P+P*r<q*L+y:=by
 have d:=dI x b;have a:P*(r+1)<=P*H:=eV _ c;rw[iL] at a;omega
def dzE(c:x<y*P)(d:q=P-1)(a:0<P)(b:x+p=q*y+r):r<p+y:=by
 have:y*P=q*y+y:=by
  obtain rfl:P=q+1:=by omega
  grind
 omega
def eyW(e:x+p=q*y+r)(c:p<=r)(d:r<p+y):x/y=q∧x%y=r-p:=by
 have a:x=q*y+(r-p):=by omega
 have b:r-p<y:=by omega
 constructor
 ·rw[a,dN,byU (by omega),azT b,gQ]
 ·rw[a,dN,Nat.mul_add_mod,jJ b]
def cxR(a:x+p=q*y+r)(b:r<p):1<=q∧x+p=(q-1)*y+(r+y):=by
 cases q with
 |zero=>simp at a;omega
 |succ q=>refine⟨by omega,?_⟩;rw[a,mD];grind
def S5(n:Nat)(h:1<=n):BN^n%2=0:=by
 obtain⟨m,rfl⟩:∃m,n=m+1:=⟨n-1,by omega⟩;rw[dH,show BN=9223372036854775808*2 from rfl,<-iW,Nat.mul_mod_left]
def wM(n:Nat)(h:1<=n):2<=BN^n:=by
 have:=fT (n:=BN) (by decide) h;have:BN^1=BN:=bxG _;have:=N8;omega
def eqF(N:Nat):Prop:=∀(x y:Nat) (a b:Value) (w:World),nl y<N->NatAt w a x->NatAt w b y->nl y+nl y+2<=aJ->BN^nl y<=2*y->x<y*BN^nl y->
 Calls prog 209 #[a,b] w (pE w [a,b] x y)
def From.sub{us:List Value}(h:From w vs v)(e:∀u∈vs,u∈us):From w us v:=fun b a d=>by
 obtain⟨u,f,c⟩:=h b a d;exact⟨u,e u f,c⟩
def From.one{a:Value}(h:From w1 [a] v)(c:w.1.size<=w1.1.size)(b:From w vs a):From w vs v:=
 h.trans c (fun u d=>by rcases List.mem_singleton.1 d with rfl;exact b)
def From.two{a b:Value}(h:From w1 [a,b] v)(f:w.1.size<=w1.1.size)(d:From w vs a)(e:From w vs b):From w vs v:=
 h.trans f (fun u c=>by
  rcases List.mem_cons.1 c with rfl|c
  ·exact d
  ·rcases List.mem_singleton.1 c with rfl;exact e)
def From.wk(h:From w1 [] v)(a:w.1.size<=w1.1.size):From w vs v:=h.trans a (fun u b=>by cases b)
def GR(N:Nat)(ih:eqF N)(x y a:Nat)(j Z:Value)(w:World)(hx:NatAt w j x)(hy:NatAt w Z y)(M:1<=a)(cv:a+a<=nl y)(cy:nl y<=a+a)(hN:a<N)
  (cj:nl y+nl y+2<=aJ)(c1:nl x<=nl y+a)(ap:BN^nl y<=2*y)(al:x<y*BN^a):
  Calls prog 217 #[j,Z] w (pE w [j,Z] x y):=by
 unfold aJ at cj;obtain⟨B,d,rfl,hd,ao,bi⟩:=id hy;obtain⟨b,o,rfl,hb,bc⟩:=ao.at_ (by rw[aK];omega);obtain⟨m,cw,a0⟩:∃m:Nat,2*(a:Int)=(m:Int)∧Hid (m=a+a):=⟨a+a,by omega,rfl⟩;have cx:m<=17592186044416:=by have:=a0.out;omega
 have cz:(nl y:Int)/2=(a:Int):=by omega
 have i1:¬d=a:=by omega
 have i3:a<=nl y:=by omega
 have i5:a<=d:=by omega
 have bh:((dg y).take a).length=a:=by rw[bK,aK];omega
 have an:Rd .u64 w (some ⟨b,o,none⟩) ((dg y).take a):=ao.take a;have bw:NatAt w (.slice (some ⟨b,o,none⟩) (trimL ((dg y).take a)).length d) (y%BN^a):=NatAt.trim an ((cI y).take _) (qJ y a) (by omega) bi
 have ax:NatAt w (.slice (some ⟨b,o+a,none⟩) (nl y-a) (d-a)) (y/BN^a):=
  ⟨_,_,by rw[S4],by rw[S4];omega,by rw[<-rM];exact Rd.mk hb (bc.drop a),Old.mk hb⟩
 have HM:=aB (RX (x:=x) (wM a M) (S5 a M) (iD y (BN^a)).symm (dI _ (eQ (by decide))) (by rw[<-KF,show a+a=nl y by omega];exact ap) al);have HY:=aB (iD y (BN^a)).symm;have a1:=aB (dI y (eQ (n:=a) (show 0<BN by decide)));have nH:nl (y/BN^a)<=a:=by rw[S4];omega
 have ct:a<=nl (y/BN^a):=by rw[S4];omega
 have nL:nl (y%BN^a)<=a:=by have:=qK y a;omega
 have nT:nl (x/BN^a)<=nl y:=by rw[S4];omega
 have c3:nl (x/BN^m)<=nl x:=cK (azK _ _);have nX:nl (x%BN^a)<=a:=by have:=qK x a;omega
 have a4:Hid (x/BN^m=x/BN^a/BN^a):=by unfold Hid;rw[aqB,<-KF,a0.out]
 have bx:=aB bh;have HT:=aB ap;have bz:=aB al;clear bh ap al;generalize (dg y).take a=us at *;generalize b7:y/BN^a=H at *;generalize b8:y%BN^a=L at *;clear b7 b8;have b3:From w [j,.slice (some ⟨b,o,none⟩) (nl y) d] (.slice (some ⟨b,o+a,none⟩) (nl y-a) (d-a)):=(From.mem (by simp)).shift (off:=o) (n:=nl y) (c:=d) (s:=none);have b4:From w [j,.slice (some ⟨b,o,none⟩) (nl y) d] (.slice (some ⟨b,o,none⟩) (trimL us).length d):=(From.mem (by simp)).shift (off:=o) (n:=nl y) (c:=d) (s:=none);have fx:From w [j,.slice (some ⟨b,o,none⟩) (nl y) d] j:=From.mem (by simp);have fy:From w [j,.slice (some ⟨b,o,none⟩) (nl y) d] (.slice (some ⟨b,o,none⟩) (nl y) d):=From.mem (by simp);go_enter func217,ntmps217;go_wp2;go_quiet ((go_at_call 114;exact vX (gC _ us a d _ bx.out (an.drewN _) i5 (by omega))));generalize cp:Value.slice (some ⟨b,o,none⟩) (trimL us).length d=vl at *;generalize co:Value.slice (some ⟨b,o+a,none⟩) (nl y-a) (d-a)=vh at *;clear cp co;go_wp2_with fail;refine(wO x a j _ (hx.drewN _) (by unfold aJ;omega) (by unfold aJ;omega)).mono ?_;rintro e w1 ⟨vt,rfl,br,bg,a8⟩;have S:Below w.1.size w w1:=(kI (aG _ _) _).trans a8;have ft:From w [j,.slice (some ⟨b,o,none⟩) (nl y) d] vt:=bg.one aE fx;clear a8 bg;generalize cq:Value.slice (some ⟨b,o,none⟩) (nl y) d=Z at *;clear cq ao bc bi an;generalize b5:[j,Z]=Fz at *;clear b5;generalize a7:x/BN^a=T at *;have b2:=aB a7;clear a7;generalize a6:x/BN^m=v at *;have b1:=aB a6;clear a6;go_wp2_with fail;refine(wO x m j _ (hx.be S) (by unfold aJ;omega) (by unfold aJ;omega)).mono ?_;rintro e w2 ⟨c6,rfl,av,ch,ac⟩;rw[b1.out] at av;clear ch;go_wp2_with fail;refine(QF v H _ _ _ av ((ax.be S).be ac) (by omega) (by omega)).mono ?_;rintro e l ⟨rfl,ba⟩;have af:Below w1.1.size w1 l:=aC ac ba;have t:Below w.1.size w l:=aC S af;have aw:=br.be af;have ae:=ax.be t;have bn:=bw.be t;have bs:=hx.be t;have bu:=hy.be t;clear av ac ba af S br ax bw hx hy;go_upto_if 32 with (fail);go_cut [10,11] (fun q r wx=>∃(i C:Nat),NatAt wx q i∧NatAt wx r C∧nl i<=a∧nl C<=a+1∧From w Fz q∧Below l.1.size l wx∧Hid (T=i*H+C)∧Hid (i<BN^a)∧Hid (C<H∨i=BN^a-1))
 case first=>
  by_cases hc:v<H
  ·have J:bZ (v:Int) (H:Int)= -1:=jL (by omega);have R:T<H*BN^a:=HM.out.2.2.1 (by rw[<-a4.out];exact hc);have O:=aB R;clear R;go_wp2_with fail;refine(ih T H _ _ _ (by omega) aw ae (by unfold aJ;omega) ?_ ?_).mono ?_
   ·rw[show nl H=a by omega];exact HM.out.1
   ·rw[show nl H=a by omega];exact O.out
   rintro e w4 ⟨vq,vr,rfl,aq,ar,ai,aj,D⟩;clear J;go_wp2;go_meet
   case rel=>
    have b6:0<H:=by
     rcases iB H with h|h
     ·subst h;rw[dO] at ct;omega
     ·exact h
    have X:T/H<BN^a:=mU O.out;have E:=dI T b6;exact⟨T/H,T%H,aq,ar,cJ X,aH (cK (iE E)) (by omega),ai.two t.size ft b3,D,by unfold Hid;rw[dN,iD],X,.inl E⟩
  ·have J:bZ (v:Int) (H:Int)=0∨bZ (v:Int) (H:Int)=1:=by
    rcases kJ (v:Int) (H:Int) with h|h|h
    ·omega
    ·exact .inl h.2
    ·exact .inr h.2
   have cd:¬bZ (v:Int) (H:Int)<0:=by rcases J with h|h<;>rw[h]<;>decide
   clear J;generalize bZ (v:Int) (H:Int)=cc at *;have R:BN^a*H<=T:=HM.out.2.2.2 (by rw[<-a4.out];exact hc);have O:=aB R;clear R;go_wp2_with fail;refine(SE a _ _ _ M (by unfold aJ;omega) (GQ l 18446744073709551615 _)).mono ?_;rintro e w5 ⟨vq,rfl,aq,ai,bb⟩;have u:=(oI l _).trans (bb.mono (oI l _).size);clear bb;go_wp2_with fail;refine(tF H 0 a _ _ _ (ae.be u) (NatAt.nil _) (by rw[dO];omega) (by unfold aJ;omega)).mono ?_;rintro e w6 ⟨vj,rfl,bm,ce,z⟩;rw[bA] at bm;clear ce;go_wp2_with fail;refine(qM T (BN^a*H) _ _ _ ((aw.be u).be z) bm (by omega) O.out).mono ?_;rintro e w7 ⟨vs,rfl,au,ak,V⟩;clear ak;have nS:=cK (bxR T (BN^a*H));have G:Below w5.1.size w5 w7:=aC z V;have ag:Below l.1.size l w7:=aC u G;go_wp2_with fail;refine(rP (T-BN^a*H) H _ _ _ au (ae.be ag) (by omega) (by omega)).mono ?_;rintro e w8 ⟨va,rfl,Y,K,g⟩;clear K;go_wp2;go_meet
   case rel=>
    have hp:=wM a M;have cb:=aC G g;have c2:=HM.out.2.1;have hy:=HY.out;have c0:=a1.out;refine⟨BN^a-1,T-BN^a*H+H,aq.be cb,Y,cJ (by omega),cJ ?_,ai.wk (aH t.size (oI l _).size),aC ag g,?_,?_,.inr rfl⟩
    ·have h1:=cyD H;have m:BN^nl H<=BN^a:=fT (by decide) nH;have h3:2*BN^a<=BN^(a+1):=by rw[dH,dN];exact eV _ N8
     omega
    ·unfold Hid;rw[Nat.sub_mul,aqD];have h4:=O.out;have h5:H<=BN^a*H:=byT _ (by omega);omega
    ·unfold Hid;omega
 case rest=>
  obtain⟨i,C,am,bk,cu,c4,Q,D,HE,HQ,HR⟩:=hcut;have ab:Below w.1.size w wc:=aC t D;have bo:=bn.be D;have bt:=bs.be D;have bv:=bu.be D;clear bn bs bu aw ae D t;go_wp2_with fail;refine(qN i L _ _ _ am bo (by unfold aJ;omega)).mono ?_;rintro e w5 ⟨vp,rfl,bq,bf,u⟩;have nP:=fI i L;have fp:From w Fz vp:=bf.two ab.size Q b4;clear bf bo;go_wp2_with fail;refine(B8 x a _ _ (bt.be u) (by unfold aJ;omega) (by unfold aJ;omega)).mono ?_;rintro e w6 ⟨vo,rfl,bp,cg,z⟩;clear cg;have U:Below wc.1.size wc w6:=aC u z;go_wp2_with fail;refine(tF C (x%BN^a) a _ _ _ (bk.be U) bp (by omega) (by unfold aJ;omega)).mono ?_;rintro e w7 ⟨vr,rfl,ar,aj,V⟩;have ad:=aC U V;have G:=aC z V;have F:=aC ab ad;have fr:From w Fz vr:=aj.wk (aH ab.size U.size);have cm:=am.be ad;have cr:=bv.be ad;have ck:=bq.be G;have HS:=aB (RY (x:=x) (P:=BN^a) HY.out (b2.out.trans HE.out));have HB:Hid (x%BN^a+BN^a*C<i*L+y):=by
   rcases HR.out with h|h
   ·exact RZ HY.out h (by have:=wM a M;omega)
   ·exact dzE bz.out h (by have:=wM a M;omega) HS.out
  have b9:i*L<BN^(nl y):=by
   rw[show nl y=a+a by omega,KF];exact byV HQ.out a1.out
  have a5:∀r,r<i*L+y->nl r<=nl y+1:=by
   intro r E;refine cJ ?_;have h1:=cyD y;have h3:2*BN^nl y<=BN^(nl y+1):=by rw[dH,dN];exact eV _ N8
   omega
  have b0:=aB a5;clear b9 a5;generalize x%BN^a+BN^a*C=R0 at *;generalize i*L=p at *;clear aj u z V U ad G bp bq am bk bt bv;go_wp2;go_loopg [10,11] i (fun k q r wr=>∃(f:Nat),NatAt wr q k∧NatAt wr r f∧From w Fz q∧From w Fz r∧Below w7.1.size w7 wr∧nl k<=a∧Hid (x+p=k*y+f)∧Hid (f<p+y))
  case atStart=>exact⟨R0,cm,ar,Q,fr,aG _ _,cu,HS,HB⟩
  case round=>
   obtain⟨f,X,E,Q,fr,A,nk,a3,ay⟩:=hrel;have c5:=b0.out f ay.out;have bj:=ck.be A;have cs:=cr.be A;go_wp2_with fail;refine(QF f p _ _ _ E bj (by omega) (by omega)).mono ?_;rintro e w8 ⟨rfl,g⟩;by_cases hc:f<p
   ·have J:bZ (f:Int) (p:Int)= -1:=jL (by omega);have a2:=aB (cxR a3.out hc);have ci:1<=gk:=a2.out.1;go_wp2_with fail;refine(rP f y _ _ _ (E.be g) (cs.be g) (by omega) (by omega)).mono ?_;rintro e w9 ⟨va,rfl,Y,K,ah⟩;have W:=aC g ah;have I:=aC A W;have fa:From w Fz va:=K.two (aH F.size (aH A.size g.size)) fr fy;have cn:=X.be W;clear K J;go_wp2_with fail;((refine(qM gk 1 _ _ _ (cn.be (oI _ _)) (eqE _ 1 (by decide) (by decide) _) (by omega) ci).mono ?_));rintro e c7 ⟨vs,rfl,au,ak,ca⟩;have a9:=(oI w9 _).trans (ca.mono (oI w9 _).size);go_wp2;go_roundg (gk-1)
    case measure=>omega
    case rel=>
     refine⟨f+y,au,Y.be a9,ak.two (aH (aH F.size I.size) (oI w9 _).size) Q (From.new (aH F.size I.size)),fa,aC I a9,aH (cK (bxR _ _)) nk,a2.out.2,by unfold Hid;omega⟩
   ·have cd:¬bZ (f:Int) (p:Int)<0:=by
     rcases kJ (f:Int) (p:Int) with h|h|h
     ·omega
     ·rw[h.2];decide
     ·rw[h.2];decide
    have az:=aB (eyW a3.out (by omega) ay.out);have cl:p<=f:=by omega
    generalize bZ (f:Int) (p:Int)=cc at *;go_wp2_with fail;refine(qM f p _ _ _ (E.be g) (bj.be g) (by omega) cl).mono ?_;rintro e w9 ⟨va,rfl,Y,K,ah⟩;have W:=aC g ah;have I:=aC A W;go_wp2;go_ret2;refine⟨_,_,rfl,?_,?_,Q,K.two (aH F.size (aH A.size g.size)) fr fp,aC F I⟩
    ·rw[az.out.1];exact X.be W
    ·rw[az.out.2];exact Y
def RS(i:0<P)(l:x<y*(P*P))(a b:Nat)(d:a=x/P)(k:b=x%P+P*(a%y)):
  a<y*P∧b<y*P∧x/y=b/y+P*(a/y)∧x%y=b%y:=by
 have e:0<y:=by
  rcases iB y with h|h
  ·subst h;omega
  ·exact h
 have j:x=P*a+x%P:=by rw[d];exact(iD x P).symm
 have c:x=y*(P*(a/y))+b:=by
  have:=iD a y;have f:P*a=P*(y*(a/y)+a%y):=by rw[this]
  grind
 refine⟨?_,?_,?_,?_⟩
 ·rw[d];refine mU ?_;have:P*(y*P)=y*(P*P):=by grind
  omega
 ·have f:=dI x i;have g:P*(a%y+1)<=P*y:=eV _ (dI a e);rw[iL] at g;rw[dN y P];omega
 ·rw[c,byU e,aq1]
 ·rw[c,Nat.mul_add_mod]
def RT(N:Nat)(ih:eqF N):eqF (N+1):=by
 intro x y v vy w hN F t aj X q;have a1:nl x<=nl y+nl y:=by
  refine cJ ?_;rw[KF];exact aZ q (dK _ (iE (cyD y)))
 have aq:y≠0:=by intro h;subst h;simp at q
 obtain⟨B,d,Y,hd,a0,az⟩:=id t;have J:=aB X;have ac:=aB q;clear X q;unfold aJ at aj;by_cases r:nl y<80∨nl y%2=1
 ·subst Y;have C:=(GT x y _ _ w F t aq (by unfold aJ;omega) (by unfold aJ;omega));rcases r with r|r
  ·go_enter func209,ntmps209;go_wp2_with fail;refine C.mono ?_;rintro e I ⟨u,H,rfl,i,f,c,g,l⟩;go_wp2;go_ret2;exact⟨_,_,rfl,i,f,c,g,l⟩
  ·have am:((nl y:Int)%2==0)=false:=by simp;omega
   have an:((nl y:Int)%2)=1:=by omega
   by_cases ao:nl y<80
   ·go_enter func209,ntmps209;go_wp2_with fail;refine C.mono ?_;rintro e I ⟨u,H,rfl,i,f,c,g,l⟩;go_wp2;go_ret2;exact⟨_,_,rfl,i,f,c,g,l⟩
   ·go_enter func209,ntmps209;go_wp2_with fail;refine C.mono ?_;rintro e I ⟨u,H,rfl,i,f,c,g,l⟩;go_wp2;go_ret2;exact⟨_,_,rfl,i,f,c,g,l⟩
 ·obtain⟨a,V,W,ay⟩:∃a:Nat,a+a<=nl y∧nl y<=a+a∧(nl y:Int)/2=(a:Int):=⟨nl y/2,by omega,by omega,by omega⟩;have ao:¬nl y<80:=by omega
  have am:((nl y:Int)%2==0)=true:=by simp;omega
  have an:((nl y:Int)%2)=0:=by omega
  clear r;obtain⟨b,s⟩:∃b,b=x/BN^a:=⟨_,rfl⟩;obtain⟨j,G⟩:∃j,j=x%BN^a+BN^a*(b%y):=⟨_,rfl⟩;have m:=RS (P:=BN^a) (eQ (by decide)) (by rw[<-KF,show a+a=nl y by omega];exact ac.out) b j s G;have au:nl b<=nl y+a:=by rw[s,S4];omega
  have av:nl j<=nl y+a:=by
   refine cJ ?_;rw[KF];exact aZ m.2.1 (dK _ (iE (cyD y)))
  have a5:nl (x%BN^a)<=a:=by have:=qK x a;omega
  have a4:nl (b%y)<=nl y:=cK (iE (dI _ (by omega)));have a2:nl (b/y)<=a:=cJ (mU m.1);have a3:nl (j/y)<=a:=cJ (mU m.2.1);have ad:=aB s;have ae:=aB G;have n:=aB m;clear s G m;subst Y;go_enter func209,ntmps209;go_wp2_with fail;refine(wO x a _ _ F (by unfold aJ;omega) (by unfold aJ;omega)).mono ?_;rintro e I ⟨v1,rfl,D,K,o⟩;rw[<-ad.out] at D;have ab:=t.be o;have L:From w [v,Value.slice B (nl y) d] v1:=K.one aE (From.mem (by simp));clear K;go_wp2_with fail;refine(GR N ih b y a _ _ _ D ab (by omega) V W (by omega) (by unfold aJ;omega) au J.out n.out.1).mono ?_;rintro e w2 ⟨u,H,rfl,i,f,c,g,S⟩;have k:=aC o S;have ax:From w [v,Value.slice B (nl y) d] u:=c.two o.size L (From.mem (by simp));clear c g L S D ab;go_wp2_with fail;refine(B8 x a _ _ (F.be k) (by unfold aJ;omega) (by unfold aJ;omega)).mono ?_;rintro e w3 ⟨vl,rfl,Z,fl,p⟩;clear fl;go_wp2_with fail;refine(tF (b%y) (x%BN^a) a _ _ _ (f.be p) Z (by omega) (by unfold aJ;omega)).mono ?_;rintro e w4 ⟨vj,rfl,E,M,ah⟩;have O:From w [v,Value.slice B (nl y) d] vj:=M.wk (aH k.size p.size);rw[<-ae.out] at E;have A:=aC p ah;have R:=aC k A;have ar:=t.be R;go_wp2_with fail;refine(GR N ih j y a _ _ _ E ar (by omega) V W (by omega) (by unfold aJ;omega) av J.out n.out.2.1).mono ?_;rintro e w5 ⟨a6,aw,rfl,ak,al,af,Q,ai⟩;have ag:From w [v,Value.slice B (nl y) d] aw:=Q.two R.size O (From.mem (by simp));have T:=aC A ai;have z:=aC k T;clear af Q O M E Z f;go_wp2_with fail;refine(tF (b/y) (j/y) a _ _ _ (i.be T) ak (by omega) (by unfold aJ;omega)).mono ?_;rintro e w6 ⟨vz,rfl,ap,fz,U⟩;go_wp2;go_ret2;refine⟨_,_,rfl,?_,?_,fz.wk z.size,ag,aC z U⟩
  ·rw[n.out.2.2.1];exact ap
  ·rw[n.out.2.2.2];exact al.be U
def RU(N:Nat):eqF N:=by
 induction N with
 |zero=>intro x y b c w h;omega
 |succ N a=>exact RT N a
def RV(x y:Nat)(a b:Value)(w:World)(f:NatAt w a x)(g:NatAt w b y)(c:nl y+nl y+2<=aJ)(e:BN^nl y<=2*y)(d:x<y*BN^nl y):
  Calls prog 209 #[a,b] w (pE w [a,b] x y):=RU _ x y a b w (aqC _) f g c e d
def RI(d:y≠0)(l:s<64)(c:2^63<=y/BN^(nl y-1)*2^s)(g:y/BN^(nl y-1)*2^s<BN):
  BN^nl y<=2*(y*2^s)∧y*2^s<BN^nl y:=by
 have e:=GI d (by omega) g;have a:=cyD (y*2^s);rw[e] at a;refine⟨?_,a⟩;have h:=gS d;obtain⟨m,b⟩:∃m,nl y=m+1:=⟨nl y-1,by omega⟩;rw[b,mD] at c;rw[b,dH];have f:=bzD y (BN^m);have i:(y/BN^m*2^s)*BN^m<=y*2^s:=by
  have:(y/BN^m*2^s)*BN^m=(y/BN^m*BN^m)*2^s:=by grind
  rw[this];exact dK _ f
 have j:2^63*BN^m<=(y/BN^m*2^s)*BN^m:=dK _ c;have k:BN^m*BN=2*(2^63*BN^m):=by rw[show BN=2*2^63 from rfl];grind
 omega
def RK(hn:n<=a)(d:BN^n<=2*(y*2^s))(f:y*2^s<BN^n)(l:1<=a):
  BN^a<=2*(y*2^(64*(a-n)+s))∧nl (y*2^(64*(a-n)+s))=a:=by
 have e:y*2^(64*(a-n)+s)=(y*2^s)*BN^(a-n):=by rw[sZ];grind
 rw[e];have b:BN^a=BN^n*BN^(a-n):=by rw[<-KF];congr 1;omega
 generalize y*2^s=z at *;have h:0<BN^(a-n):=eQ (by decide);have g:BN^a<=2*(z*BN^(a-n)):=by
  rw[b,<-iW];exact dK _ d
 refine⟨g,byS (cJ ?_) ?_⟩
 ·rw[b];exact bxF f h
 ·rcases dE (nl (z*BN^(a-n))) a with c|c
  ·exfalso;have i:=cyD (z*BN^(a-n));have j:BN^nl (z*BN^(a-n))<=BN^(a-1):=fT (by decide) (by omega);have k:2*BN^(a-1)<=BN^a:=by
    obtain⟨m,rfl⟩:∃m,a=m+1:=⟨a-1,by omega⟩;rw[mD,dH,dN];exact eV _ N8
   omega
  ·exact c
def RM{k:Nat}:x*2^k/(y*2^k)=x/y∧x*2^k%(y*2^k)/2^k=x%y:=by
 have a:0<2^k:=eQ (by decide);refine⟨Nat.mul_div_mul_right _ _ a,?_⟩;rw[Nat.mul_mod_mul_right,Nat.mul_div_cancel _ a]
def RN{E D:Nat}(g:0<D)(b:0<a):
  E%D+D*(E/D%a)<a*D∧E/a=(E%D+D*(E/D%a))/a+D*(E/D/a)∧E%a=(E%D+D*(E/D%a))%a:=by
 have h:=iD E D;have c:=iD (E/D) a;have e:E=a*(D*(E/D/a))+(E%D+D*(E/D%a)):=by
  have d:D*(E/D)=D*(a*(E/D/a)+E/D%a):=by rw[c]
  grind
 refine⟨?_,?_,?_⟩
 ·have d:=dI E g;have f:D*(E/D%a+1)<=D*a:=eV _ (dI _ b);rw[iL] at f;rw[dN a D];omega
 ·conv=>lhs;rw[e]
  rw[byU b,aq1]
 ·conv=>lhs;rw[e]
  rw[Nat.mul_add_mod]
def RO(e:b.length<=s):
  patch (List.replicate (a+s) 0++c) (cV ((List.replicate (a+s) 0++c).drop a) b) a=List.replicate a 0++(b++List.replicate (s-b.length) 0++c):=by
 have d:(List.replicate (a+s) (0:Int)++c).drop a=List.replicate s 0++c:=by
  rw[List.drop_append_of_le_length (by simp),bxL,bzC]
 rw[d];unfold patch cV;rw[cZ (l:=b) (by simp;omega),List.drop_append_of_le_length (by simpa using e),bxL];rw[bzU (by simp),List.take_replicate,y8 (by omega)];rw[gO (by simp;omega)];simp
def RP{a:List Int}(c:a.length<=s):aF aA (a++List.replicate (s-a.length) 0++b)=aF aA a+aA^s*aF aA b:=by
 rw[kV,kV,mL,bN,dB,show a.length+(s-a.length)=s by omega];simp
def RQ(b:1<=p)(d:p<=n):∃c:Nat,((n:Int)+p-1)/(p:Int)=(c:Int)∧n<=c*p∧c*p<n+p∧1<=c∧c<=n∧(80<=c->p*2<=n):=by
 refine⟨(n+p-1)/p,?_,?_,?_,?_,?_,?_⟩
 ·rw[azR];congr 1;omega
 ·have:=iD (n+p-1) p;have:=dI (n+p-1) (show 0<p by omega);rw[dN];omega
 ·have:=bzD (n+p-1) p;omega
 ·exact(bzW (by omega)).2 (by omega)
 ·refine Nat.div_le_of_le_mul ?_;have:p*n=n+(p-1)*n:=by
   obtain⟨k,rfl⟩:∃k,p=k+1:=⟨p-1,by omega⟩;simp;grind
  have:(p-1)*1<=(p-1)*n:=eV _ (by omega);omega
 ·intro h;have a:=(bzW (show 0<p by omega)).1 h;omega
def RR(x y:Nat)(N vy:Value)(w:World)(hx:NatAt w N x)(hy:NatAt w vy y)(ci:80<=nl y)(c5:nl y<=nl x)(cg:nl x+4*nl y+4<=aJ):
  Calls prog 191 #[N,vy] w (pE w [N,vy] x y):=by
 unfold aJ at cg;obtain⟨B,d,rfl,hd,cu,dp⟩:=id hy;obtain⟨b,o,rfl,hb,a6⟩:=cu.at_ (by rw[aK];omega);have bt:y≠0:=by intro h;subst h;rw[dO] at ci;omega
 have c4:x≠0:=by intro h;subst h;rw[dO] at c5;omega
 obtain⟨bk,bm,bn⟩:=wH bt;obtain⟨s,an,bg,M,bh⟩:=wK _ bm bn;have Z:=aB (RI bt an M bh);have ac:=a6 (nl y-1) (by rw[aK];omega);rw[bk] at ac;have b2:=kU;generalize y/BN^(nl y-1)=a at *;have ay:(a:Int)<aA:=by omega
 have ax:0<(a:Int):=by omega
 have ar:=aB bg;clear bk M bh bm bn b2 a6 bg;go_enter func191,ntmps191;go_wp2;go_loop [7] (fun i=>∃p:Nat,1<=p∧p<=nl y∧i= .int .i64 p) (fun i=>nl y-(intOf i).toNat)
 case atStart=>exact⟨1,aE,by omega,rfl⟩
 case round=>
  obtain⟨p,cm,cn,rfl⟩:=hrel;obtain⟨c,cb,ai,U,aj,di,ak⟩:=RQ cm cn;have dq:¬p=0:=by omega
  by_cases b9:80<=c
  ·have co:=ak b9;clear ac ax ay Z ar an c4 ai U ak;go_wp2;go_round
   case rel=>exact⟨p*2,by omega,co,by go_num⟩
   case measure=>simp[intOf];omega
  ·have dj:¬(80:Int)<=(c:Int):=by omega
   obtain⟨f,X,cy,du,de⟩:∃f:Nat,(c:Int)*(p:Int)=(f:Int)∧nl y<=f∧f<nl y+p∧Hid (f=c*p):=⟨c*p,by simp,ai,U,rfl⟩;obtain⟨l,cv,dr,au⟩:∃l:Nat,64*((f:Int)-(nl y:Int))+(s:Int)=(l:Int)∧l<64*(f-nl y)+64∧Hid (l=64*(f-nl y)+s):=⟨64*(f-nl y)+s,by omega,by omega,rfl⟩;clear ai U ak;have aq:Hid (BN^f<=2*(y*2^l)∧nl (y*2^l)=f):=by
    unfold Hid;rw[au.out];exact RK cy Z.out.1 Z.out.2 (by omega)
   go_wp2_with fail;refine(rR a s ax ay (by rw[j9];exact ar.out) _).mono ?_;rintro e d2 ⟨rfl,rfl⟩;go_wp2_with fail;refine(tC y l _ _ hy (by omega) (by unfold aJ;omega)).mono ?_;rintro e w1 ⟨v1,rfl,bp,f1,T⟩;have b0:From w [N,Value.slice (some ⟨b,o,none⟩) (nl y) d] v1:=f1.one aE (From.mem (by simp));clear f1;go_wp2_with fail;refine(tC x l _ _ (hx.be T) (by omega) (by unfold aJ;omega)).mono ?_;rintro e n ⟨v2,rfl,bq,f2,ag⟩;clear f2;have H:=aC T ag;have ba:=bp.be ag;have HQ:=aB (RM (x:=x) (y:=y) (k:=l));have a9:0<y*2^l:=aqZ (by omega) (eQ (by decide));have dl:0<x*2^l:=aqZ (by omega) (eQ (by decide));have dy:nl (x*2^l)<=nl x+(f-nl y)+1:=by
    refine cJ ?_;rw[au.out,sZ,bxE,KF,dH];refine byV (cyD x) (Nat.mul_lt_mul_of_pos_left ?_ (eQ (by decide)));rw[sY];exact by9 (by decide) an
   generalize ce:y*2^l=g at *;generalize cd:x*2^l=dd at *;clear ce cd bp T ag ac cv X cb;have d0:=gS (show dd≠0 by omega);obtain⟨J,b5,b3,b4⟩:∃J:Nat,((nl dd:Int)-1)/(f:Int)=(J:Int)∧J*f+1<=nl dd∧nl dd<=J*f+f:=by
    have h1:=iD (nl dd-1) f;have h2:=dI (nl dd-1) (show 0<f by omega);rw[dN] at h1;exact⟨(nl dd-1)/f,by rw[azR];congr 1;omega,by omega,by omega⟩
   obtain⟨t,cx,ab⟩:∃t:Nat,(J:Int)*(f:Int)=(t:Int)∧Hid (t=J*f):=⟨J*f,by simp,rfl⟩;have ds:t+1<=nl dd:=by have:=ab.out;omega
   have cw:nl dd<=t+f:=by have:=ab.out;omega
   have dt:¬f=0:=by omega
   clear b3 b4;obtain⟨m,dw,dx,dc⟩:∃m:Nat,nl dd+f<=m∧m<=nl dd+f∧Hid (nl dd+f=m):=⟨_,aE,aE,rfl⟩;obtain⟨A2,c2,rfl,U,cq,ck⟩:=id bq;go_wp2_with (at_make;refine kG rfl rfl .u64 143 8 underlying75 gZ m rfl rfl (by omega) (by omega) (by omega) (by omega) ?_;intro w3 bu M aj az);generalize [N,Value.slice (some ⟨b,o,none⟩) (nl y) d]=Fz at *;have av:=aq.out.2;have da:nl g<=f:=by omega
   have ap:=aB av;clear av cq ck b5 cx;have c6:0<BN^f:=eQ (by decide)
   go_loopg [13,14] (J+1) (fun k r i wr=>∃(q:List Int) (v:Nat),i= .int .i64 ((v:Int)-(f:Int))∧Hid (v=k*f)∧v<=t+f∧NatAt wr r (dd/BN^v%g)∧Cells .u64 wr n.1.size 0 (List.replicate v 0++q)∧Soft wr n.1.size∧n.1.size<wr.1.size∧
     InR aA q∧Hid (q.length+v=m)∧Hid (aF aA q=((dd/BN^v/g:Nat):Int))∧Below n.1.size n wr∧From w Fz r∧r.ownBlock≠some n.1.size)
   case atStart=>
    have hE:dd/BN^(t+f)=0:=azT (aZ (cyD dd) (fT (by decide) cw));refine⟨List.replicate (m-(t+f)) 0,t+f,?_,?_,aE,?_,?_,M,bu,InR.replicate aQ _,?_,?_,az,From.none,by simp[Value.ownBlock]⟩
    ·congr 1;omega
    ·unfold Hid;rw[ab.out];grind
    ·rw[hE,Nat.zero_mod];exact NatAt.nil _
    ·rw[bz9,show t+f+(m-(t+f))=m by omega];exact aj
    ·unfold Hid;simp;omega
    ·unfold Hid;rw[hE,mL];simp
   case round=>
    obtain⟨q,v,rfl,O,dh,G,V,bj,z,bc,Q,R,A,fr,ct⟩:=hrel;clear M aj bu az;cases gk with
    |zero=>
     have h0:=O.out;rw[azW] at h0;subst h0;have L:((0:Nat):Int)-(f:Int)= -(f:Int):=by omega
     have dm:¬(0:Int)<= -(f:Int):=by omega
     simp only[L];clear L;have cp:NatAt wr u13 (dd%g):=by rw[bx0,Nat.div_one] at G;exact G
     have c0:Hid (aF aA q=((dd/g:Nat):Int)):=by have:=R.out;rw[bx0,Nat.div_one] at this;exact this
     have bf:Hid (q.length=m):=Q.out;have a3:Cells .u64 wr n.1.size 0 q:=by simpa using V
     clear G R Q V O;have d1:nl (dd%g)<=nl dd:=cK (bxP _ _);go_wp2_with fail;refine(gC _ q m m _ bf.out (Rd.mk z a3) aE (by omega)).mono ?_;rintro e w4 ⟨rfl,rfl⟩;go_wp2_with fail;refine(GP (dd%g) l _ _ cp (by omega) (by unfold aJ;omega)).mono ?_;rintro e w5 ⟨v5,rfl,W,f5,I⟩;go_wp2;go_ret2;have af:=aC H A;refine⟨_,_,rfl,?_,?_,From.new H.size,f5.one af.size fr,aC af I⟩
     ·rw[<-HQ.out.1];exact(NatAt.trim (Rd.mk z a3) bc c0.out (by rw[bf.out];exact aE) (Old.mk z)).be I
     ·rw[<-HQ.out.2];exact W
    |succ j=>
     obtain⟨a,HA,bx⟩:∃a:Nat,Hid (a=j*f)∧v=a+f:=⟨j*f,rfl,by have:=O.out;rw[aq2] at this;exact this⟩;subst bx;have L:((a+f:Nat):Int)-(f:Int)=(a:Int):=by omega
     simp only[L];clear L O;have al:dd/BN^(a+f)=dd/BN^a/BN^f:=by rw[aqB,<-KF]
     rw[al] at G;have HV:Hid (aF aA q=((dd/BN^a/BN^f/g:Nat):Int)):=by have:=R.out;rw[al] at this;exact this
     clear al R;have nE:nl (dd/BN^a)<=nl dd:=cK (azK _ _);generalize aw:dd/BN^a=E at *;have Y:=aB aw;clear aw;have P:=aB (RN (E:=E) c6 a9);have nR:nl (E/BN^f%g)<=f:=aH (cK (iE (dI _ a9))) da;have c8:nl (E%BN^f)<=f:=by have:=qK E f;omega
     have bw:nl ((E%BN^f+BN^f*(E/BN^f%g))/g)<=f:=cJ (mU P.out.1);have a7:=bq.be A;have bb:=ba.be A;go_wp2_with fail;refine(wO dd a _ _ a7 (by unfold aJ;omega) (by unfold aJ;omega)).mono ?_;rintro e w4 ⟨v4,rfl,ao,f4,ah⟩;rw[Y.out] at ao;clear f4 a7;go_wp2_with fail;refine(B8 E f _ _ ao (by unfold aJ;omega) (by unfold aJ;omega)).mono ?_;rintro e w5 ⟨v5,rfl,W,f5,I⟩;clear f5 ao;have D:=aC ah I;go_wp2_with fail;refine(tF (E/BN^f%g) (E%BN^f) f _ _ _ (G.be D) W c8 (by unfold aJ;omega)).mono ?_;rintro e w6 ⟨v6,rfl,br,f6,a0⟩;clear W;have F:=aC D a0;go_wp2_with fail;refine(RV (E%BN^f+BN^f*(E/BN^f%g)) g _ _ _ br (bb.be F) (by unfold aJ;omega) (by rw[ap.out];exact aq.out.1) (by rw[ap.out];exact P.out.1)).mono ?_;rintro e w7 ⟨v7,u7,rfl,c3,cz,f7,g7,a1⟩;have K:=aC F a1;have ae:v6.ownBlock≠some n.1.size:=f6.ne (aZ z D.size) (fun u hu=>by cases hu);have ad:v1.ownBlock≠some n.1.size:=by
      obtain⟨A1,c1,rfl,_,_,cj⟩:=id ba;exact cj.ne aE
     have am:n.1.size<w6.1.size:=aZ z F.size;have df:=f7.ne2 am ae ad;have bo:=g7.ne2 am ae ad;have bs:w.1.size<=w6.1.size:=aH H.size (aH A.size F.size);have b1:From w Fz u7:=g7.two bs (f6.wk (aH H.size (aH A.size D.size))) b0;have a4:=V.be K z;have bi:=bj.be K z;have ch:n.1.size<w7.1.size:=aZ z K.size;have b7:=aC A K;clear V bj z ah I a0 a1 D F K br G f6 f7 g7 ae ad bb A ct fr am bs;generalize a8:(E%BN^f+BN^f*(E/BN^f%g))/g=jW at *;have db:=aB a8;clear a8;obtain⟨A7,c7,rfl,dk,cr,dn⟩:=c3;have bv:(List.replicate (a+f) (0:Int)++q).length=m:=by have:=Q.out;simp;omega
     have S:=aB bv;clear bv;generalize X:List.replicate (a+f) (0:Int)++q=zs at *;have bz:=aB X;clear X;have cc:Cells .u64 w7 n.1.size a (zs.drop a):=by have:=a4.drop a;rwa [bA] at this
     have i1:¬m=a:=by omega
     have i2:a<=m:=by omega
     go_wp2_with (with_reducible refine mK rfl (d:= .tmp 88) (s:= .tmp 89) rfl .u64 143 underlying75 V5 rfl rfl n.1.size a (zs.drop a) (dg jW) (by rw[gG,S.out]) rfl (fun _=>rfl) cc bi cr ?_;intro w8 b8 C);rw[gG,S.out] at C;have a5:=C.patch a4 (by rw[lN,gG,S.out]) b8 (by have:=S.out;omega);rw[<-bz.out,RO (by rw[aK];exact bw),aK] at a5;go_wp2;go_roundg j
     case measure=>omega
     case rel=>
      refine⟨_,a,?_,HA,by omega,?_,a5,C.soft bi,aZ ch C.grown.size,?_,?_,?_,C.belowOf b7 aE,b1,bo⟩
      ·congr 1
      ·rw[Y.out,P.out.2.2];obtain⟨A9,c9,rfl,ca,cs,cl⟩:=cz;refine⟨_,_,rfl,ca,C.rd cs ?_,cl.mono C.grown.size⟩;intro b' o' e _ b6;subst e b6;exact bo rfl
      ·exact((cI jW).append (InR.replicate aQ _)).append bc
      ·unfold Hid;have:=Q.out;simp[aK];omega
      ·unfold Hid;rw[<-aK,RP (by rw[aK];exact bw),cU,HV.out,Y.out,P.out.2.1,<-iX];simp
def eqD(x y:Nat)(j k:Value)(w:World)(l:NatAt w j x)(m:NatAt w k y)(G:y≠0)(z:nl x+4*nl y+4<=aJ):
  Calls prog 164 #[j,k] w (pE w [j,k] x y):=by
 have p:=GT x y j k w l m G (by omega) (by omega);unfold aJ at z;by_cases h:80<=nl y∧80+nl y<=nl x
 ·have t:=RR x y j k w l m h.1 (by omega) (by unfold aJ;omega);obtain⟨o,n⟩:=h;obtain⟨A,c,rfl,u,E,C⟩:=l;obtain⟨B,d,rfl,v,F,D⟩:=m;go_enter func164,ntmps164;go_wp2_with fail;refine t.mono ?_;rintro e s ⟨q,r,rfl,g,i,a,b,f⟩;go_wp2;go_ret2;exact⟨_,_,rfl,g,i,a,b,f⟩
 ·obtain⟨A,c,rfl,u,E,C⟩:=l;obtain⟨B,d,rfl,v,F,D⟩:=m;by_cases o:80<=nl y
  ·have n:¬80+nl y<=nl x:=fun n=>h ⟨o,n⟩;have H:¬(80:Int)<=(nl x:Int)-(nl y:Int):=by omega
   clear h;go_enter func164,ntmps164;go_wp2_with fail;refine p.mono ?_;rintro e s ⟨q,r,rfl,g,i,a,b,f⟩;go_wp2;go_ret2;exact⟨_,_,rfl,g,i,a,b,f⟩
  ·clear h;go_enter func164,ntmps164;go_wp2_with fail;refine p.mono ?_;rintro e s ⟨q,r,rfl,g,i,a,b,f⟩;go_wp2;go_ret2;exact⟨_,_,rfl,g,i,a,b,f⟩
