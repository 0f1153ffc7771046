/- Laws. -/
import Derived.Test.YtjgbleapffgbcaaGreatDoorW04
set_option linter.all false
set_option maxHeartbeats 8000000
set_option maxRecDepth 99999
namespace Go.Proofs.YtjgbleapffgbcaaGreatDoor
open Go.RowKit Sos Tryz
variable{H L P a n p q r s x y:Nat}{w w1:World}{vs:List Value}{v:Value}{b c:List Int}
def GQ(w:World)(n:Nat)(b:TypeId):Rd .u64 (w.alloc (.cells #[.int .u64 n] b)) (some ⟨w.1.size,0,none⟩) [(n:Int)]:=by
 refine Rd.mk (by simp) ?_;intro i a;obtain rfl:i=0:=by simpa using a
 simp[go_sem]
def wL(w:World)(n:Nat)(a:n≠0)(hn:n<BN)(b:TypeId):NatAt (w.alloc (.cells #[.int .u64 n] b)) (.slice (some ⟨w.1.size,0,none⟩) 1 1) n:=by
 refine⟨_,1,by rw[mJ a hn],by rw[mJ a hn];exact aE,?_,Old.mk (by simp)⟩;rw[pC a hn];exact GQ w n b
def oI(w:World)(o:Obj):Below w.1.size w (w.alloc o):=(aG _ _).alloc aE _
def RX(j:2<=P)(k:P%2=0)(m:y=P*H+L)(i:L<P)(l:P*P<=2*y)(d:x<y*P):
  P<=2*H∧x/P<y∧(x/P/P<H->x/P<H*P)∧(¬x/P/P<H->P*H<=x/P):=by
 have e:x/P<y:=mU (by rw[dN];exact d);have a:P<=2*H:=by
  have b:P*P<P*(2*H+2):=by
   rw[iL];have:P*(2*H)=2*(P*H):=by grind
   omega
  have f:=bqM b;omega
 refine⟨a,e,fun h=> ?_,fun h=> ?_⟩
 ·exact(Nat.div_lt_iff_lt_mul (by omega)).1 h
 ·have g:=bzD (x/P) P;have c:P*H<=P*(x/P/P):=eV _ (by omega);rw[dN P (x/P/P)] at c;omega
def RY(b:y=P*H+L)(a:x/P=q*H+r):x+q*L=q*y+(x%P+P*r):=by
 have h:=iD x P;have:P*(x/P)=P*(q*H+r):=by rw[a]
 subst b;grind
def RZ(e:y=P*H+L)(c:r<H)(b:0<P):x%P+P*r<q*L+y:=by
 have d:=dI x b;have a:P*(r+1)<=P*H:=eV _ c;rw[iL] at a;omega
def dzE(c:x<y*P)(d:q=P-1)(a:0<P)(b:x+p=q*y+r):r<p+y:=by
 have:y*P=q*y+y:=by
  obtain rfl:P=q+1:=by omega
  grind
 omega
def eyW(e:x+p=q*y+r)(c:p<=r)(d:r<p+y):x/y=q∧x%y=r-p:=by
 have a:x=q*y+(r-p):=by omega
 have b:r-p<y:=by omega
 constructor
 ·rw[a,dN,byU (by omega),azT b,gQ]
 ·rw[a,dN,Nat.mul_add_mod,jJ b]
def cxR(a:x+p=q*y+r)(b:r<p):1<=q∧x+p=(q-1)*y+(r+y):=by
 cases q with
 |zero=>simp at a;omega
 |succ q=>refine⟨by omega,?_⟩;rw[a,mD];grind
def S5(n:Nat)(h:1<=n):BN^n%2=0:=by
 obtain⟨m,rfl⟩:∃m,n=m+1:=⟨n-1,by omega⟩;rw[dH,show BN=9223372036854775808*2 from rfl,<-iW,Nat.mul_mod_left]
def wM(n:Nat)(h:1<=n):2<=BN^n:=by
 have:=cO (n:=BN) (by decide) h;have:BN^1=BN:=bxG _;have:=kN;omega
def wN(N:Nat):Prop:=∀(x y:Nat) (a b:Value) (w:World),nl y<N->NatAt w a x->NatAt w b y->nl y+nl y+2<=aJ->BN^nl y<=2*y->x<y*BN^nl y->
 Calls prog 179 #[a,b] w (pE w [a,b] x y)
def From.one{a:Value}(h:From w1 [a] v)(c:w.1.size<=w1.1.size)(b:From w vs a):From w vs v:=
 h.trans c (fun u d=>by rcases List.mem_singleton.1 d with rfl;exact b)
def From.two{a b:Value}(h:From w1 [a,b] v)(f:w.1.size<=w1.1.size)(d:From w vs a)(e:From w vs b):From w vs v:=
 h.trans f (fun u c=>by
  rcases List.mem_cons.1 c with rfl|c
  ·exact d
  ·rcases List.mem_singleton.1 c with rfl;exact e)
def From.wk(h:From w1 [] v)(a:w.1.size<=w1.1.size):From w vs v:=h.trans a (fun u b=>by cases b)
def GR(N:Nat)(ih:wN N)(x y a:Nat)(j Z:Value)(w:World)(hx:NatAt w j x)(hy:NatAt w Z y)(M:1<=a)(cw:a+a<=nl y)(cz:nl y<=a+a)(hN:a<N)
  (ck:nl y+nl y+2<=aJ)(c2:nl x<=nl y+a)(aq:BN^nl y<=2*y)(am:x<y*BN^a):
  Calls prog 190 #[j,Z] w (pE w [j,Z] x y):=by
 unfold aJ at ck;obtain⟨B,d,rfl,hd,ap,bj⟩:=id hy;obtain⟨b,o,rfl,hb,bf⟩:=ap.at_ (by rw[aK];omega);obtain⟨m,cx,a1⟩:∃m:Nat,2*(a:Int)=(m:Int)∧Hid (m=a+a):=⟨a+a,by omega,rfl⟩;have cy:m<=17592186044416:=by have:=a1.out;omega
 have c0:(nl y:Int)/2=(a:Int):=by omega
 have i1:¬d=a:=by omega
 have i3:a<=nl y:=by omega
 have i5:a<=d:=by omega
 have bi:((dg y).take a).length=a:=by rw[bK,aK];omega
 have ao:Rd .u64 w (some ⟨b,o,none⟩) ((dg y).take a):=ap.take a;have bx:NatAt w (.slice (some ⟨b,o,none⟩) (trimL ((dg y).take a)).length d) (y%BN^a):=NatAt.trim ao ((cI y).take _) (qJ y a) (by omega) bj
 have ay:NatAt w (.slice (some ⟨b,o+a,none⟩) (nl y-a) (d-a)) (y/BN^a):=
  ⟨_,_,by rw[S4],by rw[S4];omega,by rw[<-rM];exact Rd.mk hb (bf.drop a),Old.mk hb⟩
 have HM:=aB (RX (x:=x) (wM a M) (S5 a M) (iD y (BN^a)).symm (dI _ (d7 (by decide))) (by rw[<-KF,show a+a=nl y by omega];exact aq) am);have HY:=aB (iD y (BN^a)).symm;have a2:=aB (dI y (d7 (n:=a) (show 0<BN by decide)));have nH:nl (y/BN^a)<=a:=by rw[S4];omega
 have cu:a<=nl (y/BN^a):=by rw[S4];omega
 have nL:nl (y%BN^a)<=a:=by have:=qK y a;omega
 have nT:nl (x/BN^a)<=nl y:=by rw[S4];omega
 have c4:nl (x/BN^m)<=nl x:=cK (azK _ _);have nX:nl (x%BN^a)<=a:=by have:=qK x a;omega
 have a5:Hid (x/BN^m=x/BN^a/BN^a):=by unfold Hid;rw[aqB,<-KF,a1.out]
 have bz:=aB bi;have HT:=aB aq;have b0:=aB am;clear bi aq am;generalize (dg y).take a=us at *;generalize b8:y/BN^a=H at *;generalize b9:y%BN^a=L at *;clear b8 b9;have b4:From w [j,.slice (some ⟨b,o,none⟩) (nl y) d] (.slice (some ⟨b,o+a,none⟩) (nl y-a) (d-a)):=(From.mem (by simp)).shift (off:=o) (n:=nl y) (c:=d) (s:=none);have b5:From w [j,.slice (some ⟨b,o,none⟩) (nl y) d] (.slice (some ⟨b,o,none⟩) (trimL us).length d):=(From.mem (by simp)).shift (off:=o) (n:=nl y) (c:=d) (s:=none);have fx:From w [j,.slice (some ⟨b,o,none⟩) (nl y) d] j:=From.mem (by simp);have fy:From w [j,.slice (some ⟨b,o,none⟩) (nl y) d] (.slice (some ⟨b,o,none⟩) (nl y) d):=From.mem (by simp);go_enter func190,ntmps190;go_wp2;go_quiet ((go_at_call 123;exact vX (gC _ us a d _ bz.out (ao.drewN _) i5 (by omega))));generalize cq:Value.slice (some ⟨b,o,none⟩) (trimL us).length d=vl at *;generalize cp:Value.slice (some ⟨b,o+a,none⟩) (nl y-a) (d-a)=vh at *;clear cq cp;go_wp2_with fail;refine(wO x a j _ (hx.drewN _) (by unfold aJ;omega) (by unfold aJ;omega)).mono ?_;rintro e w1 ⟨vt,rfl,bs,bh,a9⟩;have S:Below w.1.size w w1:=(eN (aG _ _) _).trans a9;have ft:From w [j,.slice (some ⟨b,o,none⟩) (nl y) d] vt:=bh.one aE fx;clear a9 bh;generalize cr:Value.slice (some ⟨b,o,none⟩) (nl y) d=Z at *;clear cr ap bf bj ao;generalize b6:[j,Z]=Fz at *;clear b6;generalize a8:x/BN^a=T at *;have b3:=aB a8;clear a8;generalize a7:x/BN^m=v at *;have b2:=aB a7;clear a7;go_wp2_with fail;refine(wO x m j _ (hx.be S) (by unfold aJ;omega) (by unfold aJ;omega)).mono ?_;rintro e w2 ⟨c7,rfl,aw,ci,ad⟩;rw[b2.out] at aw;clear ci;go_wp2_with fail;refine(hO v H _ _ _ aw ((ay.be S).be ad) (by omega) (by omega)).mono ?_;rintro e l ⟨rfl,bb⟩;have ag:Below w1.1.size w1 l:=aC ad bb;have t:Below w.1.size w l:=aC S ag;have ax:=bs.be ag;have af:=ay.be t;have bo:=bx.be t;have bt:=hx.be t;have bv:=hy.be t;clear aw ad bb ag S bs ay bx hx hy;go_upto_if 32 with (fail);go_cut [10,11] (fun q r wx=>∃(i C:Nat),NatAt wx q i∧NatAt wx r C∧nl i<=a∧nl C<=a+1∧From w Fz q∧Below l.1.size l wx∧Hid (T=i*H+C)∧Hid (i<BN^a)∧Hid (C<H∨i=BN^a-1))
 case first=>
  by_cases hc:v<H
  ·have J:bZ (v:Int) (H:Int)= -1:=jL (by omega);have R:T<H*BN^a:=HM.out.2.2.1 (by rw[<-a5.out];exact hc);have O:=aB R;clear R;go_wp2_with fail;refine(ih T H _ _ _ (by omega) ax af (by unfold aJ;omega) ?_ ?_).mono ?_
   ·rw[show nl H=a by omega];exact HM.out.1
   ·rw[show nl H=a by omega];exact O.out
   rintro e w4 ⟨vq,vr,rfl,ar,au,aj,ak,D⟩;clear J;go_wp2;go_meet
   case rel=>
    have b7:0<H:=by
     rcases iB H with h|h
     ·subst h;rw[dO] at cu;omega
     ·exact h
    have X:T/H<BN^a:=mU O.out;have E:=dI T b7;exact⟨T/H,T%H,ar,au,cJ X,aH (cK (iE E)) (by omega),aj.two t.size ft b4,D,by unfold Hid;rw[dN,iD],X,.inl E⟩
  ·have J:bZ (v:Int) (H:Int)=0∨bZ (v:Int) (H:Int)=1:=by
    rcases kJ (v:Int) (H:Int) with h|h|h
    ·omega
    ·exact .inl h.2
    ·exact .inr h.2
   have ce:¬bZ (v:Int) (H:Int)<0:=by rcases J with h|h<;>rw[h]<;>decide
   clear J;generalize bZ (v:Int) (H:Int)=cc at *;have R:BN^a*H<=T:=HM.out.2.2.2 (by rw[<-a5.out];exact hc);have O:=aB R;clear R;go_wp2_with fail;refine(SE a _ _ _ M (by unfold aJ;omega) (GQ l 18446744073709551615 _)).mono ?_;rintro e w5 ⟨vq,rfl,ar,aj,bc⟩;have u:=(oI l _).trans (bc.mono (oI l _).size);clear bc;go_wp2_with fail;refine(tF H 0 a _ _ _ (af.be u) (NatAt.nil _) (by rw[dO];omega) (by unfold aJ;omega)).mono ?_;rintro e w6 ⟨vj,rfl,bn,cg,z⟩;rw[bA] at bn;clear cg;go_wp2_with fail;refine(qM T (BN^a*H) _ _ _ ((ax.be u).be z) bn (by omega) O.out).mono ?_;rintro e w7 ⟨vs,rfl,av,al,V⟩;clear al;have nS:=cK (bxR T (BN^a*H));have G:Below w5.1.size w5 w7:=aC z V;have ah:Below l.1.size l w7:=aC u G;go_wp2_with fail;refine(rP (T-BN^a*H) H _ _ _ av (af.be ah) (by omega) (by omega)).mono ?_;rintro e w8 ⟨va,rfl,Y,K,g⟩;clear K;go_wp2;go_meet
   case rel=>
    have hp:=wM a M;have cd:=aC G g;have c3:=HM.out.2.1;have hy:=HY.out;have c1:=a2.out;refine⟨BN^a-1,T-BN^a*H+H,ar.be cd,Y,cJ (by omega),cJ ?_,aj.wk (aH t.size (oI l _).size),aC ah g,?_,?_,.inr rfl⟩
    ·have h1:=cyD H;have m:BN^nl H<=BN^a:=cO (by decide) nH;have h3:2*BN^a<=BN^(a+1):=by rw[dH,dN];exact eV _ kN
     omega
    ·unfold Hid;rw[Nat.sub_mul,aqD];have h4:=O.out;have h5:H<=BN^a*H:=byT _ (by omega);omega
    ·unfold Hid;omega
 case rest=>
  obtain⟨i,C,an,bm,cv,c5,Q,D,HE,HQ,HR⟩:=hcut;have ac:Below w.1.size w wc:=aC t D;have bp:=bo.be D;have bu:=bt.be D;have bw:=bv.be D;clear bo bt bv ax af D t;go_wp2_with fail;refine(qN i L _ _ _ an bp (by unfold aJ;omega)).mono ?_;rintro e w5 ⟨vp,rfl,br,bg,u⟩;have nP:=fI i L;have fp:From w Fz vp:=bg.two ac.size Q b5;clear bg bp;go_wp2_with fail;refine(B8 x a _ _ (bu.be u) (by unfold aJ;omega) (by unfold aJ;omega)).mono ?_;rintro e w6 ⟨vo,rfl,bq,ch,z⟩;clear ch;have U:Below wc.1.size wc w6:=aC u z;go_wp2_with fail;refine(tF C (x%BN^a) a _ _ _ (bm.be U) bq (by omega) (by unfold aJ;omega)).mono ?_;rintro e w7 ⟨vr,rfl,au,ak,V⟩;have ae:=aC U V;have G:=aC z V;have F:=aC ac ae;have fr:From w Fz vr:=ak.wk (aH ac.size U.size);have cn:=an.be ae;have cs:=bw.be ae;have cl:=br.be G;have HS:=aB (RY (x:=x) (P:=BN^a) HY.out (b3.out.trans HE.out));have HB:Hid (x%BN^a+BN^a*C<i*L+y):=by
   rcases HR.out with h|h
   ·exact RZ HY.out h (by have:=wM a M;omega)
   ·exact dzE b0.out h (by have:=wM a M;omega) HS.out
  have ca:i*L<BN^(nl y):=by
   rw[show nl y=a+a by omega,KF];exact byV HQ.out a2.out
  have a6:∀r,r<i*L+y->nl r<=nl y+1:=by
   intro r E;refine cJ ?_;have h1:=cyD y;have h3:2*BN^nl y<=BN^(nl y+1):=by rw[dH,dN];exact eV _ kN
   omega
  have b1:=aB a6;clear ca a6;generalize x%BN^a+BN^a*C=R0 at *;generalize i*L=p at *;clear ak u z V U ae G bq br an bm bu bw;go_wp2;go_loopg [10,11] i (fun k q r wr=>∃(f:Nat),NatAt wr q k∧NatAt wr r f∧From w Fz q∧From w Fz r∧Below w7.1.size w7 wr∧nl k<=a∧Hid (x+p=k*y+f)∧Hid (f<p+y))
  case atStart=>exact⟨R0,cn,au,Q,fr,aG _ _,cv,HS,HB⟩
  case round=>
   obtain⟨f,X,E,Q,fr,A,nk,a4,az⟩:=hrel;have c6:=b1.out f az.out;have bk:=cl.be A;have ct:=cs.be A;go_wp2_with fail;refine(hO f p _ _ _ E bk (by omega) (by omega)).mono ?_;rintro e w8 ⟨rfl,g⟩;by_cases hc:f<p
   ·have J:bZ (f:Int) (p:Int)= -1:=jL (by omega);have a3:=aB (cxR a4.out hc);have cj:1<=gk:=a3.out.1;go_wp2_with fail;refine(rP f y _ _ _ (E.be g) (ct.be g) (by omega) (by omega)).mono ?_;rintro e w9 ⟨va,rfl,Y,K,ai⟩;have W:=aC g ai;have I:=aC A W;have fa:From w Fz va:=K.two (aH F.size (aH A.size g.size)) fr fy;have co:=X.be W;clear K J;go_wp2_with fail;((refine(qM gk 1 _ _ _ (co.be (oI _ _)) (wL _ 1 (by decide) (by decide) _) (by omega) cj).mono ?_));rintro e c8 ⟨vs,rfl,av,al,cb⟩;have ba:=(oI w9 _).trans (cb.mono (oI w9 _).size);go_wp2;go_roundg (gk-1)
    case measure=>omega
    case rel=>
     refine⟨f+y,av,Y.be ba,al.two (aH (aH F.size I.size) (oI w9 _).size) Q (From.new (aH F.size I.size)),fa,aC I ba,aH (cK (bxR _ _)) nk,a3.out.2,by unfold Hid;omega⟩
   ·have ce:¬bZ (f:Int) (p:Int)<0:=by
     rcases kJ (f:Int) (p:Int) with h|h|h
     ·omega
     ·rw[h.2];decide
     ·rw[h.2];decide
    have a0:=aB (eyW a4.out (by omega) az.out);have cm:p<=f:=by omega
    generalize bZ (f:Int) (p:Int)=cc at *;go_wp2_with fail;refine(qM f p _ _ _ (E.be g) (bk.be g) (by omega) cm).mono ?_;rintro e w9 ⟨va,rfl,Y,K,ai⟩;have W:=aC g ai;have I:=aC A W;go_wp2;go_ret2;refine⟨_,_,rfl,?_,?_,Q,K.two (aH F.size (aH A.size g.size)) fr fp,aC F I⟩
    ·rw[a0.out.1];exact X.be W
    ·rw[a0.out.2];exact Y
def RS(i:0<P)(l:x<y*(P*P))(a b:Nat)(d:a=x/P)(k:b=x%P+P*(a%y)):
  a<y*P∧b<y*P∧x/y=b/y+P*(a/y)∧x%y=b%y:=by
 have e:0<y:=by
  rcases iB y with h|h
  ·subst h;omega
  ·exact h
 have j:x=P*a+x%P:=by rw[d];exact(iD x P).symm
 have c:x=y*(P*(a/y))+b:=by
  have:=iD a y;have f:P*a=P*(y*(a/y)+a%y):=by rw[this]
  grind
 refine⟨?_,?_,?_,?_⟩
 ·rw[d];refine mU ?_;have:P*(y*P)=y*(P*P):=by grind
  omega
 ·have f:=dI x i;have g:P*(a%y+1)<=P*y:=eV _ (dI a e);rw[iL] at g;rw[dN y P];omega
 ·rw[c,byU e,aq1]
 ·rw[c,Nat.mul_add_mod]
def RT(N:Nat)(ih:wN N):wN (N+1):=by
 intro x y v vy w hN F t ak X q;have a2:nl x<=nl y+nl y:=by
  refine cJ ?_;rw[KF];exact aZ q (dK _ (iE (cyD y)))
 have ar:y≠0:=by intro h;subst h;simp at q
 obtain⟨B,d,Y,hd,a1,a0⟩:=id t;have J:=aB X;have ad:=aB q;clear X q;unfold aJ at ak;by_cases r:nl y<80∨nl y%2=1
 ·subst Y;have C:=(GT x y _ _ w F t ar (by unfold aJ;omega) (by unfold aJ;omega));rcases r with r|r
  ·go_enter func179,ntmps179;go_wp2_with fail;refine C.mono ?_;rintro e I ⟨u,H,rfl,i,f,c,g,l⟩;go_wp2;go_ret2;exact⟨_,_,rfl,i,f,c,g,l⟩
  ·have an:((nl y:Int)%2==0)=false:=by simp;omega
   have ao:((nl y:Int)%2)=1:=by omega
   by_cases ap:nl y<80
   ·go_enter func179,ntmps179;go_wp2_with fail;refine C.mono ?_;rintro e I ⟨u,H,rfl,i,f,c,g,l⟩;go_wp2;go_ret2;exact⟨_,_,rfl,i,f,c,g,l⟩
   ·go_enter func179,ntmps179;go_wp2_with fail;refine C.mono ?_;rintro e I ⟨u,H,rfl,i,f,c,g,l⟩;go_wp2;go_ret2;exact⟨_,_,rfl,i,f,c,g,l⟩
 ·obtain⟨a,V,W,az⟩:∃a:Nat,a+a<=nl y∧nl y<=a+a∧(nl y:Int)/2=(a:Int):=⟨nl y/2,by omega,by omega,by omega⟩;have ap:¬nl y<80:=by omega
  have an:((nl y:Int)%2==0)=true:=by simp;omega
  have ao:((nl y:Int)%2)=0:=by omega
  clear r;obtain⟨b,s⟩:∃b,b=x/BN^a:=⟨_,rfl⟩;obtain⟨j,G⟩:∃j,j=x%BN^a+BN^a*(b%y):=⟨_,rfl⟩;have m:=RS (P:=BN^a) (d7 (by decide)) (by rw[<-KF,show a+a=nl y by omega];exact ad.out) b j s G;have av:nl b<=nl y+a:=by rw[s,S4];omega
  have aw:nl j<=nl y+a:=by
   refine cJ ?_;rw[KF];exact aZ m.2.1 (dK _ (iE (cyD y)))
  have a6:nl (x%BN^a)<=a:=by have:=qK x a;omega
  have a5:nl (b%y)<=nl y:=cK (iE (dI _ (by omega)));have a3:nl (b/y)<=a:=cJ (mU m.1);have a4:nl (j/y)<=a:=cJ (mU m.2.1);have ae:=aB s;have af:=aB G;have n:=aB m;clear s G m;subst Y;go_enter func179,ntmps179;go_wp2_with fail;refine(wO x a _ _ F (by unfold aJ;omega) (by unfold aJ;omega)).mono ?_;rintro e I ⟨v1,rfl,D,K,o⟩;rw[<-ae.out] at D;have ac:=t.be o;have L:From w [v,Value.slice B (nl y) d] v1:=K.one aE (From.mem (by simp));clear K;go_wp2_with fail;refine(GR N ih b y a _ _ _ D ac (by omega) V W (by omega) (by unfold aJ;omega) av J.out n.out.1).mono ?_;rintro e w2 ⟨u,H,rfl,i,f,c,g,S⟩;have k:=aC o S;have ay:From w [v,Value.slice B (nl y) d] u:=c.two o.size L (From.mem (by simp));clear c g L S D ac;go_wp2_with fail;refine(B8 x a _ _ (F.be k) (by unfold aJ;omega) (by unfold aJ;omega)).mono ?_;rintro e w3 ⟨vl,rfl,Z,fl,p⟩;clear fl;go_wp2_with fail;refine(tF (b%y) (x%BN^a) a _ _ _ (f.be p) Z (by omega) (by unfold aJ;omega)).mono ?_;rintro e w4 ⟨vj,rfl,E,M,ai⟩;have O:From w [v,Value.slice B (nl y) d] vj:=M.wk (aH k.size p.size);rw[<-af.out] at E;have A:=aC p ai;have R:=aC k A;have au:=t.be R;go_wp2_with fail;refine(GR N ih j y a _ _ _ E au (by omega) V W (by omega) (by unfold aJ;omega) aw J.out n.out.2.1).mono ?_;rintro e w5 ⟨a7,ax,rfl,al,am,ag,Q,aj⟩;have ah:From w [v,Value.slice B (nl y) d] ax:=Q.two R.size O (From.mem (by simp));have T:=aC A aj;have z:=aC k T;clear ag Q O M E Z f;go_wp2_with fail;refine(tF (b/y) (j/y) a _ _ _ (i.be T) al (by omega) (by unfold aJ;omega)).mono ?_;rintro e w6 ⟨vz,rfl,aq,fz,U⟩;go_wp2;go_ret2;refine⟨_,_,rfl,?_,?_,fz.wk z.size,ah,aC z U⟩
  ·rw[n.out.2.2.1];exact aq
  ·rw[n.out.2.2.2];exact am.be U
def RU(N:Nat):wN N:=by
 induction N with
 |zero=>intro x y b c w h;omega
 |succ N a=>exact RT N a
def RV(x y:Nat)(a b:Value)(w:World)(f:NatAt w a x)(g:NatAt w b y)(c:nl y+nl y+2<=aJ)(e:BN^nl y<=2*y)(d:x<y*BN^nl y):
  Calls prog 179 #[a,b] w (pE w [a,b] x y):=RU _ x y a b w (aqC _) f g c e d
def RI(d:y≠0)(l:s<64)(c:2^63<=y/BN^(nl y-1)*2^s)(g:y/BN^(nl y-1)*2^s<BN):
  BN^nl y<=2*(y*2^s)∧y*2^s<BN^nl y:=by
 have e:=GI d (by omega) g;have a:=cyD (y*2^s);rw[e] at a;refine⟨?_,a⟩;have h:=gS d;obtain⟨m,b⟩:∃m,nl y=m+1:=⟨nl y-1,by omega⟩;rw[b,mD] at c;rw[b,dH];have f:=bzD y (BN^m);have i:(y/BN^m*2^s)*BN^m<=y*2^s:=by
  have:(y/BN^m*2^s)*BN^m=(y/BN^m*BN^m)*2^s:=by grind
  rw[this];exact dK _ f
 have j:2^63*BN^m<=(y/BN^m*2^s)*BN^m:=dK _ c;have k:BN^m*BN=2*(2^63*BN^m):=by rw[show BN=2*2^63 from rfl];grind
 omega
def RK(hn:n<=a)(d:BN^n<=2*(y*2^s))(f:y*2^s<BN^n)(l:1<=a):
  BN^a<=2*(y*2^(64*(a-n)+s))∧nl (y*2^(64*(a-n)+s))=a:=by
 have e:y*2^(64*(a-n)+s)=(y*2^s)*BN^(a-n):=by rw[sZ];grind
 rw[e];have b:BN^a=BN^n*BN^(a-n):=by rw[<-KF];congr 1;omega
 generalize y*2^s=z at *;have h:0<BN^(a-n):=d7 (by decide);have g:BN^a<=2*(z*BN^(a-n)):=by
  rw[b,<-iW];exact dK _ d
 refine⟨g,byS (cJ ?_) ?_⟩
 ·rw[b];exact bxF f h
 ·rcases dE (nl (z*BN^(a-n))) a with c|c
  ·exfalso;have i:=cyD (z*BN^(a-n));have j:BN^nl (z*BN^(a-n))<=BN^(a-1):=cO (by decide) (by omega);have k:2*BN^(a-1)<=BN^a:=by
    obtain⟨m,rfl⟩:∃m,a=m+1:=⟨a-1,by omega⟩;rw[mD,dH,dN];exact eV _ kN
   omega
  ·exact c
def RM{k:Nat}:x*2^k/(y*2^k)=x/y∧x*2^k%(y*2^k)/2^k=x%y:=by
 have a:0<2^k:=d7 (by decide);refine⟨Nat.mul_div_mul_right _ _ a,?_⟩;rw[Nat.mul_mod_mul_right,Nat.mul_div_cancel _ a]
def RN{E D:Nat}(g:0<D)(b:0<a):
  E%D+D*(E/D%a)<a*D∧E/a=(E%D+D*(E/D%a))/a+D*(E/D/a)∧E%a=(E%D+D*(E/D%a))%a:=by
 have h:=iD E D;have c:=iD (E/D) a;have e:E=a*(D*(E/D/a))+(E%D+D*(E/D%a)):=by
  have d:D*(E/D)=D*(a*(E/D/a)+E/D%a):=by rw[c]
  grind
 refine⟨?_,?_,?_⟩
 ·have d:=dI E g;have f:D*(E/D%a+1)<=D*a:=eV _ (dI _ b);rw[iL] at f;rw[dN a D];omega
 ·conv=>lhs;rw[e]
  rw[byU b,aq1]
 ·conv=>lhs;rw[e]
  rw[Nat.mul_add_mod]
def RO(e:b.length<=s):
  patch (List.replicate (a+s) 0++c) (d8 ((List.replicate (a+s) 0++c).drop a) b) a=List.replicate a 0++(b++List.replicate (s-b.length) 0++c):=by
 have d:(List.replicate (a+s) (0:Int)++c).drop a=List.replicate s 0++c:=by
  rw[List.drop_append_of_le_length (by simp),bxL,bzC]
 rw[d];unfold patch d8;rw[cZ (l:=b) (by simp;omega),List.drop_append_of_le_length (by simpa using e),bxL];rw[bzU (by simp),List.take_replicate,y8 (by omega)];rw[gO (by simp;omega)];simp
def RP{a:List Int}(c:a.length<=s):aF aA (a++List.replicate (s-a.length) 0++b)=aF aA a+aA^s*aF aA b:=by
 rw[kV,kV,mL,dA,dB,show a.length+(s-a.length)=s by omega];simp
def RQ(b:1<=p)(d:p<=n):∃c:Nat,((n:Int)+p-1)/(p:Int)=(c:Int)∧n<=c*p∧c*p<n+p∧1<=c∧c<=n∧(80<=c->p*2<=n):=by
 refine⟨(n+p-1)/p,?_,?_,?_,?_,?_,?_⟩
 ·rw[azR];congr 1;omega
 ·have:=iD (n+p-1) p;have:=dI (n+p-1) (show 0<p by omega);rw[dN];omega
 ·have:=bzD (n+p-1) p;omega
 ·exact(bzW (by omega)).2 (by omega)
 ·refine Nat.div_le_of_le_mul ?_;have:p*n=n+(p-1)*n:=by
   obtain⟨k,rfl⟩:∃k,p=k+1:=⟨p-1,by omega⟩;simp;grind
  have:(p-1)*1<=(p-1)*n:=eV _ (by omega);omega
 ·intro h;have a:=(bzW (show 0<p by omega)).1 h;omega
def RR(x y:Nat)(N vy:Value)(w:World)(hx:NatAt w N x)(hy:NatAt w vy y)(cj:80<=nl y)(c6:nl y<=nl x)(ch:nl x+4*nl y+4<=aJ):
  Calls prog 154 #[N,vy] w (pE w [N,vy] x y):=by
 unfold aJ at ch;obtain⟨B,d,rfl,hd,cv,dq⟩:=id hy;obtain⟨b,o,rfl,hb,a7⟩:=cv.at_ (by rw[aK];omega);have bu:y≠0:=by intro h;subst h;rw[dO] at cj;omega
 have c5:x≠0:=by intro h;subst h;rw[dO] at c6;omega
 obtain⟨bm,bn,bo⟩:=wH bu;obtain⟨s,ao,bh,M,bi⟩:=wK _ bn bo;have Z:=aB (RI bu ao M bi);have ad:=a7 (nl y-1) (by rw[aK];omega);rw[bm] at ad;have b3:=kU;generalize y/BN^(nl y-1)=a at *;have az:(a:Int)<aA:=by omega
 have ay:0<(a:Int):=by omega
 have au:=aB bh;clear bm M bi bn bo b3 a7 bh;go_enter func154,ntmps154;go_wp2;go_loop [7] (fun i=>∃p:Nat,1<=p∧p<=nl y∧i= .int .i64 p) (fun i=>nl y-(intOf i).toNat)
 case atStart=>exact⟨1,aE,by omega,rfl⟩
 case round=>
  obtain⟨p,cn,co,rfl⟩:=hrel;obtain⟨c,cc,aj,U,ak,dj,al⟩:=RQ cn co;have dr:¬p=0:=by omega
  by_cases ca:80<=c
  ·have cp:=al ca;clear ad ay az Z au ao c5 aj U al;go_wp2;go_round
   case rel=>exact⟨p*2,by omega,cp,by go_num⟩
   case measure=>simp[intOf];omega
  ·have dk:¬(80:Int)<=(c:Int):=by omega
   obtain⟨f,X,cz,dw,df⟩:∃f:Nat,(c:Int)*(p:Int)=(f:Int)∧nl y<=f∧f<nl y+p∧Hid (f=c*p):=⟨c*p,by simp,aj,U,rfl⟩;obtain⟨l,cw,ds,av⟩:∃l:Nat,64*((f:Int)-(nl y:Int))+(s:Int)=(l:Int)∧l<64*(f-nl y)+64∧Hid (l=64*(f-nl y)+s):=⟨64*(f-nl y)+s,by omega,by omega,rfl⟩;clear aj U al;have ar:Hid (BN^f<=2*(y*2^l)∧nl (y*2^l)=f):=by
    unfold Hid;rw[av.out];exact RK cz Z.out.1 Z.out.2 (by omega)
   go_wp2_with fail;refine(rR a s ay az (by rw[j9];exact au.out) _).mono ?_;rintro e d3 ⟨rfl,rfl⟩;go_wp2_with fail;refine(tC y l _ _ hy (by omega) (by unfold aJ;omega)).mono ?_;rintro e w1 ⟨v1,rfl,bq,f1,T⟩;have b1:From w [N,Value.slice (some ⟨b,o,none⟩) (nl y) d] v1:=f1.one aE (From.mem (by simp));clear f1;go_wp2_with fail;refine(tC x l _ _ (hx.be T) (by omega) (by unfold aJ;omega)).mono ?_;rintro e n ⟨v2,rfl,br,f2,ah⟩;clear f2;have H:=aC T ah;have bb:=bq.be ah;have HQ:=aB (RM (x:=x) (y:=y) (k:=l));have ba:0<y*2^l:=aqZ (by omega) (d7 (by decide));have dm:0<x*2^l:=aqZ (by omega) (d7 (by decide));have d0:nl (x*2^l)<=nl x+(f-nl y)+1:=by
    refine cJ ?_;rw[av.out,sZ,bxE,KF,dH];refine byV (cyD x) (Nat.mul_lt_mul_of_pos_left ?_ (d7 (by decide)));rw[sY];exact by9 (by decide) ao
   generalize cg:y*2^l=g at *;generalize ce:x*2^l=dd at *;clear cg ce bq T ah ad cw X cc;have d1:=gS (show dd≠0 by omega);obtain⟨J,b6,b4,b5⟩:∃J:Nat,((nl dd:Int)-1)/(f:Int)=(J:Int)∧J*f+1<=nl dd∧nl dd<=J*f+f:=by
    have h1:=iD (nl dd-1) f;have h2:=dI (nl dd-1) (show 0<f by omega);rw[dN] at h1;exact⟨(nl dd-1)/f,by rw[azR];congr 1;omega,by omega,by omega⟩
   obtain⟨t,cy,ac⟩:∃t:Nat,(J:Int)*(f:Int)=(t:Int)∧Hid (t=J*f):=⟨J*f,by simp,rfl⟩;have dt:t+1<=nl dd:=by have:=ac.out;omega
   have cx:nl dd<=t+f:=by have:=ac.out;omega
   have du:¬f=0:=by omega
   clear b4 b5;obtain⟨m,dx,dy,de⟩:∃m:Nat,nl dd+f<=m∧m<=nl dd+f∧Hid (nl dd+f=m):=⟨_,aE,aE,rfl⟩;obtain⟨A2,c2,rfl,U,cr,cl⟩:=id br;go_wp2_with (at_make;refine kG rfl rfl .u64 119 8 underlying58 gZ m rfl rfl (by omega) (by omega) (by omega) (by omega) ?_;intro w3 bv M ak a0);generalize [N,Value.slice (some ⟨b,o,none⟩) (nl y) d]=Fz at *;have aw:=ar.out.2;have db:nl g<=f:=by omega
   have aq:=aB aw;clear aw cr cl b6 cy;have c8:0<BN^f:=d7 (by decide)
   go_loopg [13,14] (J+1) (fun k r i wr=>∃(q:List Int) (v:Nat),i= .int .i64 ((v:Int)-(f:Int))∧Hid (v=k*f)∧v<=t+f∧NatAt wr r (dd/BN^v%g)∧Cells .u64 wr n.1.size 0 (List.replicate v 0++q)∧Soft wr n.1.size∧n.1.size<wr.1.size∧
     InR aA q∧Hid (q.length+v=m)∧Hid (aF aA q=((dd/BN^v/g:Nat):Int))∧Below n.1.size n wr∧From w Fz r∧r.ownBlock≠some n.1.size)
   case atStart=>
    have hE:dd/BN^(t+f)=0:=azT (aZ (cyD dd) (cO (by decide) cx));refine⟨List.replicate (m-(t+f)) 0,t+f,?_,?_,aE,?_,?_,M,bv,InR.replicate aQ _,?_,?_,a0,From.none,by simp[Value.ownBlock]⟩
    ·congr 1;omega
    ·unfold Hid;rw[ac.out];grind
    ·rw[hE,Nat.zero_mod];exact NatAt.nil _
    ·rw[bz9,show t+f+(m-(t+f))=m by omega];exact ak
    ·unfold Hid;simp;omega
    ·unfold Hid;rw[hE,mL];simp
   case round=>
    obtain⟨q,v,rfl,O,di,G,V,bk,z,bf,Q,R,A,fr,cu⟩:=hrel;clear M ak bv a0;cases gk with
    |zero=>
     have h0:=O.out;rw[azW] at h0;subst h0;have L:((0:Nat):Int)-(f:Int)= -(f:Int):=by omega
     have dn:¬(0:Int)<= -(f:Int):=by omega
     simp only[L];clear L;have cq:NatAt wr u13 (dd%g):=by rw[bx0,Nat.div_one] at G;exact G
     have c3:Hid (aF aA q=((dd/g:Nat):Int)):=by have:=R.out;rw[bx0,Nat.div_one] at this;exact this
     have bg:Hid (q.length=m):=Q.out;have a4:Cells .u64 wr n.1.size 0 q:=by simpa using V
     clear G R Q V O;have d2:nl (dd%g)<=nl dd:=cK (bxP _ _);go_wp2_with fail;refine(gC _ q m m _ bg.out (Rd.mk z a4) aE (by omega)).mono ?_;rintro e w4 ⟨rfl,rfl⟩;go_wp2_with fail;refine(GP (dd%g) l _ _ cq (by omega) (by unfold aJ;omega)).mono ?_;rintro e w5 ⟨v5,rfl,W,f5,I⟩;go_wp2;go_ret2;have ag:=aC H A;refine⟨_,_,rfl,?_,?_,From.new H.size,f5.one ag.size fr,aC ag I⟩
     ·rw[<-HQ.out.1];exact(NatAt.trim (Rd.mk z a4) bf c3.out (by rw[bg.out];exact aE) (Old.mk z)).be I
     ·rw[<-HQ.out.2];exact W
    |succ j=>
     obtain⟨a,HA,bz⟩:∃a:Nat,Hid (a=j*f)∧v=a+f:=⟨j*f,rfl,by have:=O.out;rw[aq2] at this;exact this⟩;subst bz;have L:((a+f:Nat):Int)-(f:Int)=(a:Int):=by omega
     simp only[L];clear L O;have am:dd/BN^(a+f)=dd/BN^a/BN^f:=by rw[aqB,<-KF]
     rw[am] at G;have HV:Hid (aF aA q=((dd/BN^a/BN^f/g:Nat):Int)):=by have:=R.out;rw[am] at this;exact this
     clear am R;have nE:nl (dd/BN^a)<=nl dd:=cK (azK _ _);generalize ax:dd/BN^a=E at *;have Y:=aB ax;clear ax;have P:=aB (RN (E:=E) c8 ba);have nR:nl (E/BN^f%g)<=f:=aH (cK (iE (dI _ ba))) db;have da:nl (E%BN^f)<=f:=by have:=qK E f;omega
     have bx:nl ((E%BN^f+BN^f*(E/BN^f%g))/g)<=f:=cJ (mU P.out.1);have a8:=br.be A;have bc:=bb.be A;go_wp2_with fail;refine(wO dd a _ _ a8 (by unfold aJ;omega) (by unfold aJ;omega)).mono ?_;rintro e w4 ⟨v4,rfl,ap,f4,ai⟩;rw[Y.out] at ap;clear f4 a8;go_wp2_with fail;refine(B8 E f _ _ ap (by unfold aJ;omega) (by unfold aJ;omega)).mono ?_;rintro e w5 ⟨v5,rfl,W,f5,I⟩;clear f5 ap;have D:=aC ai I;go_wp2_with fail;refine(tF (E/BN^f%g) (E%BN^f) f _ _ _ (G.be D) W da (by unfold aJ;omega)).mono ?_;rintro e w6 ⟨v6,rfl,bs,f6,a1⟩;clear W;have F:=aC D a1;go_wp2_with fail;refine(RV (E%BN^f+BN^f*(E/BN^f%g)) g _ _ _ bs (bc.be F) (by unfold aJ;omega) (by rw[aq.out];exact ar.out.1) (by rw[aq.out];exact P.out.1)).mono ?_;rintro e w7 ⟨v7,u7,rfl,c4,c0,f7,g7,a3⟩;have K:=aC F a3;have af:v6.ownBlock≠some n.1.size:=f6.ne (aZ z D.size) (fun u hu=>by cases hu);have ae:v1.ownBlock≠some n.1.size:=by
      obtain⟨A1,c1,rfl,_,_,ck⟩:=id bb;exact ck.ne aE
     have an:n.1.size<w6.1.size:=aZ z F.size;have dh:=f7.ne2 an af ae;have bp:=g7.ne2 an af ae;have bt:w.1.size<=w6.1.size:=aH H.size (aH A.size F.size);have b2:From w Fz u7:=g7.two bt (f6.wk (aH H.size (aH A.size D.size))) b1;have a5:=V.be K z;have bj:=bk.be K z;have ci:n.1.size<w7.1.size:=aZ z K.size;have b8:=aC A K;clear V bk z ai I a1 a3 D F K bs G f6 f7 g7 af ae bc A cu fr an bt;generalize a9:(E%BN^f+BN^f*(E/BN^f%g))/g=jW at *;have dc:=aB a9;clear a9;obtain⟨A7,c7,rfl,dl,cs,dp⟩:=c4;have bw:(List.replicate (a+f) (0:Int)++q).length=m:=by have:=Q.out;simp;omega
     have S:=aB bw;clear bw;generalize X:List.replicate (a+f) (0:Int)++q=zs at *;have b0:=aB X;clear X;have cd:Cells .u64 w7 n.1.size a (zs.drop a):=by have:=a5.drop a;rwa [bA] at this
     have i1:¬m=a:=by omega
     have i2:a<=m:=by omega
     go_wp2_with (with_reducible refine mK rfl (d:= .tmp 88) (s:= .tmp 89) rfl .u64 119 underlying58 V5 rfl rfl n.1.size a (zs.drop a) (dg jW) (by rw[eP,S.out]) rfl (fun _=>rfl) cd bj cs ?_;intro w8 b9 C);rw[eP,S.out] at C;have a6:=C.patch a5 (by rw[lN,eP,S.out]) b9 (by have:=S.out;omega);rw[<-b0.out,RO (by rw[aK];exact bx),aK] at a6;go_wp2;go_roundg j
     case measure=>omega
     case rel=>
      refine⟨_,a,?_,HA,by omega,?_,a6,C.soft bj,aZ ci C.grown.size,?_,?_,?_,C.belowOf b8 aE,b2,bp⟩
      ·congr 1
      ·rw[Y.out,P.out.2.2];obtain⟨A9,c9,rfl,cb,ct,cm⟩:=c0;refine⟨_,_,rfl,cb,C.rd ct ?_,cm.mono C.grown.size⟩;intro b' o' e _ b7;subst e b7;exact bp rfl
      ·exact((cI jW).append (InR.replicate aQ _)).append bf
      ·unfold Hid;have:=Q.out;simp[aK];omega
      ·unfold Hid;rw[<-aK,RP (by rw[aK];exact bx),cU,HV.out,Y.out,P.out.2.1,<-iX];simp
def D1(x y:Nat)(j k:Value)(w:World)(l:NatAt w j x)(m:NatAt w k y)(G:y≠0)(z:nl x+4*nl y+4<=aJ):
  Calls prog 121 #[j,k] w (pE w [j,k] x y):=by
 have p:=GT x y j k w l m G (by omega) (by omega);unfold aJ at z;by_cases h:80<=nl y∧80+nl y<=nl x
 ·have t:=RR x y j k w l m h.1 (by omega) (by unfold aJ;omega);obtain⟨o,n⟩:=h;obtain⟨A,c,rfl,u,E,C⟩:=l;obtain⟨B,d,rfl,v,F,D⟩:=m;go_enter func121,ntmps121;go_wp2_with fail;refine t.mono ?_;rintro e s ⟨q,r,rfl,g,i,a,b,f⟩;go_wp2;go_ret2;exact⟨_,_,rfl,g,i,a,b,f⟩
 ·obtain⟨A,c,rfl,u,E,C⟩:=l;obtain⟨B,d,rfl,v,F,D⟩:=m;by_cases o:80<=nl y
  ·have n:¬80+nl y<=nl x:=fun n=>h ⟨o,n⟩;have H:¬(80:Int)<=(nl x:Int)-(nl y:Int):=by omega
   clear h;go_enter func121,ntmps121;go_wp2_with fail;refine p.mono ?_;rintro e s ⟨q,r,rfl,g,i,a,b,f⟩;go_wp2;go_ret2;exact⟨_,_,rfl,g,i,a,b,f⟩
  ·clear h;go_enter func121,ntmps121;go_wp2_with fail;refine p.mono ?_;rintro e s ⟨q,r,rfl,g,i,a,b,f⟩;go_wp2;go_ret2;exact⟨_,_,rfl,g,i,a,b,f⟩
