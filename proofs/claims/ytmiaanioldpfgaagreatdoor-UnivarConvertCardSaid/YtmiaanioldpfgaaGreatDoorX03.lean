/- Laws. -/
import Derived.Test.YtmiaanioldpfgaaGreatDoorX02
import Derived.Lib.AppendIntMem
set_option linter.all false
set_option maxHeartbeats 8000000
set_option maxRecDepth 99999
namespace Go.Proofs.YtmiaanioldpfgaaGreatDoor
open Go.RowKit Sos Tryz
variable{sh:Nat}{a r0 z:Int}
def MulOK.mono{M N:Nat}(h:MulOK N)(g:M<=N):MulOK M:=fun x y d e w f a b c=>h x y d e w (by omega) a b c
def QD(N:Nat)(ih:MulOK N):MulOK (N+1):=by
 intro x y vx vy w hN cg hx hy;unfold aJ at cg;obtain⟨A,c,rfl,hc,a8,a5⟩:=hx;obtain⟨B,d,rfl,O,a9,a6⟩:=hy;go_enter func69,ntmps69;go_upto_if 21 with (fail)
 go_cut [0,1] (fun a b wx=>w=wx∧∃(p s:Nat) (A' B':Option Addr) (C F:Nat),a= .slice A' (nl p) C∧b= .slice B' (nl s) F∧nl s<=nl p∧nl p+nl s<N+1∧nl p+nl s<=17592186044416∧Hid (p*s=x*y)∧
  NatAt w (.slice A' (nl p) C) p∧NatAt w (.slice B' (nl s) F) s∧(∀v,From w [.slice A' (nl p) C,.slice B' (nl s) F] v->From w [.slice A (nl x) c,.slice B (nl y) d] v))
 case first=>
  by_cases ag:nl x<nl y
  ·go_wp2;go_meet
   case rel=>exact⟨rfl,y,x,B,A,d,c,rfl,rfl,by omega,by omega,by omega,dN _ _,⟨B,d,rfl,O,a9,a6⟩,⟨A,c,rfl,hc,a8,a5⟩,fun v h=>h.swap⟩
  ·go_wp2;go_meet
   case rel=>exact⟨rfl,x,y,A,B,c,d,rfl,rfl,by omega,by omega,by omega,rfl,⟨A,c,rfl,hc,a8,a5⟩,⟨B,d,rfl,O,a9,a6⟩,fun v h=>h⟩
 case rest=>
  obtain⟨rfl,p,s,A',B',C,F,rfl,rfl,d7,eo,ep,X,hp,hs,ca⟩:=hcut;obtain⟨_,_,I,b0,aj,ah⟩:=hp;injection I with I _ e3;subst I e3;obtain⟨_,_,I,dn,a7,cl⟩:=hs;injection I with I _ e3;subst I e3;have bm:=aB ca;clear ca;clear a8 a9 a5 a6 hc O hN cg;rcases iB (nl s) with T|T
  ·have hq:((nl s:Int)==0)=true:=by simp;omega
   have H0:=aB (p9 T);clear T;go_wp2;go_ret;refine⟨_,rfl,?_,From.none,aG _ _⟩;rw[<-X.out,H0.out,azP];exact NatAt.nil _
  ·have hq:((nl s:Int)==0)=false:=by simp;omega
   obtain⟨bs,os,rfl,aq,ax⟩:=a7.at_ (by rw[aK];omega);obtain⟨bp,op,rfl,ae,b5⟩:=aj.at_ (by rw[aK];omega);have af:=ax 0 (by rw[aK];omega);rw[gQ] at af;by_cases L:nl s=1∧(dg s).getD 0 0=1
   ·have Q:((nl s:Int)==1)=true:=by simp;omega
    have H1:Hid (s=1):=by
     have e:=cU s;have hl:(dg s).length=1:=L.1;match O:dg s,hl with
     |[a],_=>
      rw[O,vY] at e;have:a=1:=by have:=L.2;rw[O] at this;exact this
      unfold Hid;omega
    rw[L.2] at af;clear L;go_wp2;go_ret;refine⟨_,rfl,?_,bm.out _ (From.mem (by simp)),aG _ _⟩;rw[<-X.out,H1.out,az9];exact⟨_,_,rfl,b0,aj,ah⟩
   ·generalize br:(dg s).getD 0 0=a0 at *;have HA:=aB br;clear br;have Q:((nl s:Int)==1)=false∨((nl s:Int)==1)=true∧(a0==1)=false:=by
     by_cases e:nl s=1
     ·right;simp[e];intro h;exact L ⟨e,h⟩
     ·left;simp;omega
    clear L;have er:nl p≠0:=by omega
    by_cases ee:nl s<40
    ·go_upto_region 6 with (fail);go_cut [32] (fun t wx=>t= .bool false∧w=wx)
     case first=>
      rcases Q with Q|⟨Q,d3⟩
      ·go_wp2;go_meet
       case rel=>exact⟨rfl,rfl⟩
      ·go_wp2;go_meet
       case rel=>exact⟨rfl,rfl⟩
     case rest=>
      obtain⟨rfl,rfl⟩:=hcut;clear Q af;obtain⟨n,d0,d1,bo⟩:∃n,nl p+nl s<=n∧n<=nl p+nl s∧Hid (nl p+nl s=n):=⟨_,aE,aE,rfl⟩;go_wp2_with (at_make;refine kG rfl rfl .u64 143 8 underlying75 gZ n rfl rfl (by omega) (by omega) (by omega) (by omega) ?_;intro H d9 d5 ar D)
      go_loopw [55] (fun i wr=>∃(k:Nat) (zs:List Int),k<=nl s∧i= .int .i64 k∧Hid (zs.length=n)∧InR aA zs∧Hid (aF aA zs=p*aF aA ((dg s).take k))∧Hid (∀j,k+nl p<=j->zs.getD j 0=0)∧
        Cells .u64 wr w.1.size 0 zs∧Soft wr w.1.size∧Below w.1.size w wr∧w.1.size<wr.1.size) (fun i _=>nl s-(intOf i).toNat)
      case atStart=>exact⟨0,_,dC _,rfl,by simp[Hid],InR.replicate aQ _,by simp[Hid,mL],fun j _=>by simp[j6];split<;>rfl,ar,d5,D,d9⟩
      case round=>
       obtain⟨k,zs,hk,rfl,al,hz,ab,cy,W,bb,V,ag⟩:=hrel;by_cases em:k<nl s
       ·have eg:=(ax.be V aq) k (by rw[aK];omega);have E:=(cI s).getD aQ k;have cr:=jV aA (dg s) k (by rw[aK];omega);generalize cw:(dg s).getD k 0=g at *;have ed:=aB cw;have c9:=aB cr;clear cw cr;have bg:=al.out;have cp:((zs.drop k).take (nl p)).length=nl p:=by rw[bK,gG];omega
        have dl:Cells .u64 wr w.1.size k ((zs.drop k).take (nl p)):=by have:=(W.drop k).take (nl p);rwa [bA] at this
        have c6:=aB cp;clear cp;have aw:=W (k+nl p) (by omega);rw[bA] at aw;have HZ:=aB aw;clear bg aw;go_wp2_with fail;refine(G0 w.1.size k ((zs.drop k).take (nl p)) (n-k) (some ⟨bp,op,none⟩) (dg p) C (nl p) g wr c6.out rfl dl bb (by omega) (Rd.mk (aZ ae V.size) (b5.be V ae)) (AH (ah.ne (c:=C) aE)) ((hz.drop k).take _) (cI p) E).mono ?_;rintro e J ⟨ts,c2,rfl,dj,dk,ak,ht,Z,au,G⟩;have c8:=aB ak;have da:=aB Z;clear ak Z;have eh:J.cell? ⟨w.1.size,k+nl p,none⟩=some (.int .u64 (zs.getD (k+nl p) 0)):=(G.rest _ (.inr aE)).trans HZ.out;have ei:=(G.soft bb).free (k+nl p);go_wp2;go_roundw
        case rel=>
         have bg:=al.out;have cq:=c8.out;have cm:=RB (zs:=zs) (ts:=ts) (k:=k) (by omega);have b6:=(G.patch W cq au (by omega)).set (i:=k+nl p) (by omega) c2;rw[bA] at b6;refine⟨k+1,(patch zs ts k).set (k+nl p) c2,by omega,by go_num,?_,(qL hz ht k).set dj dk _,?_,?_,b6,(G.soft bb).set _ _,?_,?_⟩
         ·unfold Hid;rw[eM];omega
         ·unfold Hid;have h9:=da.out;rw[cU] at h9;rw[PT bg (by omega) cq h9 (cy.out _ aE),ab.out,c9.out];grind
         ·intro j hj;rw[n8 _ _ _ _ (by omega),AR (by omega) (by omega)];exact cy.out j (by omega)
         ·exact(G.belowOf V aE).setCell aE _
         ·rw[nU];have:=G.grown.size;omega
        case measure=>simp[intOf];omega
       ·obtain rfl:k=nl s:=by omega
        go_wp2_with fail;refine(gC _ zs n n wr al.out (Rd.mk ag W) aE (by omega)).mono ?_;rintro e w4 ⟨rfl,rfl⟩;go_wp2;go_ret;refine⟨_,rfl,NatAt.trim (Rd.mk ag W) hz ?_ (by rw[al.out];exact aE) (Old.mk ag),From.new aE,V⟩;rw[ab.out,cZ (by rw[aK];exact aE),cU,<-X.out,az8]
    ·have d3:((nl s:Int)==1)=false:=by simp;omega
     clear Q af;obtain⟨f,ej,ek,el⟩:∃f:Nat,nl p<=2*f∧2*f<=nl p+1∧((nl p:Int)+1)/2=(f:Int):=⟨(nl p+1)/2,by omega,by omega,by omega⟩;by_cases en:nl s<=f
     ·go_wp2_with fail;refine(QH p s _ _ w ⟨_,_,rfl,b0,aj,ah⟩ ⟨_,_,rfl,dn,a7,cl⟩ T (by unfold aJ;omega) d7 (ih.mono (by omega))).mono ?_;rintro e H ⟨v1,rfl,d8,ay,D⟩;go_wp2;go_ret;exact⟨_,rfl,by rw[<-X.out];exact d8,bm.out _ ay,D⟩
     ·have cd:((dg p).take f).length=f:=by rw[bK,aK];omega
      have ce:((dg s).take f).length=f:=by rw[bK,aK];omega
      have R:Rd .u64 w (some ⟨bp,op,none⟩) ((dg p).take f):=aj.take f;have S:Rd .u64 w (some ⟨bs,os,none⟩) ((dg s).take f):=a7.take f;have bh:NatAt w (.slice (some ⟨bp,op,none⟩) (trimL ((dg p).take f)).length C) (p%BN^f):=NatAt.trim R ((cI p).take _) (qJ p f) (by omega) ah;have bi:NatAt w (.slice (some ⟨bs,os,none⟩) (trimL ((dg s).take f)).length F) (s%BN^f):=NatAt.trim S ((cI s).take _) (qJ s f) (by omega) cl
      have cz:NatAt w (.slice (some ⟨bp,op+f,none⟩) (nl p-f) (C-f)) (p/BN^f):=
       ⟨_,_,by rw[S4],by rw[S4];omega,by rw[<-rM];exact Rd.mk ae (b5.drop f),Old.mk ae⟩
      have c0:NatAt w (.slice (some ⟨bs,os+f,none⟩) (nl s-f) (F-f)) (s/BN^f):=
       ⟨_,_,by rw[S4],by rw[S4];omega,by rw[<-rM];exact Rd.mk aq (ax.drop f),Old.mk aq⟩
      have et:=qK p f;have ev:=qK s f;have eu:nl (p/BN^f)<=nl p-f:=by rw[S4];exact aE
      have ew:nl (s/BN^f)<=nl s-f:=by rw[S4];exact aE
      have cc:=PS p s (BN^f) (eQ (by decide));generalize p%BN^f=l at *;generalize p/BN^f=r at *;generalize s%BN^f=g at *;generalize s/BN^f=u at *;have c4:=aB cd;have c5:=aB ce;have HK:=aB cc;clear cd ce cc;generalize (dg p).take f=us at *;generalize (dg s).take f=vs at *;have i1:¬C=f:=by omega
      have i2:¬F=f:=by omega
      have i3:f<=nl p:=by omega
      have i4:f<=nl s:=by omega
      have i5:f<=C:=by omega
      have i6:f<=F:=by omega
      go_wp2;go_quiet ((go_at_call 114;exact vX (gC _ us f C _ c4.out (R.drewN _) i5 (by omega))));go_wp2;go_quiet ((go_at_call 114;exact FP (gC _ vs f F _ c5.out (S.drewN _) i6 (by omega))));go_wp2_with fail;refine(ih l g _ _ _ (by omega) (by unfold aJ;omega) (bh.drewN _) (bi.drewN _)).mono ?_;rintro e H ⟨v1,rfl,⟨A1,c1,rfl,ar,R,d2⟩,ay,bt⟩;have D:Below w.1.size w H:=(kI (aG _ _) _).trans bt;clear bt ay;have cj:=bh.be D;have a2:=cz.be D;have ck:=bi.be D;have a3:=c0.be D;have ci:NatAt H (.slice A1 (nl (l*g)) c1) (l*g):=⟨_,_,rfl,ar,R,d2⟩;clear bh cz bi c0;go_wp2_with fail;refine(ih r u _ _ _ (by omega) (by unfold aJ;omega) a2 a3).mono ?_;rintro e J ⟨v2,rfl,⟨A2,c2,rfl,au,S,G⟩,dp,E⟩;clear dp;have cb:NatAt J (.slice A2 (nl (r*u)) c2) (r*u):=⟨_,_,rfl,au,S,G⟩;go_wp2_with fail;refine(rP l r _ _ _ (cj.be E) (a2.be E) (by omega) (by omega)).mono ?_;rintro e w3 ⟨v3,rfl,cs,dq,M⟩;clear dq;go_wp2_with fail;refine(rP g u _ _ _ ((ck.be E).be M) ((a3.be E).be M) (by omega) (by omega)).mono ?_;rintro e w4 ⟨v4,rfl,ct,dr,ac⟩;clear dr;have ea:=rK l r;have eb:=rK g u;go_wp2_with fail;refine(ih (l+r) (g+u) _ _ _ (by omega) (by unfold aJ;omega) (cs.be ac) ct).mono ?_;rintro e w5 ⟨v5,rfl,cu,ds,bw⟩;clear ds;have lm:=fI (l+r) (g+u);have U:Below J.1.size J w5:=(aC M ac).trans (bw.mono (aH M.size ac.size));have bv:Below H.1.size H w5:=aC E U;clear cs ct cj a2 ck a3;go_wp2_with fail;refine(qM ((l+r)*(g+u)) (l*g) _ _ _ cu (ci.be bv) (by omega) HK.out.2.1).mono ?_;rintro e w6 ⟨v6,rfl,cv,dt,ad⟩;clear dt;have ec:=cK (bxR ((l+r)*(g+u)) (l*g));go_wp2_with fail;refine(qM ((l+r)*(g+u)-l*g) (r*u) _ _ _ cv ((cb.be U).be ad) (by omega) HK.out.2.2).mono ?_;rintro e q ⟨v7,rfl,⟨A7,c7,rfl,ef,cn,eq⟩,du,bz⟩;clear du;have bx:Below w5.1.size w5 q:=aC ad bz;have ao:Below J.1.size J q:=aC U bx;have an:Below H.1.size H q:=aC E ao;have am:Below w.1.size w q:=aC D an;have d4:=R.be an;have co:=S.be ao;clear cu cv E M ac bw ad bz U bv bx ao an D R S ci cb ea eb lm ec;have ll:=fI l g;have lh:=fI r u;have b8:=HK.out.1;generalize dx:(l+r)*(g+u)-l*g-r*u=m at *;clear dx;generalize l*g=lo at *;generalize r*u=hi at *;have c3:=aB b8;clear b8 HK;obtain⟨n,d0,d1,bo⟩:∃n,nl p+nl s<=n∧n<=nl p+nl s∧Hid (nl p+nl s=n):=⟨_,aE,aE,rfl⟩;have j1:¬n=2*f:=by omega
      have j2:¬n=f:=by omega
      have j3:2*f<=n:=by omega
      have j4:f<=n:=by omega
      go_wp2_with (first
       |(at_make;refine kG rfl rfl .u64 143 8 underlying75 gZ n rfl rfl (by omega) (by omega) (by omega) (by omega) ?_;intro w8 es ba di ap)
       |(with_reducible refine mK rfl (d:= .tmp 125) (s:= .tmp 126) rfl .u64 143 underlying75 V5 rfl rfl q.1.size 0 (List.replicate n 0) (dg lo) (by simp) rfl (fun _=>rfl) di ba (d4.be ap) ?_;intro w9 av P;generalize cx:cV (List.replicate n 0) (dg lo)=K at av;have bq:=aB cx;clear cx;have b4:Cells .u64 w9 q.1.size (2*f) (K.drop (2*f)):=(by have:=av.drop (2*f);rwa [bA] at this))
       |(with_reducible refine mK rfl (d:= .tmp 131) (s:= .tmp 132) rfl .u64 143 underlying75 V5 rfl rfl q.1.size (2*f) (K.drop (2*f)) (dg hi) (by rw[<-bq.out,gG,lN,dB]) rfl (fun _=>rfl) b4 (P.soft ba) (P.rd (co.be ap) (fun b o e h=>(co.lt_of e h))) ?_;intro bj b1 Y))
      have b9:=PU (lo:=lo) (hi:=hi) (h:=f) (n:=n) (by omega) j3 (by omega);rw[bq.out] at b9;obtain⟨f1,f2,f3,f4,f5⟩:=b9;have b7:(K.drop (2*f)).length=n-2*f:=by rw[gG,f4]
      rw[b7] at Y;rw[dB] at P;have b2:=Y.patch av f1 b1 (by omega);have cm:=RB (zs:=K) (ts:=cV (K.drop (2*f)) (dg hi)) (k:=2*f) (by omega);have ai:=qL f3 f2 (2*f);generalize patch K (cV (K.drop (2*f)) (dg hi)) (2*f)=zs at *;clear f1 f2 b1 b7 b4;have de:Below q.1.size q w9:=P.belowOf ap aE;have bu:Below q.1.size q bj:=Y.belowOf de aE;have d6:=Y.soft (P.soft ba);have bf:aF aA zs+aA^f*(m:Int)=((p*s:Nat):Int):=by
       rw[f5,c3.out];simp only[Int.natCast_add,az8,bx9];rw[show((BN:Nat):Int)=aA from rfl,show(2*f)=f+f by omega,aqS];grind
      have ak:((p*s:Nat):Int)<aA^n:=by
       rw[<-bo.out,<-iX,KF];have h2:=byV (cyD p) (cyD s);omega
      have dv:=FZ (z:=0) zs ai (by omega) (by omega) bf ak;have dy:nl m<=n-f:=by
       refine cJ ?_;have T:=y9 aQ (ai.drop f);have:(m:Int)<((BN^(n-f):Nat):Int):=by rw[iX];omega
       omega
      have dm:Cells .u64 bj q.1.size f (zs.drop f):=by have:=b2.drop f;rwa [bA] at this
      have a1:zs.length=n:=by omega
      refine(eq9 q.1.size f (n-f) (zs.drop f) (n-f) A7 (nl m) (dg m) c7 bj (by rw[gG,a1]) rfl dm d6 aE (by omega) (cn.be bu) (fun b o e h=>cn.lt_of e h) dy (ai.drop f) (cI m) (by rw[cU];exact dv)).mono ?_;rintro e bk ⟨rfl,ts,bc,ht,Z,dh,a4⟩;have b3:=a4.patch b2 bc dh (by omega);have ab:aF aA (patch zs ts f)=((p*s:Nat):Int):=by
       rw[rN (by omega),Z,bc,cZ (by rw[gG];omega),cU,<-bf];grind
      have ch:(patch zs ts f).length=n:=by rw[RB (by omega),a1]
      have dw:=qL ai ht f;generalize patch zs ts f=dc at *;have az:q.1.size<bk.1.size:=by have:=a4.grown.size;have:=Y.grown.size;have:=P.grown.size;omega
      have df:Below q.1.size q bk:=a4.belowOf bu aE;have db:=aB ab;have bn:=aB ch;clear ab ch Z bc bf a1 cm f5 f4;go_wp2_with fail;refine(gC _ dc n n bk bn.out (Rd.mk az b3) aE (by omega)).mono ?_;rintro e ex ⟨rfl,rfl⟩;go_wp2;go_ret;exact⟨_,rfl,NatAt.trim (Rd.mk az b3) dw (by rw[db.out,X.out]) (by rw[bn.out];exact aE) (Old.mk az),From.new am.size,aC am df⟩
def fqC(N:Nat):MulOK N:=by
 induction N with
 |zero=>intro x y b c w h;omega
 |succ N a=>exact QD N a
def qN(x y:Nat)(a b:Value)(w:World)(d:NatAt w a x)(e:NatAt w b y)(c:nl x+nl y<=aJ):
  Calls prog 69 #[a,b] w (jK w [a,b] (x*y)):=fqC _ x y a b w (aqC _) c d e
def nB(x:Int):IntKind.u64.wrap x=g8 x:=by
 unfold g8;simp[IntKind.wrap,IntKind.bits,IntKind.signed]
def I8(h:sh<=64):(2:Int)^sh*2^(64-sh)=aA:=by
 rw[<-aqS,show sh+(64-sh)=64 by omega];rfl
def fN(n:Nat):(0:Int)<2^n:=aqH (by decide)
def G4(a:Int)(h:sh<=64):a/2^(64-sh)=gY (a*2^sh):=by
 unfold gY;have e:=I8 h;have b:=fN sh;have c:=fN (64-sh);rw[show(18446744073709551616:Int)=2^(64-sh)*2^sh by rw[fD,e];rfl];rw[Int.mul_ediv_mul_of_pos_left _ _ b]
def AU(b:0<=a)(c:a<aA)(sh:Nat):0<=gY (a*2^sh)∧gY (a*2^sh)<2^sh:=
 sS (gB b (fP (fN sh))) (bzM c (fN sh))
def GC(a:Int)(h:sh<=64):∃q,g8 (a*2^sh)=2^sh*q:=by
 have e:=AO (a*2^sh);have b:=I8 h;refine⟨a-2^(64-sh)*gY (a*2^sh),?_⟩;rw[Int.mul_sub,<-Int.mul_assoc,b];rw[fD (2^sh) a];omega
def AV{y:Int}(h:sh<=64)(b:0<=z)(k:z<2^sh)(j:0<=y)(i:y<aA)(d:∃q,y=2^sh*q):bits .or .u64 z y=z+y:=by
 have f:(2:Int)^sh<=aA:=by
  have e:=I8 h;have n:=fN (64-sh);have m:=fN sh;have:(2:Int)^sh*1<=2^sh*2^(64-sh):=gK (by omega) (by omega);omega
 rw[u64_or z y b (by unfold aA at f;omega) j (by unfold aA at i;omega)];obtain⟨q,rfl⟩:=d;have g:0<=q:=by
  rcases azO q 0 with a|a
  ·have:=Int.mul_neg_of_pos_of_neg (fN sh) a;omega
  ·exact a
 obtain⟨q,rfl⟩:=j7 g;obtain⟨z,rfl⟩:=j7 b;have c:((2:Int)^sh*(q:Int))=((2^sh*q:Nat):Int):=by simp
 rw[c,j9,j9,<-Int.natCast_add];congr 1;have l:z<2^sh:=by
  have:(z:Int)<((2^sh:Nat):Int):=by simpa using k
  omega
 rw[Nat.or_comm,<-Nat.two_pow_add_eq_or_of_lt l q];omega
def sY:BN=2^64:=rfl
def sZ(sk sh:Nat):(2:Nat)^(64*sk+sh)=BN^sk*2^sh:=by rw[KF,azL,sY]
def AW(b:Int)(h:sh<=64):g8 (b*2^(64-sh))=b%2^sh*2^(64-sh):=by
 have e:=I8 h;have f:=fN sh;have g:=fN (64-sh);have a:=aqR b (2^sh);have i:=aqG b (show(2:Int)^sh≠0 by omega);have j:=aqF b f;refine Split.lo (c:=b/2^sh) ⟨?_,gB i (by omega),?_⟩
 ·rw[<-e];generalize b%2^sh=r at *;generalize b/2^sh=d at *;rw[<-a];grind
 ·rw[<-e];exact bzM j g
def QB{zs us:List Int}{k:Nat}(h:sh<=64)(g:k<us.length)(i:k<zs.length)(c:zs.getD k 0=0)
  (f:z=us.getD k 0/2^sh+us.getD (k+1) 0%2^sh*2^(64-sh))
  (hv:2^sh*aF aA zs+r0=aF aA (us.take k)+us.getD k 0%2^sh*aA^k):
  2^sh*aF aA (zs.set k z)+r0=aF aA (us.take (k+1))+us.getD (k+1) 0%2^sh*aA^(k+1):=by
 rw[nY _ _ _ _ i,c,jV _ _ _ g,f,gR];have e:=I8 h;have a:=aqR (us.getD k 0) (2^sh);generalize us.getD k 0=u at *;generalize us.getD (k+1) 0%2^sh=r at *;generalize u%2^sh=t at *;generalize u/2^sh=d at *;generalize (2:Int)^(64-sh)=q at *;generalize (2:Int)^sh=p at *;generalize aA^k=m at *;generalize aF aA zs=s at *;generalize aF aA (us.take k)=u0 at *;generalize aA=b at *;subst e a;grind
def QC{zv:Int}(h:2^sh*zv+r0=a)(b:0<=r0)(c:r0<2^sh):zv=a/2^sh:=by
 rw[<-h,bxI,Int.add_mul_ediv_left _ _ (by have:=fN sh;omega),byG b c,bxA]
structure Glob(w:World):Prop where
 tz:TabAt 1 Lib.deBruijn64tab w
 pow:Lib.TabIs prog w "internal/strconv.uint64pow10" .u64 Lib.pow10Tab
def Glob.be{w w':World}(h:Glob w)(a:Below w.1.size w w'):Glob w':=
 ⟨fun j b=>(a.cell (p:=⟨1,j,none⟩) (block_lt_of_cell (h.tz j b))).trans (h.tz j b),Lib.tabBelow_of_tabIs h.pow w' a⟩
def vS(x k:Nat)(d:x≠0)(c:x<BN)(b:k=Lib.ctz 64 x)(w:World)(a:Glob w):
  Calls prog 194 #[.int .u64 x] w fun e w'=>e= .returned (.int .i64 k)∧w=w':=by
 subst b;exact(Any7.bits_TrailingZeros64 Tryz.lays7n29 x c w (fun _=>a.tz)).mono fun e w' h=>⟨h.1,h.2.symm⟩
def AF(a b:Nat)(c:a<BN)(d:b<BN):bits .or .u64 (a:Int) (b:Int)=((a ||| b:Nat):Int):=by
 have e:(BitVec.ofInt 64 (a:Int)).toNat=a:=by
  rw[BitVec.ofInt_natCast,BitVec.toNat_ofNat];exact jJ c
 have f:(BitVec.ofInt 64 (b:Int)).toNat=b:=by
  rw[BitVec.ofInt_natCast,BitVec.toNat_ofNat];exact jJ d
 have g:a ||| b<2^64:=Nat.or_lt_two_pow c d;show IntKind.u64.wrap ((BitVec.ofInt 64 (a:Int) ||| BitVec.ofInt 64 (b:Int)).toNat:Int)=_
 rw[BitVec.toNat_or,e,f,IntKind.wrap_u64];omega
def FK(x y:Nat)(l:x<BN)(c:y<BN)(w:World)(v:Glob w):
  Calls prog 166 #[.int .u64 x,.int .u64 y] w fun e w'=>e= .returned (.int .u64 (Nat.gcd x y:Nat))∧w=w':=by
 by_cases F:x=0
 ·subst F;have e:=AF 0 y (by decide) c;rw[Nat.zero_or] at e;simp only[Int.natCast_zero] at e;have Q:(((0:Nat):Int)==0)=true:=rfl;go_enter func166,ntmps166;go_wp2;go_ret;exact⟨by rw[Nat.gcd_zero_left];rfl,rfl⟩
 ·by_cases f:y=0
  ·subst f;have Q:((x:Int)==0)=false:=by simp;omega
   have e:=AF x 0 l (by decide);rw[Nat.or_zero] at e;simp only[Int.natCast_zero] at e;go_enter func166,ntmps166;go_wp2;go_ret;exact⟨by rw[bxN];rfl,rfl⟩
  ·have Q:((x:Int)==0)=false:=by simp;omega
   have R:((y:Int)==0)=false:=by simp;omega
   have V:=AF x y l c;have O:x ||| y<BN:=by show x ||| y<2^64;exact Nat.or_lt_two_pow l c
   have P:x ||| y≠0:=by
    intro h;have:x<=x ||| y:=Nat.left_le_or;omega
   obtain⟨s,E⟩:∃s,s=Lib.ctz 64 (x ||| y):=⟨_,rfl⟩;obtain⟨i,C⟩:∃i,i=Lib.ctz 64 x:=⟨_,rfl⟩;have u:=vU F l;have n:=vU f c;have z:=vU P O;rw[<-E] at z;rw[<-C] at u;have N:s=min i (Lib.ctz 64 y):=Tz.or u.1 n.1 z.1 rfl;obtain⟨m,d⟩:=u.1;have j:=Tz.gcd (i:=i) n.1 d (by omega);rw[<-N] at j;have M:(x:Int)/2^i=((2*m+1:Nat):Int):=by
    have:x/2^i=2*m+1:=by
     conv=>lhs;rw[d]
     exact Nat.mul_div_cancel_left _ (eQ (by decide))
    rw[<-this,azR];simp
   have B:2*m+1<=x:=by
    have:1*(2*m+1)<=2^i*(2*m+1):=dK _ (eQ (by decide));omega
   have t:(2*m+1)%2=1:=by omega
   generalize 2*m+1=a at *;have aj:=z.2;have ag:=u.2;have T:=aB E;have S:=aB C;have I:=aB j;have X:Nat.gcd x y<=x:=Nat.gcd_le_left _ (by omega);obtain⟨G,A⟩:∃G,Hid (G=Nat.gcd x y):=⟨_,rfl⟩;rw[<-A.out] at X;clear E C u n z N d j;go_enter func166,ntmps166;go_wp2_with fail;refine(vS (x ||| y) s P O T.out _ v).mono ?_;rintro e w' ⟨rfl,rfl⟩;go_wp2_with fail;refine(vS x i F l S.out _ v).mono ?_;rintro e w' ⟨rfl,rfl⟩;go_wp2_with fail;have L:a<BN:=by omega
   have o:Hid (2^s*Nat.gcd a y=G):=by unfold Hid;rw[A.out];exact I.out
   have g:=aB t;clear M V R t I;go_loop [0,1] (fun p q=>∃a y:Nat,p= .int .u64 a∧q= .int .u64 y∧a<BN∧y<BN∧Hid (a%2=1)∧Hid (2^s*Nat.gcd a y=G)) (fun p q=>(intOf p+intOf q).toNat)
   case atStart=>exact⟨a,y,rfl,rfl,L,c,g,o⟩
   case round=>
    clear B L o g;obtain⟨a,y,rfl,rfl,Y,c,g,o⟩:=hrel;by_cases f:y=0
    ·subst f;have ai:IntKind.u64.wrap ((a:Int)*2^s)=(G:Int):=by
      have r:=o.out;rw[bxN] at r;have W:((2^s*a:Nat):Int)=(G:Int):=by rw[r]
      have U:(a:Int)*2^s=(G:Int):=by rw[<-W];push_cast;rw[fD]
      rw[U,IntKind.wrap_u64];unfold BN at l;omega
     go_wp2;go_ret;exact⟨by rw[<-A.out];rfl,rfl⟩
    ·have R:((y:Int) != 0)=true:=by simp;omega
     obtain⟨k,D⟩:∃k,k=Lib.ctz 64 y:=⟨_,rfl⟩;have n:=vU f c;rw[<-D] at n;obtain⟨⟨m,d⟩,ah⟩:=n;have M:(y:Int)/2^k=((2*m+1:Nat):Int):=by
      have:y/2^k=2*m+1:=by
       conv=>lhs;rw[d]
       exact Nat.mul_div_cancel_left _ (eQ (by decide))
      rw[<-this,azR];simp
     have B:2*m+1<=y:=by
      have:1*(2*m+1)<=2^k*(2*m+1):=dK _ (eQ (by decide));omega
     have t:(2*m+1)%2=1:=by omega
     have j:2^s*Nat.gcd a (2*m+1)=G:=by
      have r:=o.out;rw[d,vT g.out] at r;exact r
     generalize 2*m+1=b at *;have K:=aB D;have H:=aB t;have J:=aB j;clear D d t j;have ab:1<=a:=by have:=g.out;omega
     have af:1<=b:=by have:=H.out;omega
     have Z:a<18446744073709551616:=Y;have ae:b<18446744073709551616:=jI B c;by_cases ac:b<a
     ·go_wp2_with fail;refine(vS y k f c K.out _ v).mono ?_;rintro e w' ⟨rfl,rfl⟩;go_wp2;go_round
      case rel=>
       refine⟨b,a-b,rfl,by go_num,by omega,by omega,H,?_⟩;unfold Hid;rw[Nat.gcd_sub_self_right (by omega),azD];exact J.out
      case measure=>simp[intOf];omega
     ·have ad:¬(b:Int)<a:=by omega
      go_wp2_with fail;refine(vS y k f c K.out _ v).mono ?_;rintro e w' ⟨rfl,rfl⟩;go_wp2;go_round
      case rel=>
       refine⟨a,b-a,rfl,by go_num,by omega,by omega,g,?_⟩;unfold Hid;rw[Nat.gcd_sub_self_right (by omega)];exact J.out
      case measure=>simp[intOf];omega
