/- Laws. -/
import Derived.Test.YtfdaieaidpcdgaaGreatDoorU24
set_option linter.all false
set_option maxHeartbeats 8000000
set_option maxRecDepth 99999
namespace Go.Proofs.YtfdaieaidpcdgaaGreatDoor
open Go.RowKit Sos
def L1(w:World)(a b:List Rat)(B:Nat)(e:Ending)(w':World):Prop:=∃v u Q R,e= .returned (.tuple #[v,u])∧QsAt w' v Q∧QsAt w' u R∧DivQ a b Q R∧(∀q∈Q,RL B q)∧(∀q∈R,RL B q)∧Q.length<=a.length∧R.length<=a.length∧Below w.1.size w w'
def L2(a b:List Rat)(va vb:Value)(w:World)(ha:QsAt w va a)(al:QsAt w vb b)(K:Nat)(aj:∀q∈a,RL K q)(bc:∀q∈b,RL K q)(h1:1<=K)(ch:a.length<=1024)(hn:1<=b.length)(hB:cf b (b.length-1)≠0)(D:Nat)(bu:K<=D)(hD:b.length<=a.length->2*kM K (a.length-b.length+1)<=D)(hK:2*D+1<=549755813888):
  Calls Tryz.prog 113 #[va,vb] w (L1 w a b D):=by
 obtain⟨A,ca,rfl,b2⟩:=ha.form;obtain⟨A',cb,rfl,b3⟩:=al.form;go_enter Tryz.func113,Tryz.ntmps113;go_upto_if 20 with (at_builtin;refine yT rfl rfl rfl rfl ha (by omega) ?_;intro v1 w1 ao ap H;obtain⟨Z,T,rfl,bg⟩:=ao.form);by_cases hs:a.length<b.length
 ·have r0:(a.length:Int)<(b.length:Int):=by omega
  have HS:=aB hs;have bp:=fun W h=>tZ a (.slice Z a.length T) W h (fun q c=>aH (aj q c).1 (by omega)) (by omega);clear hs ap;go_wp2_with fail;refine(bp _ ao).mono ?_;rintro e2 w2 ⟨v2,rfl,E,B⟩;go_wp2;go_ret2;exact⟨_,_,[],_,rfl,QsAt.nil _,E,DivQ.short HS.out,(fun q c=>by cases c),(fun q c=>bU (aj q (rC c)) (by omega)),dC _,oY _ _,aC H B⟩
 ·have r0:¬(a.length:Int)<(b.length:Int):=by omega
  obtain⟨J,rfl,bi,S⟩:∃g,Z=some ⟨g,0,none⟩∧w.1.size<=g∧OwnQ w1 g a:=by
   rcases ap with h|⟨g,bt,e,h1,E⟩
   ·simp only[Value.slice.injEq] at h;omega
   ·simp only[Value.slice.injEq] at e;exact⟨g,e.1,h1,E⟩
  obtain⟨N,hN⟩:∃N,a.length-b.length+1=N:=⟨_,rfl⟩;have b1:(a.length:Int)-(b.length:Int)+1=(N:Int):=by omega
  have ba:=hD (by omega);rw[hN] at ba;have bw:=CX K N;clear hD;have bz:(a.length:Int)-(b.length:Int)=(N:Int)-1:=by omega
  have b0:N+b.length=a.length+1:=by omega
  have ar:Hid (DivJ a b (List.replicate N 0) a N):=by rw[<-hN];exact DivJ.start a b (by omega)
  clear hs ap ao hN;go_wp2_with (at_make;refine jT rfl rfl 108 _ 4 64 Tryz.underlying64 sJ rfl (by decide) N rfl rfl (by first|rfl|omega) (by first|rfl|omega) (by omega) (by omega) ?_;intro w2 bq a2 B);have Q0:=OwnQ.made a2;have cp:J<w1.1.size:=S.lt;have bh:w.1.size<=w1.1.size:=by omega
  replace S:=S.be B;replace H:=aC H B;generalize w1.1.size=gq at *;clear a2 bq B r0;have P:Hid (∀j,RL K (cf b j)):=fun j=>lV bc (iG h1) j;go_loopg [9] N (fun k i wr=>∃(z:Int) (Q R:List Rat),Hid (z=(k:Int)-1)∧i= .int .i64 z∧k<=N∧Hid (Q.length=N)∧Hid (R.length=a.length)∧Hid (DivJ a b Q R k)∧Hid (∀q∈Q,RL D q)∧Hid (∀q∈R,RL (kM K (N-k)) q)∧OwnQ wr gq Q∧OwnQ wr J R∧Below w.1.size w wr)
  case atStart=>exact⟨(N:Int)-1,List.replicate N 0,a,rfl,rfl,aE,dB ..,rfl,ar,(fun q c=>bU (JX N q c) (by omega)),(by rw[azV];exact aj),Q0,S,H⟩
  case round=>
   clear Q0 S H ar;obtain⟨z,Q,R,HZ,rfl,hk,C,y,ah,ac,ai,s,o,n⟩:=hrel;generalize wr=O at *;cases gk with
   |zero=>
    have hz:z<0:=by have:=HZ.out;omega
    have cw:¬0<=z:=by omega
    have hQ:=s.nums N (by rw[C.out];exact aE);have hR:=o.nums T (by rw[y.out];exact bg);rw[C.out] at hQ;rw[y.out] at hR;have ak:∀q∈R,RL D q:=CW ai.out (by have:=uF K (show N-0<=N by omega);omega);have a4:=fun W h=>tZ Q (.slice (some ⟨gq,0,none⟩) N N) W h (fun q c=>aH (ac.out q c).1 (by omega)) (by rw[C.out];omega);have bo:=fun W h=>tZ R (.slice (some ⟨J,0,none⟩) a.length T) W h (fun q c=>aH (ak q c).1 (by omega)) (by rw[y.out];omega);have a7:=aB ak;clear s o ak;go_wp2_with fail;refine(a4 _ hQ).mono ?_;rintro e2 w2 ⟨v2,rfl,E,B⟩;replace hR:=hR.be B;replace n:=aC n B;clear a4 hQ;go_wp2_with fail;refine(bo _ hR).mono ?_;rintro e3 w3 ⟨v3,rfl,h3,ay⟩;replace E:=E.be ay;go_wp2;go_ret2;exact⟨_,_,_,_,rfl,E,h3,ah.out.done hn,(fun q c=>ac.out q (rC c)),(fun q c=>a7.out q (rC c)),aH (oY _ _) (by rw[C.out];omega),aH (oY _ _) (by rw[y.out];exact aE),aC n ay⟩
   |succ k=>
    obtain rfl:z=(k:Int):=by have:=HZ.out;omega
    obtain⟨m,hm⟩:∃m,k+b.length-1=m:=⟨_,rfl⟩;obtain⟨l,hl⟩:∃l,b.length-1=l:=⟨_,rfl⟩;have cc:(0:Int)<=(k:Int):=by omega
    obtain⟨t,ht⟩:∃t,k+b.length=t:=⟨_,rfl⟩;have cq:(k:Int)+(b.length:Int)=(t:Int):=by omega
    have cl:(t:Int)-1=(m:Int):=by omega
    have cr:t<=1024:=by omega
    have cv:IntKind.i64.wrap (t:Int)=(t:Int):=IntWalk.i64_in _ ⟨by omega,by omega⟩;have ct:IntKind.i64.wrap (m:Int)=(m:Int):=IntWalk.i64_in _ ⟨by omega,by omega⟩;have ci:(b.length:Int)-1=(l:Int):=by omega
    have cs:IntKind.i64.wrap (l:Int)=(l:Int):=IntWalk.i64_in _ ⟨by omega,by omega⟩;have cj:(0:Int)<=(m:Int):=by omega
    have ce:(0:Int)<=(l:Int):=by omega
    have bm:m<a.length:=by omega
    have bk:l<b.length:=by omega
    have ck:(m:Int)<(a.length:Int):=by omega
    have cg:(l:Int)<(b.length:Int):=by omega
    obtain⟨f,hf⟩:∃f,f=cf R m/cf b l:=⟨_,rfl⟩;obtain⟨g,hg⟩:∃g:Nat->Rat,g=fun j=>cf R j-f*cf b (j-k):=⟨_,rfl⟩;have HG:Hid (∀j,g (k+j)=cf R (k+j)-f*cf b j):=fun j=>by rw[hg];simp only[bzC]
    have au:cf b l≠0:=by rw[<-hl];exact hB
    have r:=DivJ.step ah.out hB hn (by rw[C.out];omega) (by rw[y.out];omega) (f:=f) (by rw[hm,hl];exact hf);rw[<-hg] at r;have a9:=aB r;obtain⟨d,hd⟩:∃d,kM K (N-(k+1))=d:=⟨_,rfl⟩;have b4:kM K (N-k)=2*d+2*K+1:=by rw[<-hd,show N-k=(N-(k+1))+1 by omega];rfl
    have b5:=uF K (show N-k<=N by omega);have ad:=ai.out;rw[hd] at ad;have bx:K<=d:=by rw[<-hd];exact CX K _
    have V:∀j,RL d (cf R j):=fun j=>lV ad (iG (by omega)) j;have ag:RL (d+K) f:=by rw[hf];exact xS (V m) (P.out l)
    have a5:=aB V;have aq:=aB ag
    have ax:=JW (l:=R) (g:=g) (i:=k) (k:=b.length) (K:=kM K (N-k)) (CW ad (by omega)) (fun j=>by
     rw[hg];exact bU (JM (V j) (o6 ag (P.out (j-k)))) (by omega)) (by omega)
    have a8:=aB ax;have aw:∀q∈Q.set k f,RL D q:=fun q c=>by
     rcases bz8 c with c|rfl
     ·exact ac.out q c
     ·exact bU ag (by omega)
    have a6:=aB aw;have af:=fun W u v h U=>vD (cf R m) (cf b l) u v W h U D (bU (V m) (by omega)) (bU (P.out l) (by omega)) (by omega) au;rw[<-hf] at af;unfold eS at af;obtain⟨s5,A5,k5,c5,s6,A6,k6,c6,X,ho⟩:=o.at_ (show R[m]? =some (cf R m) by have h:=bm;rw[<-y.out] at h;rw[aR h,<-fZ h]);obtain⟨bb,s3,A3,k3,c3,s4,A4,k4,c4,G,az,g0,hi⟩:=(al.be n).cell bk;have Y:=o.lt;clear hf hg r hd ad V ag ax aw au hm hl ht ah ac ai;generalize cf R m=rm at *;generalize cf b l=bl at *;subst G;go_wp2_with fail;go_cut [10] (fun br wx=>∃x,br= .pointer (some ⟨x,0,none⟩)∧O.1.size<=x∧QVar wx x f∧Below O.1.size O wx)
    case first=>
     go_region_held3 (fun w'=>R4 w' J (m*4) (.bool s5) (.slice A5 k5 c5) (.bool s6) (.slice A6 k6 c6)∧R4 w' bb (l*4) (.bool s3) (.slice A3 k3 c3) (.bool s4) (.slice A4 k4 c4))
      (with_reducible exact⟨X.up Y,g0.up az⟩)
      (first|(go_at_call 80;refine(af _ _ _ ho.up hi.up).mono ?_;rintro e7 w7 ⟨v7,rfl,L,am⟩;obtain⟨s7,A7,k7,c7,s8,A8,k8,c8,rfl⟩:=L.form;have:=St.mk am;have TT:=Up.out (a:=O) (b:=w7);have ll:=TT.size;(try (have D7:=(Bx.newAt O zR 108 O.1.size rfl).up (b:=w7);have bs:=D7.g4))))
     all_goals (
      go_wp2;go_meet;refine⟨_,rfl,by omega,?_⟩
      first|(with_reducible exact KZ L TT)|(with_reducible exact L0 D7 L TT (by omega)))
    case rest=>
     clear X g0 ho hi af;obtain⟨x,rfl,b6,F,ae⟩:=hcut;generalize wc=wy at *;have n1:x≠J:=by omega
     have n2:x≠gq:=by have:=s.lt;omega
     have b7:w.1.size<=x:=by have:=n.size;omega
     replace s:=s.be ae;replace o:=o.be ae;replace n:=aC n ae;obtain⟨s9,A9,k9,c9,s0,A0,k0,c0,I,hF⟩:=F;have cF:=I.k4;have a0:k<Q.length:=by rw[C.out];omega
     have cd:(k:Int)<(N:Int):=by omega
     obtain⟨s1,Z,k1,T,s2,A2,k2,c2,q0, -⟩:=s.at_ (aR a0);have fq:=s.free;clear ae Y;go_wp2_with fail;obtain⟨zQ,r⟩:=s.stored a0 hF;have zR:=o.step r (by omega);rw[<-JV (l:=R) (g:=g) (i:=k)] at zR;have zF:QVar _ x f:=⟨_,_,_,_,_,_,_,_,(r.2.2.1 x n2).trans I,hF.ke r.1⟩;have zb:=jD n r.2 bh;clear r s o I hF cF q0 fq n;go_loopg [11] b.length (fun k' i wr=>∃j,Hid (j+k'=b.length)∧i= .int .i64 j∧OwnQ wr J (gN R g k j)∧OwnQ wr gq (Q.set k f)∧QVar wr x f∧Below w.1.size w wr)
     case atStart=>exact⟨0,by unfold Hid;omega,rfl,zR,zQ,zF,zb⟩
     case round=>
      clear zR zQ zF zb;obtain⟨j,HJ,rfl,o,s,F,n⟩:=hrel;generalize wr=wx at *;have b8:(0:Int)<=(j:Int):=by omega
      cases gk with
      |zero=>
       have hj:j=b.length:=HJ.out;subst hj;go_wp2;go_roundg k
       case rel=>exact⟨(k:Int)-1,Q.set k f,gN R g k b.length,rfl,by first|rfl|go_num,by omega,by unfold Hid;rw[eM];exact C.out,by unfold Hid;rw[o8];exact y.out,a9,a6,a8,s,o,n⟩
       case measure=>omega
      |succ k'=>
       have bj:j<b.length:=by have:=HJ.out;omega
       have b9:(j:Int)<(b.length:Int):=by omega
       obtain⟨p,hp⟩:∃p,k+j=p:=⟨_,rfl⟩;have co:(k:Int)+(j:Int)=(p:Int):=by omega
       have bn:p<a.length:=by omega
       have cm:(0:Int)<=(p:Int):=by omega
       have cn:(p:Int)<(a.length:Int):=by omega
       have cu:IntKind.i64.wrap (p:Int)=(p:Int):=IntWalk.i64_in _ ⟨by omega,by omega⟩;obtain⟨bb,s3,A3,k3,c3,s4,A4,k4,c4,G,az,g0,hi⟩:=(al.be n).cell bj;obtain⟨r1,r2,r3⟩:=KY (l:=R) (g:=g) hp (by rw[y.out];exact bn);obtain⟨s5,A5,k5,c5,s6,A6,k6,c6,X,ho⟩:=o.at_ r1;obtain⟨s1,Z,k1,T,s2,A2,k2,c2,I,hF⟩:=F;have an:=HG.out j;rw[hp] at an;rw[an] at r3;have R3:=aB r3;have a1:=fun W u v h U=>sL f (cf b j) u v W h U D (bU aq.out (by omega)) (bU (P.out j) (by omega)) (by omega);have a3:=fun W u v h U=>EC (cf R p) (f*cf b j) u v W h U D (bU (a5.out p) (by omega)) (bU (o6 aq.out (P.out j)) (by omega)) (by omega);unfold eS at a1 a3;have Y:=o.lt;have cx:=o.free;have cF:=I.k4;clear r1 r3 an hp;generalize cf R p-f*cf b j=nv at *;generalize f*cf b j=mv at *;generalize cf R p=av at *;generalize cf b j=bv at *;generalize gN R g k j=RW at *;injection G with G;injection G with G;subst G;go_wp2_with fail
       go_region_with (first
        |(go_at_call 83;refine(a1 _ _ _ hF.up hi.up).mono ?_;rintro e7 w7 ⟨v7,rfl,L,am⟩;obtain⟨s7,A7,k7,c7,s8,A8,k8,c8,rfl⟩:=L.form;have:=St.mk am;have o7:=X.up (b:=w7) Y)
        |(go_at_call 127;refine(a3 _ _ _ ho.up L.up).mono ?_;rintro e9 M ⟨v9,rfl,h9,bf⟩;obtain⟨s9,A9,k9,c9,s0,A0,k0,c0,rfl⟩:=h9.form;have:=St.mk bf;have o9:=X.up (b:=M) Y;have R9:=o.up (b:=M);have f9:=R9.free))
       all_goals (
        go_wp2_with fail;obtain⟨zR,r⟩:=R9.stored r2 h9;rw[R3.out] at zR;have zQ:=(s.up (b:=M)).step r (by omega);have zF:QVar _ x f:=QVar.step (⟨_,_,_,_,_,_,_,_,I.up (b:=M),hF.up⟩:QVar M x f) r n1;have zb:=jD (bJ (b:=M) n) r.2 bi;go_roundg k'
        case rel=>exact⟨j+1,by have:=HJ.out;unfold Hid;omega,by go_num,zR,zQ,zF,zb⟩
        case measure=>omega)
def L3(a b:List Rat)(c d:Value)(w:World)(k:QsAt w c a)(l:QsAt w d b)(K:Nat)(i:∀q∈a,RL K q)(j:∀q∈b,RL K q)(e:1<=K)(m:a.length<=1024)(hn:1<=b.length)(f:cf b (b.length-1)≠0)(D:Nat)(n:2*kM K a.length<=D)(g:2*D+1<=549755813888):
  Calls Tryz.prog 113 #[c,d] w (L1 w a b D):=
 L2 a b c d w k l K i j e m hn f D (by have:=CX K a.length;omega) (fun h=>by have:=uF K (show a.length-b.length+1<=a.length by omega);omega) g
