/-
  Contracts, laws: RefE.
-/
import Derived.Test.YthfnenohhindpaaGreatDoorD40
set_option linter.all false
set_option maxHeartbeats 8000000
set_option maxRecDepth 100000
namespace Go.Proofs.YthfnenohhindpaaGreatDoor
open Go.RowKit Sos
def GP (w:World) (a b:List Rat) (B:Nat) (e:Ending) (w':World):Prop:=∃v u Q R,e= .returned (.tuple #[v,u])∧QsAt w' v Q∧QsAt w' u R∧DivQ a b Q R∧(∀q∈Q,RL B q)∧(∀q∈R,RL B q)∧Q.length<=a.length∧R.length<=a.length∧Below w.heap.size w w'
theorem GQ (a b:List Rat) (va vb:Value) (w:World) (ha:QsAt w va a) (ak:QsAt w vb b) (K:Nat) (ai:∀q∈a,RL K q) (ba:∀q∈b,RL K q) (h1:1<=K) (cg:a.length<=1024) (hn:1<=b.length) (hB:cf b (b.length-1)≠0) (D:Nat) (bt:K<=D) (hD:b.length<=a.length->2*iJ K (a.length-b.length+1)<=D) (hK:2*D+1<=549755813888):
  Calls Tryz.prog 124 #[va,vb] w (GP w a b D):=by
 obtain⟨A,ca,rfl,b1⟩:=ha.form;obtain⟨A',cb,rfl,b2⟩:=ak.form;go_enter Tryz.func124,Tryz.ntmps124;go_upto_if 20 with (at_builtin;refine uR rfl rfl rfl rfl ha (by omega) ?_;intro v1 w1 an ao H;obtain⟨Z,T,rfl,bf⟩:=an.form);by_cases hs:a.length<b.length
 ·have r0:(a.length:Int)<(b.length:Int):=by omega
  have HS:=aB hs;have bo:=fun W h=>qW a (.slice Z a.length T) W h (fun q c=>aG (ai q c).1 (by omega)) (by omega);clear hs ao;go_wp2_with fail;refine(bo _ an).mono ?_;rintro e2 w2 ⟨v2,rfl,E,B⟩;go_wp2_with fail;go_ret2;exact⟨_,_,[],_,rfl,QsAt.nil _,E,DivQ.short HS.out,(fun q c=>by cases c),(fun q c=>bU (ai q (oL c)) (by omega)),Nat.zero_le _,mK _ _,aC H B⟩
 ·have r0:¬(a.length:Int)<(b.length:Int):=by omega
  obtain⟨J,rfl,bh,S⟩:∃g,Z=some ⟨g,0,none⟩∧w.heap.size<=g∧OwnQ w1 g a:=by
   rcases ao with h|⟨g,bs,e,h1,E⟩
   ·simp only[Value.slice.injEq] at h;omega
   ·simp only[Value.slice.injEq] at e;exact⟨g,e.1,h1,E⟩
  obtain⟨N,hN⟩:∃N,a.length-b.length+1=N:=⟨_,rfl⟩;have b0:(a.length:Int)-(b.length:Int)+1=(N:Int):=by omega
  have a9:=hD (by omega);rw[hN] at a9;have bu:=yS K N;clear hD;have bx:(a.length:Int)-(b.length:Int)=(N:Int)-1:=by omega
  have bz:N+b.length=a.length+1:=by omega
  have aq:Hid (DivJ a b (List.replicate N 0) a N):=by rw[<-hN];exact DivJ.start a b (by omega)
  clear hs ao an hN;go_wp2_with (at_make;refine gJ rfl rfl 81 _ 4 64 Tryz.underlying71 pN rfl (by decide) N rfl rfl (by first|rfl|omega) (by first|rfl|omega) (by omega) (by omega) ?_;intro w2 bp a1 B);have Q0:=OwnQ.made a1;have co:J<w1.heap.size:=S.lt;have bg:w.heap.size<=w1.heap.size:=by omega
  replace S:=S.below B;replace H:=aC H B;generalize w1.heap.size=gq at *;clear a1 bp B r0;have P:Hid (∀j,RL K (cf b j)):=fun j=>jE ba (fU h1) j;go_loopg [9] N (fun k i wr=>∃(z:Int) (Q R:List Rat),Hid (z=(k:Int)-1)∧i= .int .i64 z∧k<=N∧Hid (Q.length=N)∧Hid (R.length=a.length)∧Hid (DivJ a b Q R k)∧Hid (∀q∈Q,RL D q)∧Hid (∀q∈R,RL (iJ K (N-k)) q)∧OwnQ wr gq Q∧OwnQ wr J R∧Below w.heap.size w wr)
  case atStart=>exact⟨(N:Int)-1,List.replicate N 0,a,rfl,rfl,aE,cN ..,rfl,aq,(fun q c=>bU (FM N q c) (by omega)),(by rw[Nat.sub_self];exact ai),Q0,S,H⟩
  case round=>
   clear Q0 S H aq;obtain⟨z,Q,R,HZ,rfl,hk,C,y,ag,ab,ah,s,o,n⟩:=hrel;generalize wr=O at *;cases gk with
   |zero=>
    have hz:z<0:=by have:=HZ.out;omega
    have cv:¬0<=z:=by omega
    have hQ:=s.nums N (by rw[C.out];exact aE);have hR:=o.nums T (by rw[y.out];exact bf);rw[C.out] at hQ;rw[y.out] at hR;have aj:∀q∈R,RL D q:=yR ah.out (by have:=r5 K (show N-0<=N by omega);omega);have a3:=fun W h=>qW Q (.slice (some ⟨gq,0,none⟩) N N) W h (fun q c=>aG (ab.out q c).1 (by omega)) (by rw[C.out];omega);have bn:=fun W h=>qW R (.slice (some ⟨J,0,none⟩) a.length T) W h (fun q c=>aG (aj q c).1 (by omega)) (by rw[y.out];omega);have a6:=aB aj;clear s o aj;go_wp2_with fail;refine(a3 _ hQ).mono ?_;rintro e2 w2 ⟨v2,rfl,E,B⟩;replace hR:=hR.below B;replace n:=aC n B;clear a3 hQ;go_wp2_with fail;refine(bn _ hR).mono ?_;rintro e3 w3 ⟨v3,rfl,h3,ax⟩;replace E:=E.below ax;go_wp2_with fail;go_ret2;exact⟨_,_,_,_,rfl,E,h3,ag.out.done hn,(fun q c=>ab.out q (oL c)),(fun q c=>a6.out q (oL c)),aG (mK _ _) (by rw[C.out];omega),aG (mK _ _) (by rw[y.out];exact aE),aC n ax⟩
   |succ k=>
    obtain rfl:z=(k:Int):=by have:=HZ.out;omega
    obtain⟨m,hm⟩:∃m,k+b.length-1=m:=⟨_,rfl⟩;obtain⟨l,hl⟩:∃l,b.length-1=l:=⟨_,rfl⟩;have b9:(0:Int)<=(k:Int):=by omega
    obtain⟨t,ht⟩:∃t,k+b.length=t:=⟨_,rfl⟩;have cp:(k:Int)+(b.length:Int)=(t:Int):=by omega
    have ck:(t:Int)-1=(m:Int):=by omega
    have cq:t<=1024:=by omega
    have cu:IntKind.i64.wrap (t:Int)=(t:Int):=IntWalk.i64_in _ ⟨by omega,by omega⟩;have cs:IntKind.i64.wrap (m:Int)=(m:Int):=IntWalk.i64_in _ ⟨by omega,by omega⟩;have ch:(b.length:Int)-1=(l:Int):=by omega
    have cr:IntKind.i64.wrap (l:Int)=(l:Int):=IntWalk.i64_in _ ⟨by omega,by omega⟩;have ci:(0:Int)<=(m:Int):=by omega
    have cd:(0:Int)<=(l:Int):=by omega
    have bk:m<a.length:=by omega
    have bj:l<b.length:=by omega
    have cj:(m:Int)<(a.length:Int):=by omega
    have ce:(l:Int)<(b.length:Int):=by omega
    obtain⟨f,hf⟩:∃f,f=cf R m/cf b l:=⟨_,rfl⟩;obtain⟨g,hg⟩:∃g:Nat->Rat,g=fun j=>cf R j-f*cf b (j-k):=⟨_,rfl⟩;have HG:Hid (∀j,g (k+j)=cf R (k+j)-f*cf b j):=fun j=>by rw[hg];simp only[Nat.add_sub_cancel_left]
    have ar:cf b l≠0:=by rw[<-hl];exact hB
    have r:=DivJ.step ag.out hB hn (by rw[C.out];omega) (by rw[y.out];omega) (f:=f) (by rw[hm,hl];exact hf);rw[<-hg] at r;have a8:=aB r;obtain⟨d,hd⟩:∃d,iJ K (N-(k+1))=d:=⟨_,rfl⟩;have b3:iJ K (N-k)=2*d+2*K+1:=by rw[<-hd,show N-k=(N-(k+1))+1 by omega];rfl
    have b4:=r5 K (show N-k<=N by omega);have ac:=ah.out;rw[hd] at ac;have bw:K<=d:=by rw[<-hd];exact yS K _
    have V:∀j,RL d (cf R j):=fun j=>jE ac (fU (by omega)) j;have af:RL (d+K) f:=by rw[hf];exact uA (V m) (P.out l)
    have a4:=aB V;have ap:=aB af
    have aw:=FL (l:=R) (g:=g) (i:=k) (k:=b.length) (K:=iJ K (N-k)) (yR ac (by omega)) (fun j=>by
     rw[hg];exact bU (FA (V j) (jD af (P.out (j-k)))) (by omega)) (by omega)
    have a7:=aB aw;have au:∀q∈Q.set k f,RL D q:=fun q c=>by
     rcases List.mem_or_eq_of_mem_set c with c|rfl
     ·exact ab.out q c
     ·exact bU af (by omega)
    have a5:=aB au;have ae:=fun W u v h U=>uV (cf R m) (cf b l) u v W h U D (bU (V m) (by omega)) (bU (P.out l) (by omega)) (by omega) ar;rw[<-hf] at ae;unfold fC at ae;obtain⟨s5,A5,k5,c5,s6,A6,k6,c6,X,ho⟩:=o.at_ (show R[m]? =some (cf R m) by have h:=bk;rw[<-y.out] at h;rw[aL h,<-eJ h]);obtain⟨bb,s3,A3,k3,c3,s4,A4,k4,c4,G,ay,g0,hi⟩:=(ak.below n).cell bj;have Y:=o.lt;clear hf hg r hd ac V af aw au ar hm hl ht ag ab ah;generalize cf R m=rm at *;generalize cf b l=bl at *;subst G;go_wp2_with fail;go_cut [10] (fun bq wx=>∃x,bq= .pointer (some ⟨x,0,none⟩)∧O.heap.size<=x∧QVar wx x f∧Below O.heap.size O wx)
    case first=>
     go_region_held3 (fun w'=>R4 w' J (m*4) (.bool s5) (.slice A5 k5 c5) (.bool s6) (.slice A6 k6 c6)∧R4 w' bb (l*4) (.bool s3) (.slice A3 k3 c3) (.bool s4) (.slice A4 k4 c4))
      (with_reducible exact⟨X.up Y,g0.up ay⟩)
      (first|(go_at_call 135;(with_reducible refine(ae _ _ _ ho.up hi.up).mono ?_);rintro e7 w7 ⟨v7,rfl,L,al⟩;obtain⟨s7,A7,k7,c7,s8,A8,k8,c8,rfl⟩:=L.form;have:=St.mk al;have TT:=Up.out (a:=O) (b:=w7);have ll:=TT.size;(try (have D7:=(Bx.newAt O zR 81 O.heap.size rfl).up (b:=w7);have br:=D7.g4))))
     all_goals (
      go_wp2_with fail;go_meet;refine⟨_,rfl,by omega,?_⟩
      first|(with_reducible exact GN L TT)|(with_reducible exact GO D7 L TT (by omega)))
    case rest=>
     clear X g0 ho hi ae;obtain⟨x,rfl,b5,F,ad⟩:=hcut;generalize wc=wy at *;have n1:x≠J:=by omega
     have n2:x≠gq:=by have:=s.lt;omega
     have b6:w.heap.size<=x:=by have:=n.size;omega
     replace s:=s.below ad;replace o:=o.below ad;replace n:=aC n ad;obtain⟨s9,A9,k9,c9,s0,A0,k0,c0,I,hF⟩:=F;have cF:=I.k4;have az:k<Q.length:=by rw[C.out];omega
     have cc:(k:Int)<(N:Int):=by omega
     obtain⟨s1,Z,k1,T,s2,A2,k2,c2,q0, -⟩:=s.at_ (aL az);have fq:=s.free;clear ad Y;go_wp2_with fail;obtain⟨zQ,r⟩:=s.stored az hF;have zR:=o.step r (by omega);rw[<-FK (l:=R) (g:=g) (i:=k)] at zR;have zF:QVar _ x f:=⟨_,_,_,_,_,_,_,_,(r.2.2.1 x n2).trans I,hF.keep r.1⟩;have zb:=fS n r.2 bg;clear r s o I hF cF q0 fq n;go_loopg [11] b.length (fun k' i wr=>∃j,Hid (j+k'=b.length)∧i= .int .i64 j∧OwnQ wr J (fH R g k j)∧OwnQ wr gq (Q.set k f)∧QVar wr x f∧Below w.heap.size w wr)
     case atStart=>exact⟨0,by unfold Hid;omega,rfl,zR,zQ,zF,zb⟩
     case round=>
      clear zR zQ zF zb;obtain⟨j,HJ,rfl,o,s,F,n⟩:=hrel;generalize wr=wx at *;have b7:(0:Int)<=(j:Int):=by omega
      cases gk with
      |zero=>
       have hj:j=b.length:=HJ.out;subst hj;go_wp2_with fail;go_roundg k
       case rel=>exact⟨(k:Int)-1,Q.set k f,fH R g k b.length,rfl,by first|rfl|go_num,by omega,by unfold Hid;rw[List.length_set];exact C.out,by unfold Hid;rw[lN];exact y.out,a8,a5,a7,s,o,n⟩
       case measure=>omega
      |succ k'=>
       have bi:j<b.length:=by have:=HJ.out;omega
       have b8:(j:Int)<(b.length:Int):=by omega
       obtain⟨p,hp⟩:∃p,k+j=p:=⟨_,rfl⟩;have cn:(k:Int)+(j:Int)=(p:Int):=by omega
       have bm:p<a.length:=by omega
       have cl:(0:Int)<=(p:Int):=by omega
       have cm:(p:Int)<(a.length:Int):=by omega
       have ct:IntKind.i64.wrap (p:Int)=(p:Int):=IntWalk.i64_in _ ⟨by omega,by omega⟩;obtain⟨bb,s3,A3,k3,c3,s4,A4,k4,c4,G,ay,g0,hi⟩:=(ak.below n).cell bi;obtain⟨r1,r2,r3⟩:=GM (l:=R) (g:=g) hp (by rw[y.out];exact bm);obtain⟨s5,A5,k5,c5,s6,A6,k6,c6,X,ho⟩:=o.at_ r1;obtain⟨s1,Z,k1,T,s2,A2,k2,c2,I,hF⟩:=F;have am:=HG.out j;rw[hp] at am;rw[am] at r3;have R3:=aB r3;have a0:=fun W u v h U=>rL f (cf b j) u v W h U D (bU ap.out (by omega)) (bU (P.out j) (by omega)) (by omega);have a2:=fun W u v h U=>zY (cf R p) (f*cf b j) u v W h U D (bU (a4.out p) (by omega)) (bU (jD ap.out (P.out j)) (by omega)) (by omega);unfold fC at a0 a2;have Y:=o.lt;have cw:=o.free;have cF:=I.k4;clear r1 r3 am hp;generalize cf R p-f*cf b j=nv at *;generalize f*cf b j=mv at *;generalize cf R p=av at *;generalize cf b j=bv at *;generalize fH R g k j=RW at *;injection G with G;injection G with G;subst G;go_wp2_with fail
       go_region_with (first
        |(go_at_call 94;(with_reducible refine(a0 _ _ _ hF.up hi.up).mono ?_);rintro e7 w7 ⟨v7,rfl,L,al⟩;obtain⟨s7,A7,k7,c7,s8,A8,k8,c8,rfl⟩:=L.form;have:=St.mk al;have o7:=X.up (b:=w7) Y)
        |(go_at_call 128;(with_reducible refine(a2 _ _ _ ho.up L.up).mono ?_);rintro e9 M ⟨v9,rfl,h9,bc⟩;obtain⟨s9,A9,k9,c9,s0,A0,k0,c0,rfl⟩:=h9.form;have:=St.mk bc;have o9:=X.up (b:=M) Y;have R9:=o.up (b:=M);have f9:=R9.free))
       all_goals (
        go_wp2_with fail;obtain⟨zR,r⟩:=R9.stored r2 h9;rw[R3.out] at zR;have zQ:=(s.up (b:=M)).step r (by omega);have zF:QVar _ x f:=QVar.step (⟨_,_,_,_,_,_,_,_,I.up (b:=M),hF.up⟩:QVar M x f) r n1;have zb:=fS (eG (b:=M) n) r.2 bh;go_roundg k'
        case rel=>exact⟨j+1,by have:=HJ.out;unfold Hid;omega,by go_num,zR,zQ,zF,zb⟩
        case measure=>omega)
theorem GR (a b:List Rat) (c d:Value) (w:World) (k:QsAt w c a) (l:QsAt w d b) (K:Nat) (i:∀q∈a,RL K q) (j:∀q∈b,RL K q) (e:1<=K) (m:a.length<=1024) (hn:1<=b.length) (f:cf b (b.length-1)≠0) (D:Nat) (n:2*iJ K a.length<=D) (g:2*D+1<=549755813888):
  Calls Tryz.prog 124 #[c,d] w (GP w a b D):=
 GQ a b c d w k l K i j e m hn f D (by have:=yS K a.length;omega) (fun h=>by have:=r5 K (show a.length-b.length+1<=a.length by omega);omega) g
