/- Laws. -/
import Derived.Test.YtmiaanioldpfgaaGreatDoorX25
set_option linter.all false
set_option maxHeartbeats 8000000
set_option maxRecDepth 99999
namespace Go.Proofs.YtmiaanioldpfgaaGreatDoor
open Go.RowKit Sos
variable{K k p:Nat}{Q xs ys:List Int}
def jP(Q:List Int)(k:Nat):Nat->Int:=fun j=>if j<k then cf Q j else 0
def kO(Q ys:List Int)(M k j:Nat):List Int:=(List.range M).map (fun p=>conv (jP Q (k+1)) (cf ys) p-(if k<=p∧p<k+j then cf Q k*cf ys (p-k) else 0))
def mA(Q:List Int)(N k:Nat):List Int:=(List.range N).map (fun j=>if k<=j then cf Q j else 0)
def uI(Q ys:List Int)(M k j:Nat):(kO Q ys M k j).length=M:=by unfold kO;rw[cH,bxZ]
def sE(Q:List Int)(N k:Nat):(mA Q N k).length=N:=by unfold mA;rw[cH,bxZ]
def uJ(Q ys:List Int)(M k j:Nat)(h:p<M):(kO Q ys M k j)[p]? =some (conv (jP Q (k+1)) (cf ys) p-(if k<=p∧p<k+j then cf Q k*cf ys (p-k) else 0)):=by
 unfold kO;rw[iK,byN h];rfl
def xY(Q:List Int)(N k:Nat)(h:p<N):(mA Q N k)[p]? =some (if k<=p then cf Q p else 0):=by
 unfold mA;rw[iK,byN h];rfl
def dq7(Q ys:List Int)(k p:Nat):conv (jP Q (k+1)) (cf ys) p=conv (jP Q k) (cf ys) p+(if k<=p then cf Q k*cf ys (p-k) else 0):=by
 rw[<-qE (cf Q k) k (cf ys) p,<-qD];refine gL (fun j=> ?_) (fun _=>rfl) p;unfold jP;by_cases a:j<k
 ·rw[if_pos (by omega),if_pos a,if_neg (by omega),byE]
 ·by_cases b:j=k
  ·rw[if_pos (by omega),if_neg a,if_pos b,b,bxA]
  ·rw[if_neg (by omega),if_neg a,if_neg b,byE]
def YA(Q ys:List Int)(M k:Nat):kO Q ys M (k+1) ys.length=kO Q ys M k 0:=by
 unfold kO;refine by3 (fun p _=> ?_);rw[dq7 Q ys (k+1) p];rw[if_neg (c:=k<=p∧p<k+0) (by omega),Int.sub_zero];by_cases h:k+1<=p
 ·by_cases a:p<k+1+ys.length
  ·rw[if_pos h,if_pos ⟨h,a⟩];omega
  ·rw[if_pos h,if_neg (by omega),bV (l:=ys) (i:=p-(k+1)) (by omega)];simp
 ·rw[if_neg h,if_neg (by omega)];omega
def YB(Q ys xs:List Int)(b:∀i,cf xs i=conv (cf Q) (cf ys) i)(c:Q.length<=k+1):kO Q ys xs.length k 0=xs:=by
 refine aq6 (fun p=> ?_);by_cases a:p<xs.length
 ·rw[uJ _ _ _ _ _ a,if_neg (by omega),Int.sub_zero,aR a,<-fZ a,b p];refine congrArg some (gL (fun j=> ?_) (fun _=>rfl) p);unfold jP;split
  ·rfl
  ·rw[bV (by omega)]
 ·rw[fU (by rw[uI];omega),fU (by omega)]
def YC(Q ys:List Int)(M k:Nat)(b:ys≠[]):conv (jP Q (k+1)) (cf ys) (ys.length-1+k)=cf Q k*cf ys (ys.length-1):=by
 have:=p5 (p:=jP Q (k+1)) (q:=cf ys) (m:=k) (n:=ys.length-1) (fun i a=>by unfold jP;rw[if_neg (by omega)]) (fun i a=>bV (by omega));rw[aq1 (ys.length-1) k,this];unfold jP;rw[if_pos (by omega)]
def YD(Q ys:List Int)(M k j:Nat)(c:k+j<M):(kO Q ys M k j).set (j+k) (conv (jP Q (k+1)) (cf ys) (k+j)-cf Q k*cf ys j)=kO Q ys M k (j+1):=by
 refine aq6 (fun p=> ?_);by_cases b:p<M
 ·rw[uJ _ _ _ _ _ b];by_cases h:p=j+k
  ·subst h;rw[gP (by rw[uI];omega),if_pos (by omega),show j+k-k=j by omega,aq1 j k]
  ·rw[lI (by omega),uJ _ _ _ _ _ b];by_cases a:k<=p∧p<k+j
   ·rw[if_pos a,if_pos (by omega)]
   ·rw[if_neg a,if_neg (by omega)]
 ·rw[fU (by rw[eM,uI];omega),fU (by rw[uI];omega)]
def YE(Q:List Int)(N k:Nat)(c:k<N):(mA Q N (k+1)).set k (cf Q k)=mA Q N k:=by
 refine aq6 (fun p=> ?_);by_cases b:p<N
 ·rw[xY _ _ _ b];by_cases h:p=k
  ·subst h;rw[gP (by rw[sE];omega),if_pos aE]
  ·rw[lI (by omega),xY _ _ _ b];by_cases a:k+1<=p
   ·rw[if_pos a,if_pos (by omega)]
   ·rw[if_neg a,if_neg (by omega)]
 ·rw[fU (by rw[eM,sE];omega),fU (by rw[sE];omega)]
def YF(Q:List Int)(N:Nat)(h:Q.length=N):mA Q N 0=Q:=by
 refine aq6 (fun p=> ?_);by_cases a:p<N
 ·rw[xY _ _ _ a,if_pos (dC _),aR (by omega),fZ (by omega)]
 ·rw[fU (by rw[sE];omega),fU (by omega)]
def YG(Q:List Int)(N:Nat):mA Q N N=List.replicate N 0:=by
 refine aq6 (fun p=> ?_);by_cases a:p<N
 ·rw[xY _ _ _ a,if_neg (by omega),j6,if_pos a]
 ·rw[fU (by rw[sE];omega),fU (by rw[dB];omega)]
def gzZ{f g:Nat->Int}{a b n:Nat}(c:∀i,nl (f i).natAbs<=a)(d:∀i,nl (g i).natAbs<=b)(hn:n<=1073741824):nl (conv f g n).natAbs<=a+b+1:=by
 refine cJ ?_;have e:(conv f g n).natAbs<=(n+1)*BN^(a+b):=by
  unfold conv
  refine V8 _ _ _ (fun k _=> ?_);rw[fL];exact wY (c k) (d _)
 have h:(n+1)*BN^(a+b)<BN*BN^(a+b):=bxF (by unfold BN;omega) (eQ (by decide));rw[dH,dN _ BN];omega
def YH(h:∀n∈Q,nl n.natAbs<=K)(k i:Nat):nl (jP Q k i).natAbs<=K:=by
 unfold jP;split
 ·exact iU h i
 ·rw[show(0:Int).natAbs=0 from rfl,dO];exact dC _
def K7(q:aN Q)(g:aN xs)(r:aN ys)(f:ys≠[])(c:∀i,cf xs i=conv (cf Q) (cf ys) i):(Q=[]->xs=[])∧(Q≠[]->xs.length+1=Q.length+ys.length):=by
 constructor
 ·intro h;refine oZ g (fun a j=>by simp at j) (fun i=> ?_);rw[c,h,lK (fun i=>eR i),eR]
 ·intro h;have k:=(Y5 h).1 q;have p:=(Y5 f).1 r;have u:0<Q.length:=List.length_pos_iff.2 h;have v:0<ys.length:=List.length_pos_iff.2 f;have l:cf xs (Q.length-1+(ys.length-1))≠0:=by
   rw[c,p5 (m:=Q.length-1) (n:=ys.length-1) (fun i b=>bV (by omega)) (fun i b=>bV (by omega))];exact bxK k p
  have s:Q.length-1+(ys.length-1)<xs.length:=by
   refine Nat.lt_of_not_le (fun h=>l (bV h))
  have t:xs.length<=Q.length-1+(ys.length-1)+1:=by
   refine Nat.le_of_not_lt (fun d=> ?_);have o:xs≠[]:=fun e=>by rw[e] at d;simp at d
   refine(Y5 o).1 g ?_;rw[c];exact rG (m:=Q.length) (n:=ys.length) (fun i b=>bV b) (fun i b=>bV b) (by omega)
  omega
def YI(Q xs ys:List Int)(vx vy:Value)(w:World)(hx:WholeAt w vx xs)(hy:WholeAt w vy ys)(ai:ys≠[])(tQ:aN Q)(tx:aN xs)(ty:aN ys)(ax:∀i,cf xs i=conv (cf Q) (cf ys) i)(K:Nat)(ao:∀n∈Q,nl n.natAbs<=K)(ap:∀n∈ys,nl n.natAbs<=K)
  (cb:7*K+8<=aJ)(dr:xs.length<=1073741824)(ds:ys.length<=1073741824):
  Calls Tryz.prog 87 #[vx,vy] w fun e w'=>∃v',e= .returned v'∧WholeAt w' v' Q∧Below w.1.size w w':=by
 unfold aJ at cb;obtain⟨A,c,rfl,hc⟩:=hx.form;obtain⟨A',c',rfl,db⟩:=hy.form;obtain⟨bp,a1⟩:=K7 tQ tx ty ai ax;have cy:ys.length≠0:=fun e=>ai (bX e);have q1:((ys.length:Int)==0)=false:=by rw[beq_eq_false_iff_ne];omega
 go_enter Tryz.func87,Tryz.ntmps87;by_cases cn:xs.length<ys.length
 ·have co:(xs.length:Int)<(ys.length:Int):=by omega
  have hQ:Q=[]:=bz0 (fun h=>by have:=a1 h;have:=List.length_pos_iff.2 h;omega);have HQ:=aB hQ;clear hQ;go_wp2;go_ret;rw[HQ.out];exact⟨_,rfl,WholeAt.nil _ _ _,aG _ _⟩
 ·have co:¬(xs.length:Int)<(ys.length:Int):=by omega
  have bu:xs≠[]:=fun e=>cn (by rw[e];exact bzI cy);have aq:Q≠[]:=fun e=>bu (bp e);have cu:=a1 aq;obtain⟨N,hN⟩:∃N,Q.length=N:=⟨_,rfl⟩;have c5:(xs.length:Int)-ys.length+1=(N:Int):=by omega
  have c8:0<N:=by rw[<-hN];exact List.length_pos_iff.2 aq
  have c4:N+ys.length=xs.length+1:=by omega
  have c6:N<=1073741824:=by omega
  have HN:=aB hN;have b3:=aB ax;have b5:=aB tQ;clear hN ax bp a1 cu tQ tx aq;obtain⟨c2,a3,cv,a2,br,bi,bn⟩:=hx.rows bu;clear cv
  go_wp2_with (first
   |(at_make;refine jT rfl rfl 77 _ 2 32 Tryz.underlying74 p6 rfl (by decide) N rfl rfl (by first|rfl|omega) (by first|rfl|omega) (by omega) (by omega) ?_;intro w4 b0 bq ag)
   |(at_builtin;refine gM rfl rfl 77 _ 2 32 Tryz.underlying74 p6 rfl (by decide) w4.1.size (.slice (some ⟨w4.1.size,0,none⟩) 0 0) 0 [] rfl (IW w4) c2.flatten rfl (by rw[mX a2,a3]) (br.be (ag.alloc ag.size _)) bn (by omega) (by omega) (by simp) ?_;intro v5 w5 az ac cg))
  have au:Below w4.1.size w4 w5:=⟨ac.os,ac.tape,ac.output,aH (by simp) ac.size,fun k hk=>(ac.block k (by simp;omega) (fun e=>by simp[Value.ownBlock] at e;omega)).trans (Below.heap_alloc w4 _ k hk)⟩;have av:Below w.1.size w w5:=aC ag au;rw[bA,iM] at az;obtain⟨g,c3,rfl,df,cj,dc,de,q⟩:=I9 az a2 a3 rfl (by omega) (bi.ke (Keep.be av));have y:OwnW w5 w.1.size (List.replicate N 0):=(OwnW.made bq).be au;have dk:w.1.size<g:=by have:=b0;omega
  clear ag bq b0 ac cg az au br bi bn a2 a3;have cc:N=N-1+1:=by omega
  have bf:OwnW w5 g (kO Q ys xs.length (N-1) 0):=by rw[YB Q ys xs b3.out (by rw[HN.out];omega)];exact q
  have bb:OwnW w5 w.1.size (mA Q N N):=by rw[YG];exact y
  clear q y;clear cc;go_loopg [7] N (fun k i wr=>i= .int .i64 ((k:Int)-1)∧k<=N∧OwnW wr w.1.size (mA Q N k)∧(0<k->OwnW wr g (kO Q ys xs.length (k-1) 0))∧Below w.1.size w wr)
  case atStart=>exact⟨by go_num,aE,bb,fun _=>bf,av⟩
  case round=>
   clear bb bf av cj;obtain⟨rfl,dq,y,q,z⟩:=hrel;generalize wr=F at *;cases gk with
   |zero=>
    have ce:Q.length<=N:=by rw[HN.out];exact aE
    rw[YF Q N HN.out] at y;have hW:=y.whole N ce;have ht:=ezL Q (some ⟨w.1.size,0,none⟩) N F hW K ao (by omega) (by omega);rw[qB b5.out,HN.out] at ht;go_wp2_with fail;refine ht.mono ?_;rintro e6 G ⟨rfl,U,a⟩;go_wp2;go_ret;exact⟨_,rfl,U,aC z a⟩
   |succ k=>
    replace q:=q (Nat.succ_pos k);rw[mD] at q;obtain⟨p,hp⟩:∃p,p=ys.length-1+k:=⟨_,rfl⟩;have cs:p<xs.length:=by omega
    have cr:(ys.length:Int)-1+k=(p:Int):=by omega
    have cq:(p:Int)<(xs.length:Int):=by omega
    have cp:(0:Int)<=(p:Int):=by omega
    have dn:(0:Int)<=(k:Int):=by omega
    have dp:(k:Int)<(N:Int):=by omega
    have ay:=(Y5 ai).1 ty;have aw:=uJ Q ys xs.length k 0 cs;rw[if_neg (by omega),Int.sub_zero,hp,YC Q ys xs.length k ai,<-hp] at aw;obtain⟨st,At,kt,ct,r,t,a6⟩:=q.at_ aw;have a8:=iU ao k;have a9:=iU ap (ys.length-1);have b7:=gT (cf Q k) (cf ys (ys.length-1)) _ _ a8 a9;have an:=fun W h=>ez4 ys (.slice A' ys.length c') W h ai (by omega);have ah:=fun W v u h1 h2=>mZ (cf Q k*cf ys (ys.length-1)) (cf ys (ys.length-1)) v u W h1 h2 ay (by omega);rw[Int.mul_tdiv_cancel _ ay] at ah;unfold dW at an ah;generalize cf Q k*cf ys (ys.length-1)=TP at *;generalize cf ys (ys.length-1)=le at *;have a7:=hy.be z;have bw:=a7.drew;have x:=q.lt;have ck:=q.lt;have da:=z.size;have hZ:Below F.1.size F (F.alloc (.cells #[.bool false,.slice none 0 0] 77)):=(aG _ _).alloc aE _;have bv:=(a7.be hZ).drew;have DN:=Bx.new F [.bool false,.slice none 0 0] 77;have HP:=aB hp;have bt:IntKind.i64.wrap ((ys.length:Int)-1)=(ys.length:Int)-1:=by rw[IntKind.wrap_i64];omega
    have cw:IntKind.i64.wrap ((ys.length:Int)-1+k)=(ys.length:Int)-1+k:=by rw[IntKind.wrap_i64];omega
    have hA:(0:Int)<=(ys.length:Int)-1+k:=by omega
    have hB:(ys.length:Int)-1+k<(xs.length:Int):=by omega
    have hC:((ys.length:Int)-1+k).toNat=p:=by omega
    clear cr cq cp hp aw;have cz:∀o,(F.alloc o).cell? ⟨g,p*2,none⟩=some (.bool st):=fun o=>(((aG _ _).alloc aE o).cell (p:=⟨g,p*2,none⟩) x).trans r;have c0:∀o,(F.alloc o).cell? ⟨g,p*2+1,none⟩=some (.slice At kt ct):=fun o=>(((aG _ _).alloc aE o).cell (p:=⟨g,p*2+1,none⟩) x).trans t;rw[show((k+1:Nat):Int)-1=(k:Int) by omega];go_upto_region 8 with fail;go_cut [8] (fun s E=>∃J,s= .pointer (some ⟨J,0,none⟩)∧w.1.size<J∧g<J∧IntBx E J (cf Q k)∧OwnW E w.1.size (mA Q N (k+1))∧OwnW E g (kO Q ys xs.length k 0)∧Below w.1.size w E)
    case first=>
     go_region_held3 (fun w'=>w'.cell? ⟨g,p*2,none⟩=some (.bool st)∧w'.cell? ⟨g,p*2+1,none⟩=some (.slice At kt ct))
      (first|(with_reducible exact⟨r,t⟩)|(exact⟨(((aG _ _).alloc aE _).cell (p:=⟨g,p*2,none⟩) x).trans r,(((aG _ _).alloc aE _).cell (p:=⟨g,p*2+1,none⟩) x).trans t⟩)|(exact⟨(aL _ _ _ _ _ _ (show F.1.size≠g by omega)).trans ((aL _ _ _ _ _ _ (show F.1.size≠g by omega)).trans r),(aL _ _ _ _ _ _ (show F.1.size≠g by omega)).trans ((aL _ _ _ _ _ _ (show F.1.size≠g by omega)).trans t)⟩)|(exact⟨(aL _ _ _ _ _ _ (show G.1.size≠g by omega)).trans ((aL _ _ _ _ _ _ (show G.1.size≠g by omega)).trans r),(aL _ _ _ _ _ _ (show G.1.size≠g by omega)).trans ((aL _ _ _ _ _ _ (show G.1.size≠g by omega)).trans t)⟩)|go_keep)
      (first
      |(go_at_call 60;(with_reducible refine(an _ bw).mono ?_);rintro e6 G ⟨v6,rfl,U,al⟩;have a:Below F.1.size F G:=(aG F.1.size F).drew.trans al;replace r:=(a.cell (p:=⟨g,p*2,none⟩) x).trans r;replace t:=(a.cell (p:=⟨g,p*2+1,none⟩) x).trans t;replace x:=aZ x a.size;have b8:=a.size;have a5:=a6.be a;have X:=y.be a;have Y:=q.be a;have L:=aC z a)
      |(go_at_call 60;(with_reducible refine(an _ bv).mono ?_);rintro e6 G ⟨v6,rfl,U,al⟩;have a:Below F.1.size F G:=hZ.drew.trans (al.mono hZ.size);have D:=DN.drew.be al;replace r:=(a.cell (p:=⟨g,p*2,none⟩) x).trans r;replace t:=(a.cell (p:=⟨g,p*2+1,none⟩) x).trans t;replace x:=aZ x a.size;have b8:=a.size;have a5:=a6.be a;have X:=y.be a;have Y:=q.be a;have L:=aC z a)
      |(go_at_call 120;(with_reducible refine(ah _ _ _ a5 U).mono ?_);rintro e7 w7 ⟨v7,rfl,I,f⟩;obtain⟨s7,A7,k7,c7,rfl⟩:=I.form;have b9:=f.size;replace r:=(f.cell (p:=⟨g,p*2,none⟩) x).trans r;replace t:=(f.cell (p:=⟨g,p*2+1,none⟩) x).trans t;replace x:=aZ x f.size;replace X:=X.be f;replace Y:=Y.be f;replace L:=aC L f;(try replace D:=D.be f);(try have P:=D.cell 0 rfl);(try have R:=D.cell 1 rfl);(try have b1:=D.free 0);(try have b2:=D.free 1))
      |(go_at_call 120;(with_reducible refine(ah _ _ _ (a5.be ((aG _ _).alloc aE (.cells #[.bool false,.slice none 0 0] 77))) (U.be ((aG _ _).alloc aE (.cells #[.bool false,.slice none 0 0] 77)))).mono ?_);rintro e7 w7 ⟨v7,rfl,I,bh⟩;obtain⟨s7,A7,k7,c7,rfl⟩:=I.form;have f:Below G.1.size G w7:=((aG G.1.size G).alloc aE (.cells #[.bool false,.slice none 0 0] 77)).trans (bh.mono ((aG G.1.size G).alloc aE (.cells #[.bool false,.slice none 0 0] 77)).size);have D:=(Bx.new G [.bool false,.slice none 0 0] 77).be bh;have b9:=f.size;replace r:=(f.cell (p:=⟨g,p*2,none⟩) x).trans r;replace t:=(f.cell (p:=⟨g,p*2+1,none⟩) x).trans t;replace x:=aZ x f.size;replace X:=X.be f;replace Y:=Y.be f;replace L:=aC L f;have P:=D.cell 0 rfl;have R:=D.cell 1 rfl;have b1:=D.free 0;have b2:=D.free 1))
     all_goals (
      go_wp2;go_meet
      first
       |exact⟨_,rfl,by omega,by omega,(IntBx.stored (m:=0) ⟨_,_,_,_,D,IntAt.zero _⟩ I).1,X.step (IntBx.stored (m:=0) ⟨_,_,_,_,D,IntAt.zero _⟩ I).2 (by omega),Y.step (IntBx.stored (m:=0) ⟨_,_,_,_,D,IntAt.zero _⟩ I).2 (by omega),jD L (IntBx.stored (m:=0) ⟨_,_,_,_,D,IntAt.zero _⟩ I).2 (by omega)⟩
       |exact⟨_,rfl,by omega,by omega,⟨_,_,_,_,Bx.new w7 [.bool s7,.slice A7 k7 c7] 77,I.ke (Keep.alloc _ _)⟩,X.alloc _,Y.alloc _,L.alloc L.size _⟩)
    case rest=>
     clear y q z;obtain⟨J,rfl,di,dj,V,y,q,z⟩:=hcut;clear an ah bw bv hZ DN cz c0 bt cw hA hB hC r t a6 ay b7 a9 x ck a7;have bj:k<(mA Q N (k+1)).length:=by rw[sE];omega
     obtain⟨sd,Ad,kd,cd,D,ae⟩:=id V;have P:=D.cell 0 rfl;have R:=D.cell 1 rfl;obtain⟨s',B',l',d',q0,c1, -⟩:=y.at_ (aR bj);have f0:=y.free (k*2);have f1:=y.free (k*2+1);go_upto_region 10 with fail;have O:=y.stored bj ae;have ba:=V.step O.2 (by omega);have bc:=q.step O.2 (by omega);have bg:=jD z O.2 aE;have ar:=O.1;rw[YE Q N k (by omega)] at ar;clear O y q V z D P R q0 c1 f0 f1 ae;generalize (wc.setCell ⟨w.1.size,k*2,none⟩ (.bool sd)).setCell ⟨w.1.size,k*2+1,none⟩ (.slice Ad kd cd)=wd at *;go_wp2_with fail;have ci:∀p,p<xs.length->nl (conv (jP Q (k+1)) (cf ys) p).natAbs<=K+K+1:=fun p hp=>gzZ (fun i=>YH ao (k+1) i) (fun i=>iU ap i) (by omega);go_loopg [55] ys.length (fun k' i E=>∃j,Hid (j+k'=ys.length)∧i= .int .i64 j∧IntBx E J (cf Q k)∧OwnW E w.1.size (mA Q N k)∧OwnW E g (kO Q ys xs.length k j)∧Below w.1.size w E)
     case atStart=>exact⟨0,by unfold Hid;omega,rfl,ba,ar,bc,bg⟩
     case round=>
      clear ba ar bc bg;obtain⟨j,HJ,rfl,V,y,q,z⟩:=hrel;generalize wr=E at *;have dl:(0:Int)<=(j:Int):=by omega
      cases gk with
      |zero=>
       have hj:j=ys.length:=HJ.out;subst hj;go_wp2;go_roundg k
       case rel=>
        refine⟨by go_num,by omega,y,fun h=> ?_,z⟩;obtain⟨k',rfl⟩:∃k',k=k'+1:=⟨k-1,by omega⟩;rw[YA] at q;exact q
       case measure=>omega
      |succ k'=>
       have cm:j<ys.length:=by have:=HJ.out;omega
       have dm:(j:Int)<(ys.length:Int):=by omega
       have cl:k+j<xs.length:=by have:=HP.out;omega
       have am:=uJ Q ys xs.length k j (p:=j+k) (by omega);rw[if_neg (by omega)] at am;have a4:=YD Q ys xs.length k j cl;have ch:=ci (j+k) (by omega);rw[aq1 k j] at a4;rw[Int.sub_zero] at am;have bk:j+k<(kO Q ys xs.length k j).length:=by rw[uI];omega
       obtain⟨b,s,B,l,d,rfl,c9,y0,y1,bx,bz⟩:=(hy.be z).get (i:=j) cm;have bY:=ap _ bz;have b6:=gT (cf Q k) (cf ys j) _ _ a8 bY;have bm:=fun W v u h1 h2=>jB (cf Q k) (cf ys j) v u W h1 h2 (by omega);have bs:=fun W v u h1 h2=>OJ (conv (jP Q (k+1)) (cf ys) (j+k)) (cf Q k*cf ys j) v u W h1 h2 (by omega) (by omega);unfold dW at bm bs;have b4:=aB a4;clear a4 bz b6 ch;generalize conv (jP Q (k+1)) (cf ys) (j+k)-cf Q k*cf ys j=nv at *
       generalize cf Q k*cf ys j=mv at *;generalize conv (jP Q (k+1)) (cf ys) (j+k)=ov at *
       generalize cf ys j=yv at *;obtain⟨st,At,kt,ct,r,t,bo⟩:=q.at_ am;obtain⟨sd,Ad,kd,cd,D,ae⟩:=id V;have M:=q.lt;have T:=D.lt;have dh:E.1.size≠g:=by omega
       have H:Below E.1.size E (E.alloc (.cells #[.bool s,.slice B l d] 77)):=(aG _ _).alloc aE _;have C:=Bx.new E [.bool s,.slice B l d] 77;have aj:=C.cell 0 rfl;have ak:=C.cell 1 rfl;have P:=(D.be H).cell 0 rfl;have R:=(D.be H).cell 1 rfl;replace r:=(H.cell (p:=⟨g,(j+k)*2,none⟩) M).trans r;replace t:=(H.cell (p:=⟨g,(j+k)*2+1,none⟩) M).trans t;have a0:=(bo.be H).drew;have ca:=(ae.be H).drew;have cx:=(bx.be H).drew;have bt:IntKind.i64.wrap ((j:Int)+k)=(j:Int)+k:=by rw[IntKind.wrap_i64];omega
       have hA:(0:Int)<=(j:Int)+k:=by omega
       have hB:(j:Int)+k<(xs.length:Int):=by omega
       have hC:((j:Int)+k).toNat=j+k:=by omega
       have S:=(q.be H).drew;have af:=(y.be H).drew;have ad:=V.be H.drew;have Z:=(aC z H).drew;replace M:=aZ M H.size;replace T:=aZ T H.size;have ab:=C.lt;clear am q y V z D bx bo ae;go_wp2_with fail;clear C H;generalize E.1.size=gc at *;generalize E.alloc (.cells #[.bool s,.slice B l d] 77)=wz at *
       go_region_with (first
         |(go_at_call 32;refine(bm _ _ _ ca cx).mono ?_;rintro e6 G ⟨v6,rfl,U,a⟩;replace a0:=a0.be a;replace S:=S.be a;replace af:=af.be a;replace ad:=ad.be a;replace Z:=aC Z a;replace r:=(a.cell (p:=⟨g,(j+k)*2,none⟩) M).trans r;replace t:=(a.cell (p:=⟨g,(j+k)*2+1,none⟩) M).trans t;replace P:=(a.cell (p:=⟨J,0,none⟩) T).trans P;replace R:=(a.cell (p:=⟨J,1,none⟩) T).trans R;replace aj:=(a.cell (p:=⟨gc,0,none⟩) ab).trans aj;replace ak:=(a.cell (p:=⟨gc,1,none⟩) ab).trans ak;replace M:=aZ M a.size;replace T:=aZ T a.size;replace ab:=aZ ab a.size)
         |(go_at_call 128;refine(bs _ _ _ a0 U).mono ?_;rintro e7 w7 ⟨v7,rfl,I,f⟩;obtain⟨s7,A7,k7,c7,rfl⟩:=I.form;replace S:=S.be f;replace af:=af.be f;replace ad:=ad.be f;replace Z:=aC Z f;replace r:=(f.cell (p:=⟨g,(j+k)*2,none⟩) M).trans r;replace t:=(f.cell (p:=⟨g,(j+k)*2+1,none⟩) M).trans t;replace P:=(f.cell (p:=⟨J,0,none⟩) T).trans P;replace R:=(f.cell (p:=⟨J,1,none⟩) T).trans R;replace aj:=(f.cell (p:=⟨gc,0,none⟩) ab).trans aj;replace ak:=(f.cell (p:=⟨gc,1,none⟩) ab).trans ak;have f0:=S.free ((j+k)*2);have f1:=S.free ((j+k)*2+1)))
       all_goals (
        go_wp2_with fail;have O:=(S.stored bk I).2;have zS:=(S.stored bk I).1;rw[b4.out] at zS;have zR:=af.step O (by omega);have zD:=ad.step O (by omega);have zb:=jD Z O (by omega);go_roundg k'
        case rel=>exact⟨j+1,by have:=HJ.out;unfold Hid;omega,by go_num,zD,zR,zS,zb⟩
        case measure=>omega)
