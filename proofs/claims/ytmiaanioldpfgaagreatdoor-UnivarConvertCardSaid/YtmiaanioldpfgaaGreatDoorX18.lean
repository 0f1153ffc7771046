/- Laws. -/
import Derived.Test.YtmiaanioldpfgaaGreatDoorX09
set_option linter.all false
set_option maxHeartbeats 8000000
set_option maxRecDepth 99999
namespace Go.Proofs.YtmiaanioldpfgaaGreatDoor
open Go.RowKit Sos
variable{l q r v:List Int}{K a i k:Nat}
structure PQRes(xs ys:List Int)(KB:Nat)(m:Int)(q r:List Int):Prop where
 id_:∀i,m*cf xs i=conv (cf q) (cf ys) i+cf r i
 m0:m≠0
 r_lt:r.length<ys.length
 q_trim:aN q
 r_trim:aN r
 q_len:q.length<=xs.length
 pow:∃e,e<=xs.length+1-ys.length∧m=cf ys (ys.length-1)^e
 bq:∀n∈q,nl n.natAbs<=KB
 br:∀n∈r,nl n.natAbs<=KB
 bm:nl m.natAbs<=KB
def gT(x y:Int)(a b:Nat)(c:nl x.natAbs<=a)(d:nl y.natAbs<=b):nl (x*y).natAbs<=a+b:=by
 rw[fL];have:=fI x.natAbs y.natAbs;omega
def wX(x y:Int)(a:Nat)(d:nl x.natAbs<=a)(e:nl y.natAbs<=a):nl (x+y).natAbs<=a+1:=by
 have b:=cK (bz2 x y);have c:=rK x.natAbs y.natAbs;omega
def IV(x y:Int)(a:Nat)(b:nl x.natAbs<=a)(c:nl y.natAbs<=a):nl (x-y).natAbs<=a+1:=by
 rw[Int.sub_eq_add_neg];exact wX _ _ _ b (by rw[azJ];exact c)
def iU(h:∀n∈l,nl n.natAbs<=K)(i:Nat):nl (cf l i).natAbs<=K:=by
 by_cases a:i<l.length
 ·rw[fZ a];exact h _ (aq0 a)
 ·rw[bV (by omega)];simp[dO]
def UE{b lead:Int}{m:Nat}(d:∀n∈r,nl n.natAbs<=a)(hv:∀n∈v,nl n.natAbs<=K)(e:nl b.natAbs<=a)(c:nl lead.natAbs<=K):∀n∈kZ r v b lead k m,nl n.natAbs<=a+K+1:=by
 intro n hn;unfold kZ at hn;obtain⟨i,_,rfl⟩:=List.mem_map.1 hn;refine IV _ _ _ (gT _ _ _ _ (iU d i) c) ?_;split
 ·exact gT _ _ _ _ e (iU hv _)
 ·simp[dO]
def UF{d lead:Int}(c:∀n∈q,nl n.natAbs<=a)(f:nl d.natAbs<=a)(b:nl lead.natAbs<=K):∀n∈nZ q d lead k,nl n.natAbs<=a+K+1:=by
 intro n hn;unfold nZ at hn;rcases bz8 hn with h|rfl
 ·obtain⟨x,e,rfl⟩:=List.mem_map.1 h;have:=gT x lead _ _ (c x e) b;omega
 ·exact wX _ _ _ (gT _ _ _ _ (iU c k) b) (by omega)
def wY{x y:Int}{b:Nat}(e:nl x.natAbs<=a)(f:nl y.natAbs<=b):x.natAbs*y.natAbs<=BN^(a+b):=by
 have c:x.natAbs<=BN^a:=iE (aZ (cyD _) (fT (by decide) e));have d:y.natAbs<=BN^b:=iE (aZ (cyD _) (fT (by decide) f));rw[KF];exact aqK c d
def IW(w:World):(w.alloc (.cells #[] 77)).ownsRow w.1.size 77 2 (.slice (some ⟨w.1.size,0,none⟩) 0 0) 0 []:=
 ⟨rfl,.inr ⟨w.1.size,0,#[],rfl,aE,Bx.new w [] 77,aE,dC _,rfl,rfl⟩⟩
def Src.be{w W:World}{A:Option Addr}{cs:List Value}(h:Src w A cs)(d:Below w.1.size w W):Src W A cs:=by
 rcases h with h|⟨b,c,e,h⟩
 ·exact .inl h
 ·refine .inr ⟨b,c,e,fun i v hv=> ?_⟩;have a:=h i v hv;exact(d.cell (p:=⟨b,c+i,none⟩) (block_lt_of_cell a)).trans a
def UG(r v:List Int)(a lead:Int)(k m:Nat)(h:i<m):(kZ r v a lead k m)[i]? =some (cf r i*lead-(if k<=i then a*cf v (i-k) else 0)):=by
 unfold kZ;rw[iK,byN h];rfl
def UH(r v:List Int)(a lead:Int)(k m:Nat):(kZ r v a lead k m).length=m:=by unfold kZ;rw[cH,bxZ]
def IX{P x y:Nat}(b:x<=P)(c:y<=P)(a:0<P):0+x<P*BN∧0+x+y<P*BN:=by
 have:P*3<=P*BN:=eV _ (by decide);omega
def bd(K t:Nat):Nat:=K+t*(K+1)
def UI(K t:Nat):bd K (t+1)=bd K t+K+1:=by unfold bd;rw[aq2];omega
def o5(K t n:Nat)(h:t<=n):bd K t<=bd K n:=by unfold bd;have:=dK (K+1) h;omega
def UJ(w:World)(xs ys:List Int)(K N b c d g cap:Nat)(a:Int)(k:Nat)(h f:Value)(wr:World):Prop:=
 ∃m q r e,f= .int .i64 ((k:Int)-1)∧h= .slice (some ⟨g,0,none⟩) r.length cap∧Hid (r.length+1=ys.length+k)∧Hid (q.length=N)∧PQ w wr b c d g m a q r∧Hid (∀i,m*cf xs i=conv (cf q) (cf ys) i+cf r i)∧
  Hid (m=a^e)∧e+k<=N∧(∀n∈q,nl n.natAbs<=bd K (N-k))∧(∀n∈r,nl n.natAbs<=bd K (N-k))∧nl m.natAbs<=bd K (N-k)
def wZ(w:World)(xs ys:List Int)(KB:Nat)(e:Ending)(w':World):Prop:=
 ∃b c a q r m,e= .returned (.tuple #[b,c,a])∧WholeAt w' b q∧WholeAt w' c r∧IntAt w' a m∧PQRes xs ys KB m q r∧Below w.1.size w w'
def BU(xs ys:List Int)(vx vy:Value)(w:World)(hx:WholeAt w vx xs)(hy:WholeAt w vy ys)(b5:ys≠[])(fv:aN xs)(fw:aN ys)(K KB:Nat)(ck:∀n∈xs,nl n.natAbs<=K)(bp:∀n∈ys,nl n.natAbs<=K)
  (gc:1<=K)(fe:K+(xs.length+1-ys.length)*(K+1)<=KB)(ad:KB+K+8<=aJ)(gp:xs.length<=1073741824)(gq:ys.length<=1073741824):
  Calls Tryz.prog 31 #[vx,vy] w (wZ w xs ys KB):=by
 obtain⟨A,c,rfl,hc⟩:=hx.form;obtain⟨A',c',rfl,gg⟩:=hy.form;have fz:ys.length≠0:=fun e=>b5 (bX e);have q1:((ys.length:Int)==0)=false:=by simp;omega
 have di:K<=KB:=by
  exact aH (byR _ _) fe
 have R:Bx (w.alloc (.cells #[.bool false,.slice none 0 0] 77)) (w.1.size) [.bool false,.slice none 0 0] 77:=Bx.newAt w [.bool false,.slice none 0 0] 77 (w.1.size) (by simp);have C:Below w.1.size w (w.alloc (.cells #[.bool false,.slice none 0 0] 77)):=(aG _ _).alloc (by simp) _;go_enter Tryz.func31,Tryz.ntmps31;go_wp2_with fail;generalize w.alloc (.cells #[.bool false,.slice none 0 0] 77)=W at *;refine(lL 1 _ (by decide) (by decide)).mono ?_;rintro e1 D ⟨v1,rfl,F,co⟩;obtain⟨s1,X,k1,Z,rfl⟩:=F.form;replace R:=R.be co;replace al:=R.cell 0 rfl;replace aq:=R.free 0;replace am:=R.cell 1 rfl;replace ar:=R.free 1;replace hk:=Keep.be co;replace C:=aC C co;by_cases d3:xs.length<ys.length
 ·have fr:(xs.length:Int)<(ys.length:Int):=by omega
  have b1:PQRes xs ys KB 1 [] xs:=by
   refine⟨fun i=> ?_,by decide,d3,(fun a h=>by simp at h),fv,dC _,⟨0,dC _,by rw[Int.pow_zero]⟩,(fun n h=>by cases h),(fun n h=>aH (ck n h) di),?_⟩
   ·rw[az5,lK (fun i=>eR i)];show _=0+_
    omega
   ·rw[show nl (1:Int).natAbs=1 from mJ (by decide) (by decide)];omega
  have HR:=aB b1;have f5:∀t:Obj,(D.alloc t).cell? ⟨w.1.size,0,none⟩=some (.bool false):=fun t=>(R.alloc t).cell 0 rfl;have f7:∀t:Obj,(D.alloc t).frozen? ⟨w.1.size,0,none⟩=false:=fun t=>(R.alloc t).free 0;have f6:∀t:Obj,(D.alloc t).cell? ⟨w.1.size,1,none⟩=some (.slice none 0 0):=fun t=>(R.alloc t).cell 1 rfl;have f8:∀t:Obj,(D.alloc t).frozen? ⟨w.1.size,1,none⟩=false:=fun t=>(R.alloc t).free 1;go_wp2_with fail;have cb:=R.lt;have ft:=C.size;replace R:=R.alloc (.cells #[.bool s1,.slice X k1 Z] 77);have M:=Bx.newAt D [.bool s1,.slice X k1 Z] 77 (D.1.size) (by simp);replace C:=C.alloc C.size (.cells #[.bool s1,.slice X k1 Z] 77);replace hk:=Keep.alloc D (.cells #[.bool s1,.slice X k1 Z] 77);replace F:=F.ke hk;generalize D.alloc (.cells #[.bool s1,.slice X k1 Z] 77)=w2 at *;replace al:=R.cell 0 rfl;replace aq:=R.free 0;replace am:=R.cell 1 rfl;replace ar:=R.free 1;replace ab:=M.cell 0 rfl;replace a1:=M.free 0;replace ac:=M.cell 1 rfl;replace a2:=M.free 1;have g2:=hx.be C;go_region
  all_goals (
   go_wp2_with fail;have f9:=R.lt;have f4:=M.lt;have gy:=C.size;replace M:=(M.far 0 (.bool s1) (show w.1.size≠D.1.size by omega)).far 1 (.slice X k1 Z) (show w.1.size≠D.1.size by omega);replace hk:=jU (s:=s1) (u:= .slice X k1 Z) C (by omega) R;clear R C;obtain⟨-, -,R,C,hk⟩:=hk;replace F:=F.ke hk;generalize (w2.setCell ⟨w.1.size,0,none⟩ (.bool s1)).setCell ⟨w.1.size,1,none⟩ (.slice X k1 Z)=W6 at *;replace al:=R.cell 0 rfl;replace am:=R.cell 1 rfl;replace ab:=M.cell 0 rfl;replace ac:=M.cell 1 rfl;exact aM (v:= .tuple #[.slice none 0 0,.slice A xs.length c,.agg #[.bool s1,.slice X k1 Z]]) (by simp[results,Tryz.results31,go_sem,al,am]) rfl ⟨_,_,_,[],xs,1,rfl,WholeAt.nil _ _ _,hx.be C.drew,F.drew,HR.out,C.drew⟩)
 ·have fr:¬(xs.length:Int)<(ys.length:Int):=by omega
  have d2:cf ys (ys.length-1)≠0:=by
   obtain⟨a,ha⟩:∃a,ys.getLast?=some a:=⟨_,byP b5⟩;rw[vJ ha];exact fw a ha
  have ay:=iU bp (ys.length-1);obtain⟨N,hN⟩:∃N,N=xs.length-ys.length+1:=⟨_,rfl⟩;have ge:(xs.length:Int)-ys.length+1=(N:Int):=by omega
  have gd:N+ys.length=xs.length+1:=by omega
  clear hN;go_wp2_with fail;have cb:=R.lt;have ft:=C.size;replace R:=R.alloc (.cells #[.bool s1,.slice X k1 Z] 77);have M:=Bx.newAt D [.bool s1,.slice X k1 Z] 77 (D.1.size) (by simp);replace C:=C.alloc C.size (.cells #[.bool s1,.slice X k1 Z] 77);replace hk:=Keep.alloc D (.cells #[.bool s1,.slice X k1 Z] 77);replace F:=F.ke hk;generalize D.alloc (.cells #[.bool s1,.slice X k1 Z] 77)=w2 at *;replace al:=R.cell 0 rfl;replace aq:=R.free 0;replace am:=R.cell 1 rfl;replace ar:=R.free 1;replace ab:=M.cell 0 rfl;replace a1:=M.free 0;replace ac:=M.cell 1 rfl;replace a2:=M.free 1;refine(ez4 ys _ _ (hy.be C) b5 (by omega)).mono ?_;rintro e3 z ⟨v3,rfl,h3,bs⟩;obtain⟨s3,A3,k3,c3,rfl⟩:=h3.form;replace R:=R.be bs;replace al:=R.cell 0 rfl;replace aq:=R.free 0;replace am:=R.cell 1 rfl;replace ar:=R.free 1;replace M:=M.be bs;replace ab:=M.cell 0 rfl;replace a1:=M.free 0;replace ac:=M.cell 1 rfl;replace a2:=M.free 1;replace hk:=Keep.be bs;replace F:=F.ke hk;replace C:=aC C bs;generalize d1:cf ys (ys.length-1)=f at *;have c5:=aB d1;clear d1;have fy:xs≠[]:=fun e=>d3 (by rw[e];exact bzI fz);have gf:0<N:=by omega
  obtain⟨f3,a9,fs,cx,eg,dy,d6⟩:=(hx.be C).rows fy;clear fs
  go_wp2_with (first
   |(at_make;refine jT rfl rfl 77 _ 2 32 Tryz.underlying74 p6 rfl (by decide) N rfl rfl (by first|rfl|omega) (by first|rfl|omega) (by omega) (by omega) ?_;intro w4 el ee bf)
   |(at_builtin;refine gM rfl rfl 77 _ 2 32 Tryz.underlying74 p6 rfl (by decide) w4.1.size (.slice (some ⟨w4.1.size,0,none⟩) 0 0) 0 [] rfl (IW w4) f3.flatten rfl (by rw[mX cx,a9]) (eg.be ((((aG _ _).alloc aE _).trans (bf.mono (by simp))).alloc (aH (by simp) bf.size) _)) d6 (by omega) (by omega) (by simp) ?_;intro v5 w5 cw a7 fi))
  have bt:Below w4.1.size w4 w5:=⟨a7.os,a7.tape,a7.output,aH (by simp) a7.size,fun k hk=>(a7.block k (by simp;omega) (fun e=>by simp[Value.ownBlock] at e;omega)).trans (Below.heap_alloc w4 _ k hk)⟩;have cp:Below z.1.size z w4:=((aG _ _).alloc aE _).trans (bf.mono (by simp));have ax:Below z.1.size z w5:=aC cp bt;rw[bA,iM] at cw;obtain⟨g,bb,rfl,gj,gl,gh,gi,hS⟩:=I9 cw cx a9 rfl (by omega) (dy.ke (Keep.be ax));have dl:PQ w w5 D.1.size z.1.size (z.1.size+1) g 1 f (List.replicate N 0) xs:=by
   refine⟨R.be ax,⟨_,_,_,_,M.be ax,F.be ax⟩,⟨_,_,_,_,((Bx.new z [.bool s3,.slice A3 k3 c3] 77).be bf).be bt,h3.be ax⟩,?_,hS,aC C ax,cb,?_,aqC _,?_⟩
   ·have:=OwnW.made ee;rw[World.size_alloc] at this;exact this.be bt
   ·exact M.lt
   ·have:=el;simp at this;omega
  have a4:=cb;clear bf ee el a7 fi cw cp ax bt hS eg dy d6 cx a9 R M F h3 hk al am aq ar ab ac a1 a2 C;have bu:bd K N<=KB:=by
   have F:=o5 K N (xs.length+1-ys.length) (by omega);have G:bd K (xs.length+1-ys.length)=K+(xs.length+1-ys.length)*(K+1):=rfl;omega
  go_loopg [10,11] N (fun k rv kv wr=>UJ w xs ys K N D.1.size z.1.size (z.1.size+1) g bb f k rv kv wr)
  case atStart=>
   refine⟨1,List.replicate N 0,xs,0,rfl,rfl,by unfold Hid;omega,by unfold Hid;simp,dl,fun i=> ?_,by unfold Hid;rw[Int.pow_zero],by omega,fun n hn=> ?_,fun n hn=> ?_,?_⟩
   ·rw[az5,lK (fun i=>by unfold cf;rw[eF,j6];split<;>rfl)];show _=0+_
    omega
   ·rw[byK hn];simp[dO]
   ·exact aH (ck n hn) (by unfold bd;omega)
   ·rw[show nl (1:Int).natAbs=1 from mJ (by decide) (by decide)];unfold bd;omega
  case round=>
   clear dl;obtain⟨m,q,r,e,rfl,rfl,c7,ak,P,b7,bn,fl,bq,br,bm⟩:=hrel;generalize wr=wh at *;cases gk with
   |zero=>
    have a9:r.length<ys.length:=by have:=c7.out;omega
    have cc:∀n∈q,nl n.natAbs<=KB:=fun n hn=>aH (bq n hn) (by rw[byA];exact bu);have ce:∀n∈r,nl n.natAbs<=KB:=fun n hn=>aH (br n hn) (by rw[byA];exact bu);have db:nl m.natAbs<=KB:=aH bm (by rw[byA];exact bu);have b1:PQRes xs ys KB m (aW aV q) (aW aV r):=by
     refine⟨fun i=> ?_,?_,jI (oY aV r) a9,jS q,jS r,?_,⟨e,by omega,by rw[c5.out];exact bn.out⟩,fun n hn=>cc n (rC hn),fun n hn=>ce n (rC hn),db⟩
     ·rw[b7.out i,iS];congr 1;exact gL (fun j=>(iS q j).symm) (fun _=>rfl) i
     ·rw[bn.out];exact Int.pow_ne_zero d2
     ·have F:=oY aV q;have G:=ak.out;omega
    have es:=aB b1;clear b1;obtain⟨sm,Am,km,cm,M,hm⟩:=P.M;have R:=P.R;have ag:=P.hb;have hQ:=P.Q.whole N (by rw[ak.out];exact aE);have hS:=P.S.whole bb (by omega);have eb:=ak.out;have o2:=P.o2;have o3:=P.o3;have o4:=P.o4;have ei:=fun W h=>ezL q (some ⟨z.1.size+1,0,none⟩) N W h KB cc (by unfold aJ at ad;omega) (by omega);have fu:=fun W h=>ezL r (some ⟨g,0,none⟩) bb W h KB ce (by unfold aJ at ad;omega) (by omega);rw[eb] at ei hQ;clear eb bq br bm cc ce db a9 ck bp di d2 ay fl P;generalize aW aV q=Q1 at *;generalize aW aV r=R1 at *;replace M:=M.drew;replace R:=R.drew;replace ag:=ag.drew;replace hQ:=hQ.drew;replace hS:=hS.drew;replace hm:=hm.drew;have b6:w.1.size≠D.1.size:=by omega
    replace al:=R.cell 0 rfl;replace aq:=R.free 0;replace am:=R.cell 1 rfl;replace ar:=R.free 1;replace ab:=M.cell 0 rfl;replace a1:=M.free 0;replace ac:=M.cell 1 rfl;replace a2:=M.free 1;go_wp2_with fail
    go_region_held3 (fun w'=>w'.cell? ⟨D.1.size,0,none⟩=some (.bool sm)∧w'.cell? ⟨D.1.size,1,none⟩=some (.slice Am km cm))
     (first|(with_reducible exact⟨ab,ac⟩)|(with_reducible exact⟨(aL _ _ _ _ _ _ b6).trans ((aL _ _ _ _ _ _ b6).trans ab),(aL _ _ _ _ _ _ b6).trans ((aL _ _ _ _ _ _ b6).trans ac)⟩))
     (first
      |(go_at_call 67;(with_reducible refine(ei _ hQ).mono ?_);rintro e6 w6 ⟨rfl,h6,V⟩;replace hS:=hS.be V;replace hm:=hm.be V;replace R:=R.be V;replace M:=M.be V;replace ab:=M.cell 0 rfl;replace ac:=M.cell 1 rfl;replace al:=R.cell 0 rfl;replace am:=R.cell 1 rfl;replace aq:=R.free 0;replace ar:=R.free 1;replace ag:=aC ag V)
      |(go_at_call 67;(with_reducible refine(fu _ hS).mono ?_);rintro e7 w7 ⟨rfl,h7,a4⟩;replace h6:=h6.be a4;replace hm:=hm.be a4;replace R:=R.be a4;replace M:=M.be a4;replace ab:=M.cell 0 rfl;replace ac:=M.cell 1 rfl;replace al:=R.cell 0 rfl;replace am:=R.cell 1 rfl;replace aq:=R.free 0;replace ar:=R.free 1;replace ag:=aC ag a4))
    go_wp2_with fail;obtain⟨⟨s8,A8,k8,c8,R8, -⟩,O⟩:=IntBx.stored (w:=w7) (b:=w.1.size) (m:=0) ⟨_,_,_,_,R,IntAt.zero _⟩ hm;have z6:=h6.step O (fun b e=>by injection e with e;injection e with e;omega);have z7:=h7.step O (fun b e=>by injection e with e;injection e with e;omega);have zm:=hm.ke O.1;have zb:=jD ag O aE;obtain⟨z0,z1, -, -, -⟩:=jU (s:=sm) (u:= .slice Am km cm) ag aE R;clear R8 O;generalize (w7.setCell ⟨w.1.size,0,none⟩ (.bool sm)).setCell ⟨w.1.size,1,none⟩ (.slice Am km cm)=W6 at *;exact aM (v:= .tuple #[.slice (some ⟨z.1.size+1,0,none⟩) Q1.length N,.slice (some ⟨g,0,none⟩) R1.length bb,.agg #[.bool sm,.slice Am km cm]]) (by simp[results,Tryz.results31,go_sem,z0,z1]) rfl ⟨_,_,_,Q1,R1,m,rfl,z6,z7,zm,es.out,zb⟩
   |succ k=>
    obtain⟨p,hp⟩:∃p,p=ys.length-1+k:=⟨_,rfl⟩;have gx:(ys.length:Int)-1+k=(p:Int):=by omega
    have ba:=aB hp;have cz:r.length=p+1:=by have:=c7.out;omega
    have c9:=aB cz;have d7:p<r.length:=by omega
    have gs:(p:Int)<(r.length:Int):=by omega
    have gu:p<=bb:=by omega
    have gv:(0:Int)<=(p:Int):=by omega
    have gw:(p:Int)<=(r.length:Int):=by omega
    have fp:k<N:=by omega
    have gn:(0:Int)<=(k:Int):=by omega
    have e1:N-k=(N-(k+1))+1:=by omega
    have ds:bd K (N-k)=bd K (N-(k+1))+K+1:=by rw[e1,UI]
    have c4:=aB ds;have bv:bd K (N-k)<=KB:=aH (o5 K _ N (by omega)) bu;obtain⟨st,At,kt,ct,g0,g1,aj⟩:=P.S.at_ (aR d7);have du:r[p]=cf r p:=(fZ d7).symm;rw[du] at aj;have ch:=iU br p;have hcut:=P.cut p;obtain⟨sl,Al,kl,cl,L,J⟩:=P.L;have ef:=fun h0=>fq7 (n:=p) h0 cz b7.out;have da:=aB ef;clear hp cz e1 ds du ef;have eu:∀t:Obj,(wh.alloc t).cell? ⟨z.1.size,0,none⟩=some (.bool sl):=fun t=>(L.alloc t).cell 0 rfl;have ew:∀t:Obj,(wh.alloc t).frozen? ⟨z.1.size,0,none⟩=false:=fun t=>(L.alloc t).free 0;have ev:∀t:Obj,(wh.alloc t).cell? ⟨z.1.size,1,none⟩=some (.slice Al kl cl):=fun t=>(L.alloc t).cell 1 rfl;have ex:∀t:Obj,(wh.alloc t).frozen? ⟨z.1.size,1,none⟩=false:=fun t=>(L.alloc t).free 1;go_wp2_with fail;have a5:Below wh.1.size wh (wh.alloc (.cells #[.bool st,.slice At kt ct] 77)):=(aG _ _).alloc aE _;have fm:=P.S.lt;have T:=Bx.new wh [.bool st,.slice At kt ct] 77;have o:=P.be a5;replace hcut:=hcut.be a5;replace aj:=aj.be a5;replace L:=L.be a5;replace J:=J.be a5;obtain⟨gt,dw⟩:∃gt,wh.1.size=gt:=⟨_,rfl⟩;rw[dw] at T fm⊢;clear P a5 g0 g1 dw eu ev ew ex;generalize wh.alloc (.cells #[.bool st,.slice At kt ct] 77)=wa at *;refine(g9 _ _ _ aj (by unfold aJ at ad;have:=o5 K (N-(k+1)) (N-k) (by omega);omega)).mono ?_;rintro ez wz ⟨rfl,a6⟩;replace T:=T.be a6;replace o:=o.be a6;replace hcut:=hcut.be a6;replace aj:=aj.be a6;replace L:=L.be a6;replace J:=J.be a6;by_cases h0:cf r p=0
    ·have hd:decide (cf r p=0)=true:=by simpa using h0
     have ai:=da.out h0;rw[hd];have en:=aB ai;clear hd ai;go_wp2;go_roundg k
     case rel=>
      refine⟨m,q,r.take p,e,by go_num,?_,?_,ak,hcut,en,bn,by omega,fun n hn=> ?_,fun n hn=> ?_,?_⟩
      ·rw[bK,y8 (by omega)]
      ·unfold Hid;rw[bK,y8 (by omega),ba.out];omega
      ·exact aH (bq n hn) (o5 K _ _ (by omega))
      ·exact aH (br n (lH hn)) (o5 K _ _ (by omega))
      ·exact aH bm (o5 K _ _ (by omega))
     case measure=>omega
    ·have hd:decide (cf r p=0)=false:=by simpa using h0
     rw[hd];clear hd da hcut;have au:=T.cell 0 rfl;have av:=T.cell 1 rfl;have an:=L.cell 0 rfl;have ao:=L.cell 1 rfl;go_wp2_with fail;refine(S3 _ _ _ J (by unfold aJ at ad;omega)).mono ?_;rintro eo wo ⟨rfl,cq⟩;replace T:=T.be cq;replace o:=o.be cq;replace aj:=aj.be cq;have E:IntBx wo gt (cf r p):=⟨_,_,_,_,T,aj⟩;have ga:nl m.natAbs<=KB:=aH bm (aH (o5 K _ (N-k) (by omega)) bv);have dc:∀n∈q,nl n.natAbs<=KB:=fun n hn=>aH (bq n hn) (aH (o5 K _ (N-k) (by omega)) bv);clear T au av L an ao J aj;go_upto_if 67 with fail;go_cut [] (fun wx=>PQ w wx D.1.size z.1.size (z.1.size+1) g (m*f) f (q.map (·*f)) r∧IntBx wx gt (cf r p))
     case first=>
      by_cases bi:f=1
      ·have hd:decide (f=1)=true:=by simpa using bi
       have em:m*f=m:=by rw[bi,bx7]
       have eq:q.map (·*f)=q:=by
        rw[bi];exact(by3 (fun a _=>bx7 a)).trans (List.map_id q)
       rw[hd];have HE:=aB (And.intro em eq);clear hd em eq bi;go_wp2;go_meet;rw[HE.out.1,HE.out.2];exact⟨o,E⟩
      ·have hd:decide (f=1)=false:=by simpa using bi
       rw[hd];clear hd;obtain⟨sm,Am,km,cm,M,hm⟩:=o.M;obtain⟨sl,Al,kl,cl,L,J⟩:=o.L;have ab:=M.cell 0 rfl;have ac:=M.cell 1 rfl;have an:=L.cell 0 rfl;have ao:=L.cell 1 rfl;have cv:=fun W v u F G=>jB m f v u W F G (by unfold aJ at ad;omega);unfold dW at cv;generalize gr:m*f=ml at *;go_wp2_with fail;refine(cv _ _ _ hm J).mono ?_;rintro e2 w2 ⟨v2,rfl,G,af⟩;obtain⟨s2,A2,k2,c2,rfl⟩:=G.form;replace o:=o.be af;replace E:=E.be af;replace M:=M.be af;replace ab:=M.cell 0 rfl;replace ac:=M.cell 1 rfl;have a1:=M.free 0;have a2:=M.free 1;clear cv;go_wp2_with fail;have O:=(IntBx.stored (m:=m) ⟨_,_,_,_,M,hm.be af⟩ G).2;have o2:=o.o2;have o3:=o.o3;have o4:=o.o4;replace E:=E.step O (by omega);replace o:=o.setM G;clear O M ab ac a1 a2 L an ao J hm G;generalize (w2.setCell ⟨D.1.size,0,none⟩ (.bool s2)).setCell ⟨D.1.size,1,none⟩ (.slice A2 k2 c2)=wm at *;have ed:q.length=(q.map (·*f)).length:=(cH _).symm;have bo:=aB ed;clear ed;go_loopg [73] N (fun k' i wx=>∃j,Hid (j+k'=N)∧i= .int .i64 j∧PQ w wx D.1.size z.1.size (z.1.size+1) g ml f ((q.map (·*f)).take j++q.drop j) r∧IntBx wx gt (cf r p))
       case atStart=>exact⟨0,by unfold Hid;omega,rfl,by simpa using o,E⟩
       case round=>
        clear o E;obtain⟨j,HJ,rfl,o,E⟩:=hrel;generalize wr=wx at *;have fn:(0:Int)<=(j:Int):=by omega
        cases gk with
        |zero=>
         have hj:j=N:=HJ.out;subst hj;go_wp2;go_meet;rw[cZ (by rw[<-bo.out,ak.out];exact aE),gO (by rw[ak.out];exact aE),fH] at o;exact⟨o,E⟩
        |succ k'=>
         have a8:j<q.length:=by have:=HJ.out;rw[ak.out];omega
         have fo:(j:Int)<(N:Int):=by have:=HJ.out;omega
         have az:=IB (ys:=q.map (·*f)) a8 bo.out;have ej:=IC (j:=j) bo.out;have bk:=IA (xs:=q) (ys:=q.map (·*f)) (y:=q[j]*f) (j:=j) (by rw[iK,aR a8];rfl) bo.out;rw[aR a8] at az;have gb:=dc _ (aq0 a8);have ah:j<((q.map (·*f)).take j++q.drop j).length:=by rw[ej];exact a8
         generalize q[j]=x at *;obtain⟨s,B,l,d,g0,g1,hi⟩:=o.Q.at_ az;obtain⟨sl,Al,kl,cl,L,J⟩:=o.L;have an:=L.cell 0 rfl;have ao:=L.cell 1 rfl;have f0:=o.Q.free (j*2);have f1:=o.Q.free (j*2+1);have H:=o.drew;have ae:=E.be (aG _ _).drew;have ai:=hi.drew;have ff:=J.drew;have a0:=aB bk;clear az ej bk a8 o E hi J L;go_wp2_with fail
         go_region_with (first
          |(go_at_call 32;refine(jB x f _ _ _ ai ff (by unfold aJ at ad;omega)).mono ?_;rintro e2 w2 ⟨v2,rfl,G,af⟩;obtain⟨s2,A2,k2,c2,rfl⟩:=G.form;replace H:=H.be af;replace ae:=ae.be af;obtain⟨s',B',l',d',fb,fc, -⟩:=H.Q.at_ (aR ah);have e9:=H.Q.free (j*2);have fa:=H.Q.free (j*2+1)))
         all_goals (
          go_wp2_with fail;have O:=(H.Q.stored ah G).2;have o4:=H.o4;have zT:=ae.step O (by omega);have zP:=H.setQ ah G;rw[a0.out] at zP;go_roundg k'
          case rel=>exact⟨j+1,by have:=HJ.out;unfold Hid;omega,by go_num,zP,zT⟩
          case measure=>omega)
     case rest=>
      clear o E;obtain⟨o,E⟩:=hcut;generalize ek:cf r p=I at *;have et:=aB ek;have b0:k<q.length:=by rw[ak.out];exact fp
      have go:(k:Int)<(N:Int):=by omega
      have bz:k<(q.map (·*f)).length:=by rw[cH];exact b0
      have dv:(q.map (·*f))[k]? =some (cf q k*f):=by rw[iK,aR b0,fZ b0];rfl
      have ec:(q.map (·*f)).set k (cf q k*f+I)=nZ q I f k:=rfl;have de:=iU dc k;have e0:nl I.natAbs<=KB:=aH ch (aH (o5 K _ (N-k) (by omega)) bv);have ey:=gT (cf q k) f _ _ de ay;generalize cf q k*f=qk at *;obtain⟨s,B,l,d,g0,g1,hi⟩:=o.Q.at_ dv;obtain⟨st,At,kt,ct,T,hT⟩:=id E;have au:=T.cell 0 rfl;have av:=T.cell 1 rfl;have f0:=o.Q.free (k*2);have f1:=o.Q.free (k*2+1);have H:=o.drew;have ae:=E.be (aG _ _).drew;have ai:=hi.drew;have dr:=hT.drew;have c6:=aB ec;clear dv ec ek o E hi hT T de;go_upto_region 20 with fail;go_cut [] (fun wx=>PQ w wx D.1.size z.1.size (z.1.size+1) g (m*f) f (nZ q I f k) r∧IntBx wx gt I)
      case first=>
       go_region_with (first
        |(go_at_call 63;refine(rJ qk I _ _ _ ai dr (by unfold aJ at ad;omega) (by unfold aJ at ad;omega)).mono ?_;rintro e2 w2 ⟨v2,rfl,G,af⟩;obtain⟨s2,A2,k2,c2,rfl⟩:=G.form;replace H:=H.be af;replace ae:=ae.be af;obtain⟨s',B',l',d',fb,fc, -⟩:=H.Q.at_ (aR bz);have e9:=H.Q.free (k*2);have fa:=H.Q.free (k*2+1)))
       all_goals (
        go_wp2_with fail;have O:=(H.Q.stored bz G).2;have o4:=H.o4;have zT:=ae.step O (by omega);have zP:=H.setQ bz G;rw[c6.out] at zP;go_meet;exact⟨zP,zT⟩)
      case rest=>
       clear H ae ai dr au av g0 g1 f0 f1 ey c6 bz;obtain⟨o,E⟩:=hcut;have dn:r.length=p+1:=c9.out;have c0:(r.take p).length=p:=by rw[bK];omega
       have ca:=aB c0;have cy:=UH r ys I f k p;have b9:=aB (c0.trans cy.symm);have b8:=aB cy;have gm:=o.S.lt;replace o:=o.cut p;have cd:=UF (k:=k) bq ch ay;have cg:=UE (k:=k) (m:=p) br bp ch ay;rw[<-c4.out] at cd cg;have cs:=eyX (k:=k) (lead:=f) b5 (by rw[dn,ba.out];omega) b0 (c5.out.symm) b7.out;rw[<-ba.out,et.out] at cs;have ep:=aB cs;have d5:=gT m f _ _ bm ay;have BF:=aB (And.intro cd (And.intro cg d5));clear c0 cy dn cd cg cs d5;have dm:(nZ q I f k).length=q.length:=by unfold nZ;rw[eM,cH]
       generalize nZ q I f k=Q2 at *;have er:=aB dm;clear dm;go_wp2_with fail;go_loopg [97] p (fun k' i wx=>∃j,Hid (j+k'=p)∧i= .int .i64 j∧PQ w wx D.1.size z.1.size (z.1.size+1) g (m*f) f Q2 ((kZ r ys I f k p).take j++(r.take p).drop j)∧IntBx wx gt I)
       case atStart=>exact⟨0,by unfold Hid;omega,rfl,by simpa using o,E⟩
       case round=>
        clear o E;obtain⟨j,HJ,rfl,o,E⟩:=hrel;generalize wr=wi at *;have fn:(0:Int)<=(j:Int):=by omega
        cases gk with
        |zero=>
         have hj:j=p:=HJ.out;subst hj;go_wp2;go_roundg k
         case rel=>
          rw[cZ (by rw[b8.out];exact aE),gO (by rw[ca.out];exact aE),fH] at o;refine⟨m*f,Q2,kZ r ys I f k j,e+1,by go_num,by rw[b8.out],?_,?_,o,ep,?_,by omega,BF.out.1,BF.out.2.1,?_⟩
          ·unfold Hid;rw[b8.out,ba.out];omega
          ·unfold Hid;rw[er.out];exact ak.out
          ·unfold Hid;rw[bn.out,gR]
          ·have:=BF.out.2.2;rw[c4.out];omega
         case measure=>omega
        |succ k'=>
         have bx:j<p:=by have:=HJ.out;omega
         have fo:(j:Int)<(p:Int):=by omega
         have az:=IB (ys:=kZ r ys I f k p) (show j<(r.take p).length by rw[ca.out];exact bx) b9.out;have bk:=IA (xs:=r.take p) (ys:=kZ r ys I f k p) (j:=j) (UG r ys I f k p bx) b9.out;have ah:j<((kZ r ys I f k p).take j++(r.take p).drop j).length:=by rw[IC b9.out,ca.out];exact bx
         have d0:j<r.length:=by have:=c9.out;omega
         rw[fC,if_pos bx,aR d0,<-fZ d0] at az;have df:nl (cf r j).natAbs<=KB:=aH (iU br j) (aH (o5 K _ (N-k) (by omega)) bv);have f2:k<=j->j-k<ys.length:=fun h=>by have:=ba.out;omega
         generalize cf r j=x at *;have a0:=aB bk;clear bk;generalize (kZ r ys I f k p).take j++(r.take p).drop j=RJ at *;obtain⟨s,B,l,d,g0,g1,hi⟩:=o.S.at_ az;obtain⟨sl,Al,kl,cl,L,J⟩:=o.L;obtain⟨st,At,kt,ct,T,hT⟩:=id E;have fk:=o.hb;have b2:=o.S.lt;have b3:=L.lt;have b4:=T.lt;have dp:=SumAt.new wi (KB+K+1);have ap:Below wi.1.size wi (wi.alloc (.cells #[.slice none 0 0,.slice none 0 0] 121)):=(aG _ _).alloc aE _;obtain⟨dk,bc⟩:=IX (wY df ay) (mC (BN^(KB+K))) (eQ (by decide));have d8:=wY df ay;have cn:=fun W F G h3=>fy1 wi.1.size (wi.1.size+1) (KB+K+1) 0 0 x f s B l d sl Al kl cl W F G h3 hi.blk J.blk (by omega) (by unfold aJ at ad;unfold aJ;omega) (by rw[dH];exact dk);rw[bxA,bA] at cn;have dx:=(hi.be ap).drew;have dj:=(J.be ap).drew;have dq:=dp.drew;have ci:=(ap.cell (p:=⟨g,j*2,none⟩) b2).trans g0;have cj:=(ap.cell (p:=⟨g,j*2+1,none⟩) b2).trans g1;have an:=(ap.cell (p:=⟨z.1.size,0,none⟩) b3).trans (L.cell 0 rfl);have ao:=(ap.cell (p:=⟨z.1.size,1,none⟩) b3).trans (L.cell 1 rfl);clear az dk bc g0 g1 hi J dp;go_wp2_with fail;generalize wi.alloc (.cells #[.slice none 0 0,.slice none 0 0] 121)=ws at *
         go_region_held3 (fun w'=>w'.cell? ⟨g,j*2,none⟩=some (.bool s)∧w'.cell? ⟨g,j*2+1,none⟩=some (.slice B l d)∧w'.cell? ⟨z.1.size,0,none⟩=some (.bool sl)∧w'.cell? ⟨z.1.size,1,none⟩=some (.slice Al kl cl))
          (first|(exact⟨ci,cj,an,ao⟩)|(exact⟨(a3.cell (p:=⟨g,j*2,none⟩) b2).trans ci,(a3.cell (p:=⟨g,j*2+1,none⟩) b2).trans cj,(a3.cell (p:=⟨z.1.size,0,none⟩) b3).trans an,(a3.cell (p:=⟨z.1.size,1,none⟩) b3).trans ao⟩))
          (first|(go_at_call 64;refine(cn _ dq dx dj).mono ?_;rintro e5 w5 ⟨rfl,h5,a3, -⟩))
         have V:Below wi.1.size wi w5:=ap.drew.trans a3;clear cn dx dj dq ci cj an ao ap a3 L;have U:=o.be V;have aw:=E.be V;have fg:=o;have fh:=E;clear o E;by_cases cu:k<=j
         ·have fq:(k:Int)<=(j:Int):=by omega
          obtain⟨u,hu⟩:∃u,u=j-k:=⟨_,rfl⟩;have fx:u<ys.length:=by rw[hu];exact f2 cu
          rw[if_pos cu,<-hu] at a0;obtain⟨b',s',B',l',d',fd,bw,p0,p1,cr,d4⟩:=(hy.be fk).get (i:=u) fx;subst fd;have e4:=bp _ d4;have ea:=wY e0 e4;replace p0:=(V.cell (p:=⟨b',u*2,none⟩) bw).trans p0;replace p1:=(V.cell (p:=⟨b',u*2+1,none⟩) bw).trans p1;have au:=(V.cell (p:=⟨gt,0,none⟩) b4).trans (T.cell 0 rfl);have av:=(V.cell (p:=⟨gt,1,none⟩) b4).trans (T.cell 1 rfl);have bc:=(IX d8 ea (eQ (by decide))).2;rw[bA] at bc;have eh:=fun W F h0 G h3=>OF wi.1.size w5.1.size (KB+K+1) (x.natAbs*f.natAbs) (x*f) I (cf ys u) st At kt ct s' B' l' d' W F h0 G h3 hT.blk cr.blk (by omega) (by unfold aJ at ad;unfold aJ;omega) (by rw[dH];exact bc);have dh:=h5.drew;have ae:=(hT.be V).drew;have ai:=(cr.be V).drew;have gz:IntKind.i64.wrap ((j:Int)-k)=(j:Int)-k:=by rw[IntKind.wrap_i64];omega
          have hA:(0:Int)<=(j:Int)-k:=by omega
          have hB:(j:Int)-k<(ys.length:Int):=by omega
          have hC:((j:Int)-k).toNat=u:=by omega
          generalize cf ys u=Y at *;clear hu d8 ea bc d4 cr hT T h5;go_wp2_with fail
          go_region_held3 (fun w'=>w'.cell? ⟨gt,0,none⟩=some (.bool st)∧w'.cell? ⟨gt,1,none⟩=some (.slice At kt ct)∧w'.cell? ⟨b',u*2,none⟩=some (.bool s')∧w'.cell? ⟨b',u*2+1,none⟩=some (.slice B' l' d'))
           (first|(exact⟨au,av,p0,p1⟩)|(exact⟨(bg.cell (p:=⟨gt,0,none⟩) b4).trans au,(bg.cell (p:=⟨gt,1,none⟩) b4).trans av,(bg.cell (p:=⟨b',u*2,none⟩) bw).trans p0,(bg.cell (p:=⟨b',u*2+1,none⟩) bw).trans p1⟩))
           (first|(go_at_call 65;refine(eh _ dh aE ae ai).mono ?_;rintro e7 w7 ⟨rfl,h7,bg⟩))
          have fj:Below w5.1.size w5 w5:=aG _ _;clear eh dh ae ai au av p0 p1 fj;have dt:Below wi.1.size wi w7:=V.drew.trans bg;replace U:=fg.be dt;replace aw:=fh.be dt;go_wp2_with fail;have bj:=AB wi.1.size w7.1.size (KB+K+1) _ _ w7 h7 (by unfold aJ at ad;unfold aJ;omega);refine bj.mono ?_;rintro e8 w8 ⟨v8,rfl,h8,bh⟩;obtain⟨s8,A8,k8,c8,rfl⟩:=h8.form;replace U:=U.be bh;replace aw:=aw.be bh;obtain⟨s9,B9,l9,d9,g0,g1, -⟩:=U.S.at_ (aR ah);have f0:=U.S.free (j*2);have f1:=U.S.free (j*2+1);clear bj;go_wp2_with fail;have O:=(U.S.stored ah h8).2;have zT:=aw.step O (by omega);have zP:=U.setS ah h8;rw[a0.out] at zP;go_roundg k'
          case rel=>exact⟨j+1,by have:=HJ.out;unfold Hid;omega,by go_num,zP,zT⟩
          case measure=>omega
         ·have fq:¬(k:Int)<=(j:Int):=by omega
          rw[if_neg cu,Int.sub_zero] at a0;go_wp2_with fail;have bj:=AB wi.1.size w5.1.size (KB+K+1) _ _ w5 h5 (by unfold aJ at ad;unfold aJ;omega);refine bj.mono ?_;rintro e8 w8 ⟨v8,rfl,h8,bh⟩;obtain⟨s8,A8,k8,c8,rfl⟩:=h8.form;replace U:=U.be bh;replace aw:=aw.be bh;obtain⟨s9,B9,l9,d9,g0,g1, -⟩:=U.S.at_ (aR ah);have f0:=U.S.free (j*2);have f1:=U.S.free (j*2+1);clear bj;go_wp2_with fail;have O:=(U.S.stored ah h8).2;have zT:=aw.step O (by omega);have zP:=U.setS ah h8;rw[a0.out] at zP;go_roundg k'
          case rel=>exact⟨j+1,by have:=HJ.out;unfold Hid;omega,by go_num,zP,zT⟩
          case measure=>omega
