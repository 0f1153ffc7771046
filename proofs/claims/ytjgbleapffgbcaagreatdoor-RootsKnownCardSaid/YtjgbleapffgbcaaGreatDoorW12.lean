/- Laws. -/
import Derived.Test.YtjgbleapffgbcaaGreatDoorW08
set_option linter.all false
set_option maxHeartbeats 8000000
set_option maxRecDepth 99999
namespace Go.Proofs.YtjgbleapffgbcaaGreatDoor
open Go.RowKit Sos
variable{l q r v:List Int}{K a i k:Nat}
structure PQRes(xs ys:List Int)(KB:Nat)(m:Int)(q r:List Int):Prop where
 id_:∀i,m*cf xs i=conv (cf q) (cf ys) i+cf r i
 m0:m≠0
 r_lt:r.length<ys.length
 q_trim:aN q
 r_trim:aN r
 q_len:q.length<=xs.length
 pow:∃e,e<=xs.length+1-ys.length∧m=cf ys (ys.length-1)^e
 bq:∀n∈q,nl n.natAbs<=KB
 br:∀n∈r,nl n.natAbs<=KB
 bm:nl m.natAbs<=KB
def gT(x y:Int)(a b:Nat)(c:nl x.natAbs<=a)(d:nl y.natAbs<=b):nl (x*y).natAbs<=a+b:=by
 rw[fL];have:=fI x.natAbs y.natAbs;omega
def wX(x y:Int)(a:Nat)(d:nl x.natAbs<=a)(e:nl y.natAbs<=a):nl (x+y).natAbs<=a+1:=by
 have b:=cK (bz2 x y);have c:=rK x.natAbs y.natAbs;omega
def IV(x y:Int)(a:Nat)(b:nl x.natAbs<=a)(c:nl y.natAbs<=a):nl (x-y).natAbs<=a+1:=by
 rw[Int.sub_eq_add_neg];exact wX _ _ _ b (by rw[azJ];exact c)
def iU(h:∀n∈l,nl n.natAbs<=K)(i:Nat):nl (cf l i).natAbs<=K:=by
 by_cases a:i<l.length
 ·rw[fZ a];exact h _ (aq0 a)
 ·rw[bV (by omega)];simp[dO]
def UE{b lead:Int}{m:Nat}(d:∀n∈r,nl n.natAbs<=a)(hv:∀n∈v,nl n.natAbs<=K)(e:nl b.natAbs<=a)(c:nl lead.natAbs<=K):∀n∈kZ r v b lead k m,nl n.natAbs<=a+K+1:=by
 intro n hn;unfold kZ at hn;obtain⟨i,_,rfl⟩:=List.mem_map.1 hn;refine IV _ _ _ (gT _ _ _ _ (iU d i) c) ?_;split
 ·exact gT _ _ _ _ e (iU hv _)
 ·simp[dO]
def UF{d lead:Int}(c:∀n∈q,nl n.natAbs<=a)(f:nl d.natAbs<=a)(b:nl lead.natAbs<=K):∀n∈nZ q d lead k,nl n.natAbs<=a+K+1:=by
 intro n hn;unfold nZ at hn;rcases bz8 hn with h|rfl
 ·obtain⟨x,e,rfl⟩:=List.mem_map.1 h;have:=gT x lead _ _ (c x e) b;omega
 ·exact wX _ _ _ (gT _ _ _ _ (iU c k) b) (by omega)
def wY{x y:Int}{b:Nat}(e:nl x.natAbs<=a)(f:nl y.natAbs<=b):x.natAbs*y.natAbs<=BN^(a+b):=by
 have c:x.natAbs<=BN^a:=iE (aZ (cyD _) (cO (by decide) e));have d:y.natAbs<=BN^b:=iE (aZ (cyD _) (cO (by decide) f));rw[KF];exact aqK c d
def IW(w:World):(w.alloc (.cells #[] 60)).ownsRow w.1.size 60 2 (.slice (some ⟨w.1.size,0,none⟩) 0 0) 0 []:=
 ⟨rfl,.inr ⟨w.1.size,0,#[],rfl,aE,Bx.new w [] 60,aE,dC _,rfl,rfl⟩⟩
def Src.be{w W:World}{A:Option Addr}{cs:List Value}(h:Src w A cs)(d:Below w.1.size w W):Src W A cs:=by
 rcases h with h|⟨b,c,e,h⟩
 ·exact .inl h
 ·refine .inr ⟨b,c,e,fun i v hv=> ?_⟩;have a:=h i v hv;exact(d.cell (p:=⟨b,c+i,none⟩) (block_lt_of_cell a)).trans a
def UG(r v:List Int)(a lead:Int)(k m:Nat)(h:i<m):(kZ r v a lead k m)[i]? =some (cf r i*lead-(if k<=i then a*cf v (i-k) else 0)):=by
 unfold kZ;rw[iK,byN h];rfl
def UH(r v:List Int)(a lead:Int)(k m:Nat):(kZ r v a lead k m).length=m:=by unfold kZ;rw[cH,bxZ]
def IX{P x y:Nat}(b:x<=P)(c:y<=P)(a:0<P):0+x<P*BN∧0+x+y<P*BN:=by
 have:P*3<=P*BN:=eV _ (by decide);omega
def bd(K t:Nat):Nat:=K+t*(K+1)
def UI(K t:Nat):bd K (t+1)=bd K t+K+1:=by unfold bd;rw[aq2];omega
def o5(K t n:Nat)(h:t<=n):bd K t<=bd K n:=by unfold bd;have:=dK (K+1) h;omega
def UJ(w:World)(xs ys:List Int)(K N b c d g f:Nat)(a:Int)(k:Nat)(j h:Value)(wr:World):Prop:=
 ∃m q r e,h= .int .i64 ((k:Int)-1)∧j= .slice (some ⟨g,0,none⟩) r.length f∧Hid (r.length+1=ys.length+k)∧Hid (q.length=N)∧PQ w wr b c d g m a q r∧Hid (∀i,m*cf xs i=conv (cf q) (cf ys) i+cf r i)∧
  Hid (m=a^e)∧e+k<=N∧(∀n∈q,nl n.natAbs<=bd K (N-k))∧(∀n∈r,nl n.natAbs<=bd K (N-k))∧nl m.natAbs<=bd K (N-k)
def wZ(w:World)(xs ys:List Int)(d:Nat)(e:Ending)(w':World):Prop:=
 ∃b c a q r m,e= .returned (.tuple #[b,c,a])∧WholeAt w' b q∧WholeAt w' c r∧IntAt w' a m∧PQRes xs ys d m q r∧Below w.1.size w w'
def BU(xs ys:List Int)(vx vy:Value)(w:World)(hx:WholeAt w vx xs)(hy:WholeAt w vy ys)(b6:ys≠[])(fx:aN xs)(fy:aN ys)(K F:Nat)(cn:∀n∈xs,nl n.natAbs<=K)(bs:∀n∈ys,nl n.natAbs<=K)
  (ge:1<=K)(fg:K+(xs.length+1-ys.length)*(K+1)<=F)(ae:F+K+8<=aJ)(gr:xs.length<=1073741824)(gs:ys.length<=1073741824):
  Calls Tryz.prog 139 #[vx,vy] w (wZ w xs ys F):=by
 obtain⟨A,c,rfl,hc⟩:=hx.form;obtain⟨A',c',rfl,gi⟩:=hy.form;have f3:ys.length≠0:=fun e=>b6 (bX e);have q1:((ys.length:Int)==0)=false:=by simp;omega
 have dj:K<=F:=by
  exact aH (byR _ _) fg
 have R:Bx (w.alloc (.cells #[.bool false,.slice none 0 0] 60)) (w.1.size) [.bool false,.slice none 0 0] 60:=Bx.newAt w [.bool false,.slice none 0 0] 60 (w.1.size) (by simp);have C:Below w.1.size w (w.alloc (.cells #[.bool false,.slice none 0 0] 60)):=(aG _ _).alloc (by simp) _;go_enter Tryz.func139,Tryz.ntmps139;go_wp2_with fail;generalize w.alloc (.cells #[.bool false,.slice none 0 0] 60)=W at *;refine(lL 1 _ (by decide) (by decide)).mono ?_;rintro e1 D ⟨v1,rfl,G,cp⟩;obtain⟨s1,Z,k1,c1,rfl⟩:=G.form;replace R:=R.be cp;replace am:=R.cell 0 rfl;replace ar:=R.free 0;replace an:=R.cell 1 rfl;replace au:=R.free 1;replace hk:=Keep.be cp;replace C:=aC C cp;by_cases d4:xs.length<ys.length
 ·have ft:(xs.length:Int)<(ys.length:Int):=by omega
  have b2:PQRes xs ys F 1 [] xs:=by
   refine⟨fun i=> ?_,by decide,d4,(fun a h=>by simp at h),fx,dC _,⟨0,dC _,by rw[Int.pow_zero]⟩,(fun n h=>by cases h),(fun n h=>aH (cn n h) dj),?_⟩
   ·rw[az5,lK (fun i=>eR i)];show _=0+_
    omega
   ·rw[show nl (1:Int).natAbs=1 from mJ (by decide) (by decide)];omega
  have HR:=aB b2;have f7:∀t:Obj,(D.alloc t).cell? ⟨w.1.size,0,none⟩=some (.bool false):=fun t=>(R.alloc t).cell 0 rfl;have f9:∀t:Obj,(D.alloc t).frozen? ⟨w.1.size,0,none⟩=false:=fun t=>(R.alloc t).free 0;have f8:∀t:Obj,(D.alloc t).cell? ⟨w.1.size,1,none⟩=some (.slice none 0 0):=fun t=>(R.alloc t).cell 1 rfl;have ga:∀t:Obj,(D.alloc t).frozen? ⟨w.1.size,1,none⟩=false:=fun t=>(R.alloc t).free 1;go_wp2_with fail;have cc:=R.lt;have fv:=C.size;replace R:=R.alloc (.cells #[.bool s1,.slice Z k1 c1] 60);have M:=Bx.newAt D [.bool s1,.slice Z k1 c1] 60 (D.1.size) (by simp);replace C:=C.alloc C.size (.cells #[.bool s1,.slice Z k1 c1] 60);replace hk:=Keep.alloc D (.cells #[.bool s1,.slice Z k1 c1] 60);replace G:=G.ke hk;generalize D.alloc (.cells #[.bool s1,.slice Z k1 c1] 60)=w2 at *;replace am:=R.cell 0 rfl;replace ar:=R.free 0;replace an:=R.cell 1 rfl;replace au:=R.free 1;replace ac:=M.cell 0 rfl;replace a2:=M.free 0;replace ad:=M.cell 1 rfl;replace a3:=M.free 1;have g4:=hx.be C;go_region
  all_goals (
   go_wp2_with fail;have gb:=R.lt;have f6:=M.lt;have g2:=C.size;replace M:=(M.far 0 (.bool s1) (show w.1.size≠D.1.size by omega)).far 1 (.slice Z k1 c1) (show w.1.size≠D.1.size by omega);replace hk:=jU (s:=s1) (u:= .slice Z k1 c1) C (by omega) R;clear R C;obtain⟨-, -,R,C,hk⟩:=hk;replace G:=G.ke hk;generalize (w2.setCell ⟨w.1.size,0,none⟩ (.bool s1)).setCell ⟨w.1.size,1,none⟩ (.slice Z k1 c1)=W6 at *;replace am:=R.cell 0 rfl;replace an:=R.cell 1 rfl;replace ac:=M.cell 0 rfl;replace ad:=M.cell 1 rfl;exact aM (v:= .tuple #[.slice none 0 0,.slice A xs.length c,.agg #[.bool s1,.slice Z k1 c1]]) (by simp[results,Tryz.results139,go_sem,am,an]) rfl ⟨_,_,_,[],xs,1,rfl,WholeAt.nil _ _ _,hx.be C.drew,G.drew,HR.out,C.drew⟩)
 ·have ft:¬(xs.length:Int)<(ys.length:Int):=by omega
  have d3:cf ys (ys.length-1)≠0:=by
   obtain⟨a,ha⟩:∃a,ys.getLast?=some a:=⟨_,byP b6⟩;rw[vJ ha];exact fy a ha
  have az:=iU bs (ys.length-1);obtain⟨N,hN⟩:∃N,N=xs.length-ys.length+1:=⟨_,rfl⟩;have gg:(xs.length:Int)-ys.length+1=(N:Int):=by omega
  have gf:N+ys.length=xs.length+1:=by omega
  clear hN;go_wp2_with fail;have cc:=R.lt;have fv:=C.size;replace R:=R.alloc (.cells #[.bool s1,.slice Z k1 c1] 60);have M:=Bx.newAt D [.bool s1,.slice Z k1 c1] 60 (D.1.size) (by simp);replace C:=C.alloc C.size (.cells #[.bool s1,.slice Z k1 c1] 60);replace hk:=Keep.alloc D (.cells #[.bool s1,.slice Z k1 c1] 60);replace G:=G.ke hk;generalize D.alloc (.cells #[.bool s1,.slice Z k1 c1] 60)=w2 at *;replace am:=R.cell 0 rfl;replace ar:=R.free 0;replace an:=R.cell 1 rfl;replace au:=R.free 1;replace ac:=M.cell 0 rfl;replace a2:=M.free 0;replace ad:=M.cell 1 rfl;replace a3:=M.free 1;refine(wS ys _ _ (hy.be C) b6 (by omega)).mono ?_;rintro e3 z ⟨v3,rfl,h3,bt⟩;obtain⟨s3,A3,k3,c3,rfl⟩:=h3.form;replace R:=R.be bt;replace am:=R.cell 0 rfl;replace ar:=R.free 0;replace an:=R.cell 1 rfl;replace au:=R.free 1;replace M:=M.be bt;replace ac:=M.cell 0 rfl;replace a2:=M.free 0;replace ad:=M.cell 1 rfl;replace a3:=M.free 1;replace hk:=Keep.be bt;replace G:=G.ke hk;replace C:=aC C bt;generalize d2:cf ys (ys.length-1)=f at *;have c6:=aB d2;clear d2;have f2:xs≠[]:=fun e=>d4 (by rw[e];exact bzI f3);have gh:0<N:=by omega
  obtain⟨f5,ba,fu,cy,ei,d0,d8⟩:=(hx.be C).rows f2;clear fu
  go_wp2_with (first
   |(at_make;refine jT rfl rfl 60 _ 2 32 Tryz.underlying64 p6 rfl (by decide) N rfl rfl (by first|rfl|omega) (by first|rfl|omega) (by omega) (by omega) ?_;intro w4 ep eg bg)
   |(at_builtin;refine gM rfl rfl 60 _ 2 32 Tryz.underlying64 p6 rfl (by decide) w4.1.size (.slice (some ⟨w4.1.size,0,none⟩) 0 0) 0 [] rfl (IW w4) f5.flatten rfl (by rw[mX cy,ba]) (ei.be ((((aG _ _).alloc aE _).trans (bg.mono (by simp))).alloc (aH (by simp) bg.size) _)) d8 (by omega) (by omega) (by simp) ?_;intro v5 w5 cx a8 fk))
  have bu:Below w4.1.size w4 w5:=⟨a8.os,a8.tape,a8.output,aH (by simp) a8.size,fun k hk=>(a8.block k (by simp;omega) (fun e=>by simp[Value.ownBlock] at e;omega)).trans (Below.heap_alloc w4 _ k hk)⟩;have cq:Below z.1.size z w4:=((aG _ _).alloc aE _).trans (bg.mono (by simp));have ay:Below z.1.size z w5:=aC cq bu;rw[bA,iM] at cx;obtain⟨g,bc,rfl,gm,gn,gj,gl,hS⟩:=I9 cx cy ba rfl (by omega) (d0.ke (Keep.be ay));have dm:PQ w w5 D.1.size z.1.size (z.1.size+1) g 1 f (List.replicate N 0) xs:=by
   refine⟨R.be ay,⟨_,_,_,_,M.be ay,G.be ay⟩,⟨_,_,_,_,((Bx.new z [.bool s3,.slice A3 k3 c3] 60).be bg).be bu,h3.be ay⟩,?_,hS,aC C ay,cc,?_,aqC _,?_⟩
   ·have:=OwnW.made eg;rw[World.size_alloc] at this;exact this.be bu
   ·exact M.lt
   ·have:=ep;simp at this;omega
  have a5:=cc;clear bg eg ep a8 fk cx cq ay bu hS ei d0 d8 cy ba R M G h3 hk am an ar au ac ad a2 a3 C;have bv:bd K N<=F:=by
   have G:=o5 K N (xs.length+1-ys.length) (by omega);have H:bd K (xs.length+1-ys.length)=K+(xs.length+1-ys.length)*(K+1):=rfl;omega
  go_loopg [10,11] N (fun k rv kv wr=>UJ w xs ys K N D.1.size z.1.size (z.1.size+1) g bc f k rv kv wr)
  case atStart=>
   refine⟨1,List.replicate N 0,xs,0,rfl,rfl,by unfold Hid;omega,by unfold Hid;simp,dm,fun i=> ?_,by unfold Hid;rw[Int.pow_zero],by omega,fun n hn=> ?_,fun n hn=> ?_,?_⟩
   ·rw[az5,lK (fun i=>by unfold cf;rw[eE,j6];split<;>rfl)];show _=0+_
    omega
   ·rw[byK hn];simp[dO]
   ·exact aH (cn n hn) (by unfold bd;omega)
   ·rw[show nl (1:Int).natAbs=1 from mJ (by decide) (by decide)];unfold bd;omega
  case round=>
   clear dm;obtain⟨m,q,r,e,rfl,rfl,c9,al,U,b8,bo,fn,bq,br,bm⟩:=hrel;generalize wr=wh at *;cases gk with
   |zero=>
    have ba:r.length<ys.length:=by have:=c9.out;omega
    have cd:∀n∈q,nl n.natAbs<=F:=fun n hn=>aH (bq n hn) (by rw[byA];exact bv);have cg:∀n∈r,nl n.natAbs<=F:=fun n hn=>aH (br n hn) (by rw[byA];exact bv);have dc:nl m.natAbs<=F:=aH bm (by rw[byA];exact bv);have b2:PQRes xs ys F m (aW aV q) (aW aV r):=by
     refine⟨fun i=> ?_,?_,jI (oY aV r) ba,jS q,jS r,?_,⟨e,by omega,by rw[c6.out];exact bo.out⟩,fun n hn=>cd n (rC hn),fun n hn=>cg n (rC hn),dc⟩
     ·rw[b8.out i,iS];congr 1;exact gL (fun j=>(iS q j).symm) (fun _=>rfl) i
     ·rw[bo.out];exact Int.pow_ne_zero d3
     ·have G:=oY aV q;have H:=al.out;omega
    have eu:=aB b2;clear b2;obtain⟨sm,Am,km,cm,M,hm⟩:=U.M;have R:=U.R;have ah:=U.hb;have hQ:=U.Q.whole N (by rw[al.out];exact aE);have hS:=U.S.whole bc (by omega);have ed:=al.out;have o2:=U.o2;have o3:=U.o3;have o4:=U.o4;have ek:=fun W h=>sP q (some ⟨z.1.size+1,0,none⟩) N W h F cd (by unfold aJ at ae;omega) (by omega);have fw:=fun W h=>sP r (some ⟨g,0,none⟩) bc W h F cg (by unfold aJ at ae;omega) (by omega);rw[ed] at ek hQ;clear ed bq br bm cd cg dc ba cn bs dj d3 az fn U;generalize aW aV q=Q1 at *;generalize aW aV r=R1 at *;replace M:=M.drew;replace R:=R.drew;replace ah:=ah.drew;replace hQ:=hQ.drew;replace hS:=hS.drew;replace hm:=hm.drew;have b7:w.1.size≠D.1.size:=by omega
    replace am:=R.cell 0 rfl;replace ar:=R.free 0;replace an:=R.cell 1 rfl;replace au:=R.free 1;replace ac:=M.cell 0 rfl;replace a2:=M.free 0;replace ad:=M.cell 1 rfl;replace a3:=M.free 1;go_wp2_with fail
    go_region_held3 (fun w'=>w'.cell? ⟨D.1.size,0,none⟩=some (.bool sm)∧w'.cell? ⟨D.1.size,1,none⟩=some (.slice Am km cm))
     (first|(with_reducible exact⟨ac,ad⟩)|(with_reducible exact⟨(aL _ _ _ _ _ _ b7).trans ((aL _ _ _ _ _ _ b7).trans ac),(aL _ _ _ _ _ _ b7).trans ((aL _ _ _ _ _ _ b7).trans ad)⟩))
     (first
      |(go_at_call 128;(with_reducible refine(ek _ hQ).mono ?_);rintro e6 w6 ⟨rfl,h6,X⟩;replace hS:=hS.be X;replace hm:=hm.be X;replace R:=R.be X;replace M:=M.be X;replace ac:=M.cell 0 rfl;replace ad:=M.cell 1 rfl;replace am:=R.cell 0 rfl;replace an:=R.cell 1 rfl;replace ar:=R.free 0;replace au:=R.free 1;replace ah:=aC ah X)
      |(go_at_call 128;(with_reducible refine(fw _ hS).mono ?_);rintro e7 w7 ⟨rfl,h7,a5⟩;replace h6:=h6.be a5;replace hm:=hm.be a5;replace R:=R.be a5;replace M:=M.be a5;replace ac:=M.cell 0 rfl;replace ad:=M.cell 1 rfl;replace am:=R.cell 0 rfl;replace an:=R.cell 1 rfl;replace ar:=R.free 0;replace au:=R.free 1;replace ah:=aC ah a5))
    go_wp2_with fail;obtain⟨⟨s8,A8,k8,c8,R8, -⟩,P⟩:=IntBx.stored (w:=w7) (b:=w.1.size) (m:=0) ⟨_,_,_,_,R,IntAt.zero _⟩ hm;have z6:=h6.step P (fun b e=>by injection e with e;injection e with e;omega);have z7:=h7.step P (fun b e=>by injection e with e;injection e with e;omega);have zm:=hm.ke P.1;have zb:=jD ah P aE;obtain⟨z0,z1, -, -, -⟩:=jU (s:=sm) (u:= .slice Am km cm) ah aE R;clear R8 P;generalize (w7.setCell ⟨w.1.size,0,none⟩ (.bool sm)).setCell ⟨w.1.size,1,none⟩ (.slice Am km cm)=W6 at *;exact aM (v:= .tuple #[.slice (some ⟨z.1.size+1,0,none⟩) Q1.length N,.slice (some ⟨g,0,none⟩) R1.length bc,.agg #[.bool sm,.slice Am km cm]]) (by simp[results,Tryz.results139,go_sem,z0,z1]) rfl ⟨_,_,_,Q1,R1,m,rfl,z6,z7,zm,eu.out,zb⟩
   |succ k=>
    obtain⟨p,hp⟩:∃p,p=ys.length-1+k:=⟨_,rfl⟩;have gz:(ys.length:Int)-1+k=(p:Int):=by omega
    have bb:=aB hp;have c0:r.length=p+1:=by have:=c9.out;omega
    have da:=aB c0;have ea:p<r.length:=by omega
    have gv:(p:Int)<(r.length:Int):=by omega
    have gw:p<=bc:=by omega
    have gx:(0:Int)<=(p:Int):=by omega
    have gy:(p:Int)<=(r.length:Int):=by omega
    have fr:k<N:=by omega
    have gp:(0:Int)<=(k:Int):=by omega
    have e1:N-k=(N-(k+1))+1:=by omega
    have dt:bd K (N-k)=bd K (N-(k+1))+K+1:=by rw[e1,UI]
    have c5:=aB dt;have bw:bd K (N-k)<=F:=aH (o5 K _ N (by omega)) bv;obtain⟨st,At,kt,ct,g0,g1,ak⟩:=U.S.at_ (aR ea);have dv:r[p]=cf r p:=(fZ ea).symm;rw[dv] at ak;have ci:=iU br p;have hcut:=U.cut p;obtain⟨sl,Al,kl,cl,L,O⟩:=U.L;have eh:=fun h0=>T6 (n:=p) h0 c0 b8.out;have db:=aB eh;clear hp c0 e1 dt dv eh;have ew:∀t:Obj,(wh.alloc t).cell? ⟨z.1.size,0,none⟩=some (.bool sl):=fun t=>(L.alloc t).cell 0 rfl;have ey:∀t:Obj,(wh.alloc t).frozen? ⟨z.1.size,0,none⟩=false:=fun t=>(L.alloc t).free 0;have ex:∀t:Obj,(wh.alloc t).cell? ⟨z.1.size,1,none⟩=some (.slice Al kl cl):=fun t=>(L.alloc t).cell 1 rfl;have e0:∀t:Obj,(wh.alloc t).frozen? ⟨z.1.size,1,none⟩=false:=fun t=>(L.alloc t).free 1;go_wp2_with fail;have a6:Below wh.1.size wh (wh.alloc (.cells #[.bool st,.slice At kt ct] 60)):=(aG _ _).alloc aE _;have fo:=U.S.lt;have T:=Bx.new wh [.bool st,.slice At kt ct] 60;have o:=U.be a6;replace hcut:=hcut.be a6;replace ak:=ak.be a6;replace L:=L.be a6;replace O:=O.be a6;obtain⟨gt,dx⟩:∃gt,wh.1.size=gt:=⟨_,rfl⟩;rw[dx] at T fo⊢;clear U a6 g0 g1 dx ew ex ey e0;generalize wh.alloc (.cells #[.bool st,.slice At kt ct] 60)=wa at *;refine(g9 _ _ _ ak (by unfold aJ at ae;have:=o5 K (N-(k+1)) (N-k) (by omega);omega)).mono ?_;rintro ez wz ⟨rfl,a7⟩;replace T:=T.be a7;replace o:=o.be a7;replace hcut:=hcut.be a7;replace ak:=ak.be a7;replace L:=L.be a7;replace O:=O.be a7;by_cases h0:cf r p=0
    ·have hd:decide (cf r p=0)=true:=by simpa using h0
     have aj:=db.out h0;rw[hd];have er:=aB aj;clear hd aj;go_wp2;go_roundg k
     case rel=>
      refine⟨m,q,r.take p,e,by go_num,?_,?_,al,hcut,er,bo,by omega,fun n hn=> ?_,fun n hn=> ?_,?_⟩
      ·rw[bK,y8 (by omega)]
      ·unfold Hid;rw[bK,y8 (by omega),bb.out];omega
      ·exact aH (bq n hn) (o5 K _ _ (by omega))
      ·exact aH (br n (lH hn)) (o5 K _ _ (by omega))
      ·exact aH bm (o5 K _ _ (by omega))
     case measure=>omega
    ·have hd:decide (cf r p=0)=false:=by simpa using h0
     rw[hd];clear hd db hcut;have av:=T.cell 0 rfl;have aw:=T.cell 1 rfl;have ao:=L.cell 0 rfl;have ap:=L.cell 1 rfl;go_wp2_with fail;refine(n6 _ _ _ O (by unfold aJ at ae;omega)).mono ?_;rintro eo wo ⟨rfl,cr⟩;replace T:=T.be cr;replace o:=o.be cr;replace ak:=ak.be cr;have E:IntBx wo gt (cf r p):=⟨_,_,_,_,T,ak⟩;have gc:nl m.natAbs<=F:=aH bm (aH (o5 K _ (N-k) (by omega)) bw);have de:∀n∈q,nl n.natAbs<=F:=fun n hn=>aH (bq n hn) (aH (o5 K _ (N-k) (by omega)) bw);clear T av aw L ao ap O ak;go_upto_if 67 with fail;go_cut [] (fun wx=>PQ w wx D.1.size z.1.size (z.1.size+1) g (m*f) f (q.map (·*f)) r∧IntBx wx gt (cf r p))
     case first=>
      by_cases bj:f=1
      ·have hd:decide (f=1)=true:=by simpa using bj
       have em:m*f=m:=by rw[bj,bx7]
       have eq:q.map (·*f)=q:=by
        rw[bj];exact(by3 (fun a _=>bx7 a)).trans (List.map_id q)
       rw[hd];have HE:=aB (And.intro em eq);clear hd em eq bj;go_wp2;go_meet;rw[HE.out.1,HE.out.2];exact⟨o,E⟩
      ·have hd:decide (f=1)=false:=by simpa using bj
       rw[hd];clear hd;obtain⟨sm,Am,km,cm,M,hm⟩:=o.M;obtain⟨sl,Al,kl,cl,L,O⟩:=o.L;have ac:=M.cell 0 rfl;have ad:=M.cell 1 rfl;have ao:=L.cell 0 rfl;have ap:=L.cell 1 rfl;have cw:=fun W v u G H=>jB m f v u W G H (by unfold aJ at ae;omega);unfold dW at cw;generalize gu:m*f=ml at *;go_wp2_with fail;refine(cw _ _ _ hm O).mono ?_;rintro e2 w2 ⟨v2,rfl,H,ag⟩;obtain⟨s2,A2,k2,c2,rfl⟩:=H.form;replace o:=o.be ag;replace E:=E.be ag;replace M:=M.be ag;replace ac:=M.cell 0 rfl;replace ad:=M.cell 1 rfl;have a2:=M.free 0;have a3:=M.free 1;clear cw;go_wp2_with fail;have P:=(IntBx.stored (m:=m) ⟨_,_,_,_,M,hm.be ag⟩ H).2;have o2:=o.o2;have o3:=o.o3;have o4:=o.o4;replace E:=E.step P (by omega);replace o:=o.setM H;clear P M ac ad a2 a3 L ao ap O hm H;generalize (w2.setCell ⟨D.1.size,0,none⟩ (.bool s2)).setCell ⟨D.1.size,1,none⟩ (.slice A2 k2 c2)=wm at *;have ef:q.length=(q.map (·*f)).length:=(cH _).symm;have bp:=aB ef;clear ef;go_loopg [73] N (fun k' i wx=>∃j,Hid (j+k'=N)∧i= .int .i64 j∧PQ w wx D.1.size z.1.size (z.1.size+1) g ml f ((q.map (·*f)).take j++q.drop j) r∧IntBx wx gt (cf r p))
       case atStart=>exact⟨0,by unfold Hid;omega,rfl,by simpa using o,E⟩
       case round=>
        clear o E;obtain⟨j,HJ,rfl,o,E⟩:=hrel;generalize wr=wx at *;have fp:(0:Int)<=(j:Int):=by omega
        cases gk with
        |zero=>
         have hj:j=N:=HJ.out;subst hj;go_wp2;go_meet;rw[cZ (by rw[<-bp.out,al.out];exact aE),gO (by rw[al.out];exact aE),fH] at o;exact⟨o,E⟩
        |succ k'=>
         have a9:j<q.length:=by have:=HJ.out;rw[al.out];omega
         have fq:(j:Int)<(N:Int):=by have:=HJ.out;omega
         have a0:=IB (ys:=q.map (·*f)) a9 bp.out;have el:=IC (j:=j) bp.out;have bn:=IA (xs:=q) (ys:=q.map (·*f)) (y:=q[j]*f) (j:=j) (by rw[iK,aR a9];rfl) bp.out;rw[aR a9] at a0;have gd:=de _ (aq0 a9);have ai:j<((q.map (·*f)).take j++q.drop j).length:=by rw[el];exact a9
         generalize q[j]=x at *;obtain⟨s,B,l,d,g0,g1,hi⟩:=o.Q.at_ a0;obtain⟨sl,Al,kl,cl,L,O⟩:=o.L;have ao:=L.cell 0 rfl;have ap:=L.cell 1 rfl;have f0:=o.Q.free (j*2);have f1:=o.Q.free (j*2+1);have I:=o.drew;have af:=E.be (aG _ _).drew;have aj:=hi.drew;have fh:=O.drew;have a1:=aB bn;clear a0 el bn a9 o E hi O L;go_wp2_with fail
         go_region_with (first
          |(go_at_call 34;refine(jB x f _ _ _ aj fh (by unfold aJ at ae;omega)).mono ?_;rintro e2 w2 ⟨v2,rfl,H,ag⟩;obtain⟨s2,A2,k2,c2,rfl⟩:=H.form;replace I:=I.be ag;replace af:=af.be ag;obtain⟨s',B',l',d',fd,fe, -⟩:=I.Q.at_ (aR ai);have fb:=I.Q.free (j*2);have fc:=I.Q.free (j*2+1)))
         all_goals (
          go_wp2_with fail;have P:=(I.Q.stored ai H).2;have o4:=I.o4;have zT:=af.step P (by omega);have zP:=I.setQ ai H;rw[a1.out] at zP;go_roundg k'
          case rel=>exact⟨j+1,by have:=HJ.out;unfold Hid;omega,by go_num,zP,zT⟩
          case measure=>omega)
     case rest=>
      clear o E;obtain⟨o,E⟩:=hcut;generalize en:cf r p=J at *;have ev:=aB en;have b1:k<q.length:=by rw[al.out];exact fr
      have gq:(k:Int)<(N:Int):=by omega
      have b0:k<(q.map (·*f)).length:=by rw[cH];exact b1
      have dw:(q.map (·*f))[k]? =some (cf q k*f):=by rw[iK,aR b1,fZ b1];rfl
      have ee:(q.map (·*f)).set k (cf q k*f+J)=nZ q J f k:=rfl;have df:=iU de k;have e9:nl J.natAbs<=F:=aH ci (aH (o5 K _ (N-k) (by omega)) bw);have e4:=gT (cf q k) f _ _ df az;generalize cf q k*f=qk at *;obtain⟨s,B,l,d,g0,g1,hi⟩:=o.Q.at_ dw;obtain⟨st,At,kt,ct,T,hT⟩:=id E;have av:=T.cell 0 rfl;have aw:=T.cell 1 rfl;have f0:=o.Q.free (k*2);have f1:=o.Q.free (k*2+1);have I:=o.drew;have af:=E.be (aG _ _).drew;have aj:=hi.drew;have ds:=hT.drew;have c7:=aB ee;clear dw ee en o E hi hT T df;go_upto_region 20 with fail;go_cut [] (fun wx=>PQ w wx D.1.size z.1.size (z.1.size+1) g (m*f) f (nZ q J f k) r∧IntBx wx gt J)
      case first=>
       go_region_with (first
        |(go_at_call 109;refine(rJ qk J _ _ _ aj ds (by unfold aJ at ae;omega) (by unfold aJ at ae;omega)).mono ?_;rintro e2 w2 ⟨v2,rfl,H,ag⟩;obtain⟨s2,A2,k2,c2,rfl⟩:=H.form;replace I:=I.be ag;replace af:=af.be ag;obtain⟨s',B',l',d',fd,fe, -⟩:=I.Q.at_ (aR b0);have fb:=I.Q.free (k*2);have fc:=I.Q.free (k*2+1)))
       all_goals (
        go_wp2_with fail;have P:=(I.Q.stored b0 H).2;have o4:=I.o4;have zT:=af.step P (by omega);have zP:=I.setQ b0 H;rw[c7.out] at zP;go_meet;exact⟨zP,zT⟩)
      case rest=>
       clear I af aj ds av aw g0 g1 f0 f1 e4 c7 b0;obtain⟨o,E⟩:=hcut;have dp:r.length=p+1:=da.out;have c4:(r.take p).length=p:=by rw[bK];omega
       have cb:=aB c4;have cz:=UH r ys J f k p;have ca:=aB (c4.trans cz.symm);have b9:=aB cz;have go:=o.S.lt;replace o:=o.cut p;have ce:=UF (k:=k) bq ci az;have ch:=UE (k:=k) (m:=p) br bs ci az;rw[<-c5.out] at ce ch;have cu:=eyX (k:=k) (lead:=f) b6 (by rw[dp,bb.out];omega) b1 (c6.out.symm) b8.out;rw[<-bb.out,ev.out] at cu;have es:=aB cu;have d6:=gT m f _ _ bm az;have BF:=aB (And.intro ce (And.intro ch d6));clear c4 cz dp ce ch cu d6;have dn:(nZ q J f k).length=q.length:=by unfold nZ;rw[eM,cH]
       generalize nZ q J f k=Q2 at *;have et:=aB dn;clear dn;go_wp2_with fail;go_loopg [97] p (fun k' i wx=>∃j,Hid (j+k'=p)∧i= .int .i64 j∧PQ w wx D.1.size z.1.size (z.1.size+1) g (m*f) f Q2 ((kZ r ys J f k p).take j++(r.take p).drop j)∧IntBx wx gt J)
       case atStart=>exact⟨0,by unfold Hid;omega,rfl,by simpa using o,E⟩
       case round=>
        clear o E;obtain⟨j,HJ,rfl,o,E⟩:=hrel;generalize wr=wi at *;have fp:(0:Int)<=(j:Int):=by omega
        cases gk with
        |zero=>
         have hj:j=p:=HJ.out;subst hj;go_wp2;go_roundg k
         case rel=>
          rw[cZ (by rw[b9.out];exact aE),gO (by rw[cb.out];exact aE),fH] at o;refine⟨m*f,Q2,kZ r ys J f k j,e+1,by go_num,by rw[b9.out],?_,?_,o,es,?_,by omega,BF.out.1,BF.out.2.1,?_⟩
          ·unfold Hid;rw[b9.out,bb.out];omega
          ·unfold Hid;rw[et.out];exact al.out
          ·unfold Hid;rw[bo.out,gR]
          ·have:=BF.out.2.2;rw[c5.out];omega
         case measure=>omega
        |succ k'=>
         have bz:j<p:=by have:=HJ.out;omega
         have fq:(j:Int)<(p:Int):=by omega
         have a0:=IB (ys:=kZ r ys J f k p) (show j<(r.take p).length by rw[cb.out];exact bz) ca.out;have bn:=IA (xs:=r.take p) (ys:=kZ r ys J f k p) (j:=j) (UG r ys J f k p bz) ca.out;have ai:j<((kZ r ys J f k p).take j++(r.take p).drop j).length:=by rw[IC ca.out,cb.out];exact bz
         have d1:j<r.length:=by have:=da.out;omega
         rw[fC,if_pos bz,aR d1,<-fZ d1] at a0;have dh:nl (cf r j).natAbs<=F:=aH (iU br j) (aH (o5 K _ (N-k) (by omega)) bw);have f4:k<=j->j-k<ys.length:=fun h=>by have:=bb.out;omega
         generalize cf r j=x at *;have a1:=aB bn;clear bn;generalize (kZ r ys J f k p).take j++(r.take p).drop j=RJ at *;obtain⟨s,B,l,d,g0,g1,hi⟩:=o.S.at_ a0;obtain⟨sl,Al,kl,cl,L,O⟩:=o.L;obtain⟨st,At,kt,ct,T,hT⟩:=id E;have fm:=o.hb;have b3:=o.S.lt;have b4:=L.lt;have b5:=T.lt;have dq:=SumAt.new wi (F+K+1);have aq:Below wi.1.size wi (wi.alloc (.cells #[.slice none 0 0,.slice none 0 0] 124)):=(aG _ _).alloc aE _;obtain⟨dl,bf⟩:=IX (wY dh az) (mC (BN^(F+K))) (d7 (by decide));have eb:=wY dh az;have co:=fun W G H h3=>vP wi.1.size (wi.1.size+1) (F+K+1) 0 0 x f s B l d sl Al kl cl W G H h3 hi.blk O.blk (by omega) (by unfold aJ at ae;unfold aJ;omega) (by rw[dH];exact dl);rw[bxA,bA] at co;have dy:=(hi.be aq).drew;have dk:=(O.be aq).drew;have dr:=dq.drew;have cj:=(aq.cell (p:=⟨g,j*2,none⟩) b3).trans g0;have ck:=(aq.cell (p:=⟨g,j*2+1,none⟩) b3).trans g1;have ao:=(aq.cell (p:=⟨z.1.size,0,none⟩) b4).trans (L.cell 0 rfl);have ap:=(aq.cell (p:=⟨z.1.size,1,none⟩) b4).trans (L.cell 1 rfl);clear a0 dl bf g0 g1 hi O dq;go_wp2_with fail;generalize wi.alloc (.cells #[.slice none 0 0,.slice none 0 0] 124)=ws at *
         go_region_held3 (fun w'=>w'.cell? ⟨g,j*2,none⟩=some (.bool s)∧w'.cell? ⟨g,j*2+1,none⟩=some (.slice B l d)∧w'.cell? ⟨z.1.size,0,none⟩=some (.bool sl)∧w'.cell? ⟨z.1.size,1,none⟩=some (.slice Al kl cl))
          (first|(exact⟨cj,ck,ao,ap⟩)|(exact⟨(a4.cell (p:=⟨g,j*2,none⟩) b3).trans cj,(a4.cell (p:=⟨g,j*2+1,none⟩) b3).trans ck,(a4.cell (p:=⟨z.1.size,0,none⟩) b4).trans ao,(a4.cell (p:=⟨z.1.size,1,none⟩) b4).trans ap⟩))
          (first|(go_at_call 79;refine(co _ dr dy dk).mono ?_;rintro e5 w5 ⟨rfl,h5,a4, -⟩))
         have X:Below wi.1.size wi w5:=aq.drew.trans a4;clear co dy dk dr cj ck ao ap aq a4 L;have V:=o.be X;have ax:=E.be X;have fi:=o;have fj:=E;clear o E;by_cases cv:k<=j
         ·have fs:(k:Int)<=(j:Int):=by omega
          obtain⟨u,hu⟩:∃u,u=j-k:=⟨_,rfl⟩;have fz:u<ys.length:=by rw[hu];exact f4 cv
          rw[if_pos cv,<-hu] at a1;obtain⟨b',s',B',l',d',ff,bx,p0,p1,cs,d5⟩:=(hy.be fm).get (i:=u) fz;subst ff;have fa:=bs _ d5;have ec:=wY e9 fa;replace p0:=(X.cell (p:=⟨b',u*2,none⟩) bx).trans p0;replace p1:=(X.cell (p:=⟨b',u*2+1,none⟩) bx).trans p1;have av:=(X.cell (p:=⟨gt,0,none⟩) b5).trans (T.cell 0 rfl);have aw:=(X.cell (p:=⟨gt,1,none⟩) b5).trans (T.cell 1 rfl);have bf:=(IX eb ec (d7 (by decide))).2;rw[bA] at bf;have ej:=fun W G h0 H h3=>OF wi.1.size w5.1.size (F+K+1) (x.natAbs*f.natAbs) (x*f) J (cf ys u) st At kt ct s' B' l' d' W G h0 H h3 hT.blk cs.blk (by omega) (by unfold aJ at ae;unfold aJ;omega) (by rw[dH];exact bf);have di:=h5.drew;have af:=(hT.be X).drew;have aj:=(cs.be X).drew;have g3:IntKind.i64.wrap ((j:Int)-k)=(j:Int)-k:=by rw[IntKind.wrap_i64];omega
          have hA:(0:Int)<=(j:Int)-k:=by omega
          have hB:(j:Int)-k<(ys.length:Int):=by omega
          have hC:((j:Int)-k).toNat=u:=by omega
          generalize cf ys u=Y at *;clear hu eb ec bf d5 cs hT T h5;go_wp2_with fail
          go_region_held3 (fun w'=>w'.cell? ⟨gt,0,none⟩=some (.bool st)∧w'.cell? ⟨gt,1,none⟩=some (.slice At kt ct)∧w'.cell? ⟨b',u*2,none⟩=some (.bool s')∧w'.cell? ⟨b',u*2+1,none⟩=some (.slice B' l' d'))
           (first|(exact⟨av,aw,p0,p1⟩)|(exact⟨(bh.cell (p:=⟨gt,0,none⟩) b5).trans av,(bh.cell (p:=⟨gt,1,none⟩) b5).trans aw,(bh.cell (p:=⟨b',u*2,none⟩) bx).trans p0,(bh.cell (p:=⟨b',u*2+1,none⟩) bx).trans p1⟩))
           (first|(go_at_call 165;refine(ej _ di aE af aj).mono ?_;rintro e7 w7 ⟨rfl,h7,bh⟩))
          have fl:Below w5.1.size w5 w5:=aG _ _;clear ej di af aj av aw p0 p1 fl;have du:Below wi.1.size wi w7:=X.drew.trans bh;replace V:=fi.be du;replace ax:=fj.be du;go_wp2_with fail;have bk:=AB wi.1.size w7.1.size (F+K+1) _ _ w7 h7 (by unfold aJ at ae;unfold aJ;omega);refine bk.mono ?_;rintro e8 w8 ⟨v8,rfl,h8,bi⟩;obtain⟨s8,A8,k8,c8,rfl⟩:=h8.form;replace V:=V.be bi;replace ax:=ax.be bi;obtain⟨s9,B9,l9,d9,g0,g1, -⟩:=V.S.at_ (aR ai);have f0:=V.S.free (j*2);have f1:=V.S.free (j*2+1);clear bk;go_wp2_with fail;have P:=(V.S.stored ai h8).2;have zT:=ax.step P (by omega);have zP:=V.setS ai h8;rw[a1.out] at zP;go_roundg k'
          case rel=>exact⟨j+1,by have:=HJ.out;unfold Hid;omega,by go_num,zP,zT⟩
          case measure=>omega
         ·have fs:¬(k:Int)<=(j:Int):=by omega
          rw[if_neg cv,Int.sub_zero] at a1;go_wp2_with fail;have bk:=AB wi.1.size w5.1.size (F+K+1) _ _ w5 h5 (by unfold aJ at ae;unfold aJ;omega);refine bk.mono ?_;rintro e8 w8 ⟨v8,rfl,h8,bi⟩;obtain⟨s8,A8,k8,c8,rfl⟩:=h8.form;replace V:=V.be bi;replace ax:=ax.be bi;obtain⟨s9,B9,l9,d9,g0,g1, -⟩:=V.S.at_ (aR ai);have f0:=V.S.free (j*2);have f1:=V.S.free (j*2+1);clear bk;go_wp2_with fail;have P:=(V.S.stored ai h8).2;have zT:=ax.step P (by omega);have zP:=V.setS ai h8;rw[a1.out] at zP;go_roundg k'
          case rel=>exact⟨j+1,by have:=HJ.out;unfold Hid;omega,by go_num,zP,zT⟩
          case measure=>omega
