/-
  Contracts, laws: RowF.
-/
import Derived.Test.YthfnenohhindpaaGreatDoorC24
set_option linter.all false
set_option maxHeartbeats 8000000
set_option maxRecDepth 100000
namespace Go.Proofs.YthfnenohhindpaaGreatDoor
open Go.RowKit Sos
structure PQRes (xs ys:List Int) (KB:Nat) (m:Int) (q r:List Int):Prop where
 id_:∀i,m*cf xs i=conv (cf q) (cf ys) i+cf r i
 m0:m≠0
 r_lt:r.length<ys.length
 q_trim:aO q
 r_trim:aO r
 q_len:q.length<=xs.length
 pow:∃e,e<=xs.length+1-ys.length∧m=cf ys (ys.length-1)^e
 bq:∀n∈q,nl n.natAbs<=KB
 br:∀n∈r,nl n.natAbs<=KB
 bm:nl m.natAbs<=KB
theorem gL (x y:Int) (a b:Nat) (c:nl x.natAbs<=a) (d:nl y.natAbs<=b):nl (x*y).natAbs<=a+b:=by
 rw[Int.natAbs_mul];have:=dJ x.natAbs y.natAbs;omega
theorem xF (x y:Int) (a:Nat) (d:nl x.natAbs<=a) (e:nl y.natAbs<=a):nl (x+y).natAbs<=a+1:=by
 have b:=bX (Int.natAbs_add_le x y);have c:=oP x.natAbs y.natAbs;omega
theorem EG (x y:Int) (a:Nat) (b:nl x.natAbs<=a) (c:nl y.natAbs<=a):nl (x-y).natAbs<=a+1:=by
 rw[Int.sub_eq_add_neg];exact xF _ _ _ b (by rw[Int.natAbs_neg];exact c)
theorem gF {l:List Int} {K:Nat} (h:∀n∈l,nl n.natAbs<=K) (i:Nat):nl (cf l i).natAbs<=K:=by
 by_cases a:i<l.length
 ·rw[eJ a];exact h _ (List.getElem_mem a)
 ·rw[bZ (by omega)];simp[dC]
theorem PC {r v:List Int} {b lead:Int} {k m a K:Nat} (d:∀n∈r,nl n.natAbs<=a) (hv:∀n∈v,nl n.natAbs<=K) (e:nl b.natAbs<=a) (c:nl lead.natAbs<=K):∀n∈iS r v b lead k m,nl n.natAbs<=a+K+1:=by
 intro n hn;unfold iS at hn;obtain⟨i,_,rfl⟩:=List.mem_map.1 hn;refine EG _ _ _ (gL _ _ _ _ (gF d i) c) ?_;split
 ·exact gL _ _ _ _ e (gF hv _)
 ·simp[dC]
theorem PD {q:List Int} {d lead:Int} {k a K:Nat} (c:∀n∈q,nl n.natAbs<=a) (f:nl d.natAbs<=a) (b:nl lead.natAbs<=K):∀n∈lH q d lead k,nl n.natAbs<=a+K+1:=by
 intro n hn;unfold lH at hn;rcases List.mem_or_eq_of_mem_set hn with h|rfl
 ·obtain⟨x,e,rfl⟩:=List.mem_map.1 h;have:=gL x lead _ _ (c x e) b;omega
 ·exact xF _ _ _ (gL _ _ _ _ (gF c k) b) (by omega)
theorem tL {x y:Int} {a b:Nat} (e:nl x.natAbs<=a) (f:nl y.natAbs<=b):x.natAbs*y.natAbs<=BN^(a+b):=by
 have c:x.natAbs<=BN^a:=Nat.le_of_lt (aU (cJ _) (cE (by decide) e));have d:y.natAbs<=BN^b:=Nat.le_of_lt (aU (cJ _) (cE (by decide) f));rw[Nat.pow_add];exact Nat.mul_le_mul c d
theorem EH (w:World):(w.alloc (.cells #[] 59)).ownsRow w.heap.size 59 2 (.slice (some ⟨w.heap.size,0,none⟩) 0 0) 0 []:=
 ⟨rfl,.inr ⟨w.heap.size,0,#[],rfl,aE,Bx.new w [] 59,aE,Nat.zero_le _,rfl,rfl⟩⟩
theorem Src.below {w W:World} {A:Option Addr} {cs:List Value} (h:Src w A cs) (d:Below w.heap.size w W):Src W A cs:=by
 rcases h with h|⟨b,c,e,h⟩
 ·exact .inl h
 ·refine .inr ⟨b,c,e,fun i v hv=> ?_⟩;have a:=h i v hv;exact(d.cell (p:=⟨b,c+i,none⟩) (block_lt_of_cell a)).trans a
theorem PE (r v:List Int) (a lead:Int) (k m:Nat) {i:Nat} (h:i<m):(iS r v a lead k m)[i]? =some (cf r i*lead-(if k<=i then a*cf v (i-k) else 0)):=by
 unfold iS;rw[List.getElem?_map,List.getElem?_range h];rfl
theorem PF (r v:List Int) (a lead:Int) (k m:Nat):(iS r v a lead k m).length=m:=by unfold iS;rw[bK,List.length_range]
theorem EI {P x y:Nat} (b:x<=P) (c:y<=P) (a:0<P):0+x<P*BN∧0+x+y<P*BN:=by
 have:P*3<=P*BN:=dL _ (by decide);omega
def bd (K t:Nat):Nat:=K+t*(K+1)
theorem PG (K t:Nat):bd K (t+1)=bd K t+K+1:=by unfold bd;rw[Nat.succ_mul];omega
theorem lI (K t n:Nat) (h:t<=n):bd K t<=bd K n:=by unfold bd;have:=cZ (K+1) h;omega
def PH (w:World) (xs ys:List Int) (K N b c d g f:Nat) (a:Int) (k:Nat) (j h:Value) (wr:World):Prop:=
 ∃m q r e,h= .int .i64 ((k:Int)-1)∧j= .slice (some ⟨g,0,none⟩) r.length f∧Hid (r.length+1=ys.length+k)∧Hid (q.length=N)∧PQ w wr b c d g m a q r∧Hid (∀i,m*cf xs i=conv (cf q) (cf ys) i+cf r i)∧
  Hid (m=a^e)∧e+k<=N∧(∀n∈q,nl n.natAbs<=bd K (N-k))∧(∀n∈r,nl n.natAbs<=bd K (N-k))∧nl m.natAbs<=bd K (N-k)
def qR (w:World) (xs ys:List Int) (d:Nat) (e:Ending) (w':World):Prop:=
 ∃b c a q r m,e= .returned (.tuple #[b,c,a])∧WholeAt w' b q∧WholeAt w' c r∧IntAt w' a m∧PQRes xs ys d m q r∧Below w.heap.size w w'
theorem tM (xs ys:List Int) (vx vy:Value) (w:World) (hx:WholeAt w vx xs) (hy:WholeAt w vy ys) (b5:ys≠[]) (fv:aO xs) (fw:aO ys) (K F:Nat) (ck:∀n∈xs,nl n.natAbs<=K) (bp:∀n∈ys,nl n.natAbs<=K)
  (gc:1<=K) (fe:K+(xs.length+1-ys.length)*(K+1)<=F) (ad:F+K+8<=aI) (gp:xs.length<=1073741824) (gq:ys.length<=1073741824):
  Calls Tryz.prog 55 #[vx,vy] w (qR w xs ys F):=by
 obtain⟨A,c,rfl,hc⟩:=hx.form;obtain⟨A',c',rfl,gg⟩:=hy.form;have fz:ys.length≠0:=fun e=>b5 (bM e);have q1:((ys.length:Int)==0)=false:=by simp;omega
 have di:K<=F:=by
  exact aG (Nat.le_add_right _ _) fe
 have R:Bx (w.alloc (.cells #[.bool false,.slice none 0 0] 59)) (w.heap.size) [.bool false,.slice none 0 0] 59:=Bx.newAt w [.bool false,.slice none 0 0] 59 (w.heap.size) (by simp);have C:Below w.heap.size w (w.alloc (.cells #[.bool false,.slice none 0 0] 59)):=(aH _ _).alloc (by simp) _;go_enter Tryz.func55,Tryz.ntmps55;go_wp2_with fail;generalize w.alloc (.cells #[.bool false,.slice none 0 0] 59)=W at *;refine(iM 1 _ (by decide) (by decide)).mono ?_;rintro e1 D ⟨v1,rfl,G,co⟩;obtain⟨s1,Z,k1,c1,rfl⟩:=G.form;replace R:=R.below co;replace al:=R.cell 0 rfl;replace aq:=R.free 0;replace am:=R.cell 1 rfl;replace ar:=R.free 1;replace hk:=Keep.below co;replace C:=aC C co;by_cases d3:xs.length<ys.length
 ·have fr:(xs.length:Int)<(ys.length:Int):=by omega
  have b1:PQRes xs ys F 1 [] xs:=by
   refine⟨fun i=> ?_,by decide,d3,(fun a h=>by simp at h),fv,Nat.zero_le _,⟨0,Nat.zero_le _,by rw[Int.pow_zero]⟩,(fun n h=>by cases h),(fun n h=>aG (ck n h) di),?_⟩
   ·rw[Int.one_mul,kE (fun i=>fM i)];show _=0+_
    omega
   ·rw[show nl (1:Int).natAbs=1 from jL (by decide) (by decide)];omega
  have HR:=aB b1;have f5:∀t:Obj,(D.alloc t).cell? ⟨w.heap.size,0,none⟩=some (.bool false):=fun t=>(R.alloc t).cell 0 rfl;have f7:∀t:Obj,(D.alloc t).frozen? ⟨w.heap.size,0,none⟩=false:=fun t=>(R.alloc t).free 0;have f6:∀t:Obj,(D.alloc t).cell? ⟨w.heap.size,1,none⟩=some (.slice none 0 0):=fun t=>(R.alloc t).cell 1 rfl;have f8:∀t:Obj,(D.alloc t).frozen? ⟨w.heap.size,1,none⟩=false:=fun t=>(R.alloc t).free 1;go_wp2_with fail;have cb:=R.lt;have ft:=C.size;replace R:=R.alloc (.cells #[.bool s1,.slice Z k1 c1] 59);have M:=Bx.newAt D [.bool s1,.slice Z k1 c1] 59 (D.heap.size) (by simp);replace C:=C.alloc C.size (.cells #[.bool s1,.slice Z k1 c1] 59);replace hk:=Keep.alloc D (.cells #[.bool s1,.slice Z k1 c1] 59);replace G:=G.keep hk;generalize D.alloc (.cells #[.bool s1,.slice Z k1 c1] 59)=w2 at *;replace al:=R.cell 0 rfl;replace aq:=R.free 0;replace am:=R.cell 1 rfl;replace ar:=R.free 1;replace ab:=M.cell 0 rfl;replace a1:=M.free 0;replace ac:=M.cell 1 rfl;replace a2:=M.free 1;have g2:=hx.below C;go_region
  all_goals (
   go_wp2_with fail;have f9:=R.lt;have f4:=M.lt;have gy:=C.size;replace M:=(M.far 0 (.bool s1) (show w.heap.size≠D.heap.size by omega)).far 1 (.slice Z k1 c1) (show w.heap.size≠D.heap.size by omega);replace hk:=gX (s:=s1) (u:= .slice Z k1 c1) C (by omega) R;clear R C;obtain⟨-, -,R,C,hk⟩:=hk;replace G:=G.keep hk;generalize (w2.setCell ⟨w.heap.size,0,none⟩ (.bool s1)).setCell ⟨w.heap.size,1,none⟩ (.slice Z k1 c1)=W6 at *;replace al:=R.cell 0 rfl;replace am:=R.cell 1 rfl;replace ab:=M.cell 0 rfl;replace ac:=M.cell 1 rfl;exact aK (v:= .tuple #[.slice none 0 0,.slice A xs.length c,.agg #[.bool s1,.slice Z k1 c1]]) (by simp[results,Tryz.results55,go_sem,al,am]) rfl ⟨_,_,_,[],xs,1,rfl,WholeAt.nil _ _ _,hx.below C.drew,G.drew,HR.out,C.drew⟩)
 ·have fr:¬(xs.length:Int)<(ys.length:Int):=by omega
  have d2:cf ys (ys.length-1)≠0:=by
   obtain⟨a,ha⟩:∃a,ys.getLast?=some a:=⟨_,List.getLast?_eq_some_getLast b5⟩;rw[rU ha];exact fw a ha
  have ay:=gF bp (ys.length-1);obtain⟨N,hN⟩:∃N,N=xs.length-ys.length+1:=⟨_,rfl⟩;have ge:(xs.length:Int)-ys.length+1=(N:Int):=by omega
  have gd:N+ys.length=xs.length+1:=by omega
  clear hN;go_wp2_with fail;have cb:=R.lt;have ft:=C.size;replace R:=R.alloc (.cells #[.bool s1,.slice Z k1 c1] 59);have M:=Bx.newAt D [.bool s1,.slice Z k1 c1] 59 (D.heap.size) (by simp);replace C:=C.alloc C.size (.cells #[.bool s1,.slice Z k1 c1] 59);replace hk:=Keep.alloc D (.cells #[.bool s1,.slice Z k1 c1] 59);replace G:=G.keep hk;generalize D.alloc (.cells #[.bool s1,.slice Z k1 c1] 59)=w2 at *;replace al:=R.cell 0 rfl;replace aq:=R.free 0;replace am:=R.cell 1 rfl;replace ar:=R.free 1;replace ab:=M.cell 0 rfl;replace a1:=M.free 0;replace ac:=M.cell 1 rfl;replace a2:=M.free 1;refine(tI ys _ _ (hy.below C) b5 (by omega)).mono ?_;rintro e3 z ⟨v3,rfl,h3,bs⟩;obtain⟨s3,A3,k3,c3,rfl⟩:=h3.form;replace R:=R.below bs;replace al:=R.cell 0 rfl;replace aq:=R.free 0;replace am:=R.cell 1 rfl;replace ar:=R.free 1;replace M:=M.below bs;replace ab:=M.cell 0 rfl;replace a1:=M.free 0;replace ac:=M.cell 1 rfl;replace a2:=M.free 1;replace hk:=Keep.below bs;replace G:=G.keep hk;replace C:=aC C bs;generalize d1:cf ys (ys.length-1)=f at *;have c5:=aB d1;clear d1;have fy:xs≠[]:=fun e=>d3 (by rw[e];exact Nat.pos_of_ne_zero fz);have gf:0<N:=by omega
  obtain⟨f3,a9,fs,cx,eg,dy,d6⟩:=(hx.below C).rows fy;clear fs
  go_wp2_with (first
   |(at_make;refine gJ rfl rfl 59 _ 2 32 Tryz.underlying56 mN rfl (by decide) N rfl rfl (by first|rfl|omega) (by first|rfl|omega) (by omega) (by omega) ?_;intro w4 el ee bf)
   |(at_builtin;refine fE rfl rfl 59 _ 2 32 Tryz.underlying56 mN rfl (by decide) w4.heap.size (.slice (some ⟨w4.heap.size,0,none⟩) 0 0) 0 [] rfl (EH w4) f3.flatten rfl (by rw[kG cx,a9]) (eg.below ((((aH _ _).alloc aE _).trans (bf.mono (by simp))).alloc (aG (by simp) bf.size) _)) d6 (by omega) (by omega) (by simp) ?_;intro v5 w5 cw a7 fi))
  have bt:Below w4.heap.size w4 w5:=⟨a7.os,a7.tape,a7.output,aG (by simp) a7.size,fun k hk=>(a7.block k (by simp;omega) (fun e=>by simp[Value.ownBlock] at e;omega)).trans (Below.heap_alloc w4 _ k hk)⟩;have cp:Below z.heap.size z w4:=((aH _ _).alloc aE _).trans (bf.mono (by simp));have ax:Below z.heap.size z w5:=aC cp bt;rw[aS,List.nil_append] at cw;obtain⟨g,bb,rfl,gj,gl,gh,gi,hS⟩:=DS cw cx a9 rfl (by omega) (dy.keep (Keep.below ax));have dl:PQ w w5 D.heap.size z.heap.size (z.heap.size+1) g 1 f (List.replicate N 0) xs:=by
   refine⟨R.below ax,⟨_,_,_,_,M.below ax,G.below ax⟩,⟨_,_,_,_,((Bx.new z [.bool s3,.slice A3 k3 c3] 59).below bf).below bt,h3.below ax⟩,?_,hS,aC C ax,cb,?_,Nat.lt_succ_self _,?_⟩
   ·have:=OwnW.made ee;rw[World.size_alloc] at this;exact this.below bt
   ·exact M.lt
   ·have:=el;simp at this;omega
  have a4:=cb;clear bf ee el a7 fi cw cp ax bt hS eg dy d6 cx a9 R M G h3 hk al am aq ar ab ac a1 a2 C;have bu:bd K N<=F:=by
   have G:=lI K N (xs.length+1-ys.length) (by omega);have H:bd K (xs.length+1-ys.length)=K+(xs.length+1-ys.length)*(K+1):=rfl;omega
  go_loopg [10,11] N (fun k rv kv wr=>PH w xs ys K N D.heap.size z.heap.size (z.heap.size+1) g bb f k rv kv wr)
  case atStart=>
   refine⟨1,List.replicate N 0,xs,0,rfl,rfl,by unfold Hid;omega,by unfold Hid;simp,dl,fun i=> ?_,by unfold Hid;rw[Int.pow_zero],by omega,fun n hn=> ?_,fun n hn=> ?_,?_⟩
   ·rw[Int.one_mul,kE (fun i=>by unfold cf;rw[dF,List.getElem?_replicate];split<;>rfl)];show _=0+_
    omega
   ·rw[List.eq_of_mem_replicate hn];simp[dC]
   ·exact aG (ck n hn) (by unfold bd;omega)
   ·rw[show nl (1:Int).natAbs=1 from jL (by decide) (by decide)];unfold bd;omega
  case round=>
   clear dl;obtain⟨m,q,r,e,rfl,rfl,c7,ak,U,b7,bn,fl,bq,br,bm⟩:=hrel;generalize wr=wh at *;cases gk with
   |zero=>
    have a9:r.length<ys.length:=by have:=c7.out;omega
    have cc:∀n∈q,nl n.natAbs<=F:=fun n hn=>aG (bq n hn) (by rw[Nat.sub_zero];exact bu);have ce:∀n∈r,nl n.natAbs<=F:=fun n hn=>aG (br n hn) (by rw[Nat.sub_zero];exact bu);have db:nl m.natAbs<=F:=aG bm (by rw[Nat.sub_zero];exact bu);have b1:PQRes xs ys F m (aX aW q) (aX aW r):=by
     refine⟨fun i=> ?_,?_,Nat.lt_of_le_of_lt (mK aW r) a9,iX q,iX r,?_,⟨e,by omega,by rw[c5.out];exact bn.out⟩,fun n hn=>cc n (oL hn),fun n hn=>ce n (oL hn),db⟩
     ·rw[b7.out i,iY];congr 1;exact fR (fun j=>(iY q j).symm) (fun _=>rfl) i
     ·rw[bn.out];exact Int.pow_ne_zero d2
     ·have G:=mK aW q;have H:=ak.out;omega
    have es:=aB b1;clear b1;obtain⟨sm,Am,km,cm,M,hm⟩:=U.M;have R:=U.R;have ag:=U.hb;have hQ:=U.Q.whole N (by rw[ak.out];exact aE);have hS:=U.S.whole bb (by omega);have eb:=ak.out;have o2:=U.o2;have o3:=U.o3;have o4:=U.o4;have ei:=fun W h=>pV q (some ⟨z.heap.size+1,0,none⟩) N W h F cc (by unfold aI at ad;omega) (by omega);have fu:=fun W h=>pV r (some ⟨g,0,none⟩) bb W h F ce (by unfold aI at ad;omega) (by omega);rw[eb] at ei hQ;clear eb bq br bm cc ce db a9 ck bp di d2 ay fl U;generalize aX aW q=Q1 at *;generalize aX aW r=R1 at *;replace M:=M.drew;replace R:=R.drew;replace ag:=ag.drew;replace hQ:=hQ.drew;replace hS:=hS.drew;replace hm:=hm.drew;have b6:w.heap.size≠D.heap.size:=by omega
    replace al:=R.cell 0 rfl;replace aq:=R.free 0;replace am:=R.cell 1 rfl;replace ar:=R.free 1;replace ab:=M.cell 0 rfl;replace a1:=M.free 0;replace ac:=M.cell 1 rfl;replace a2:=M.free 1;go_wp2_with fail
    go_region_held3 (fun w'=>w'.cell? ⟨D.heap.size,0,none⟩=some (.bool sm)∧w'.cell? ⟨D.heap.size,1,none⟩=some (.slice Am km cm))
     (first|(with_reducible exact⟨ab,ac⟩)|(with_reducible exact⟨(aT _ _ _ _ _ _ b6).trans ((aT _ _ _ _ _ _ b6).trans ab),(aT _ _ _ _ _ _ b6).trans ((aT _ _ _ _ _ _ b6).trans ac)⟩))
     (first
      |(go_at_call 118;(with_reducible refine(ei _ hQ).mono ?_);rintro e6 w6 ⟨rfl,h6,X⟩;replace hS:=hS.below X;replace hm:=hm.below X;replace R:=R.below X;replace M:=M.below X;replace ab:=M.cell 0 rfl;replace ac:=M.cell 1 rfl;replace al:=R.cell 0 rfl;replace am:=R.cell 1 rfl;replace aq:=R.free 0;replace ar:=R.free 1;replace ag:=aC ag X)
      |(go_at_call 118;(with_reducible refine(fu _ hS).mono ?_);rintro e7 w7 ⟨rfl,h7,a4⟩;replace h6:=h6.below a4;replace hm:=hm.below a4;replace R:=R.below a4;replace M:=M.below a4;replace ab:=M.cell 0 rfl;replace ac:=M.cell 1 rfl;replace al:=R.cell 0 rfl;replace am:=R.cell 1 rfl;replace aq:=R.free 0;replace ar:=R.free 1;replace ag:=aC ag a4))
    go_wp2_with fail;obtain⟨⟨s8,A8,k8,c8,R8, -⟩,P⟩:=IntBx.stored (w:=w7) (b:=w.heap.size) (m:=0) ⟨_,_,_,_,R,IntAt.zero _⟩ hm;have z6:=h6.step P (fun b e=>by injection e with e;injection e with e;omega);have z7:=h7.step P (fun b e=>by injection e with e;injection e with e;omega);have zm:=hm.keep P.1;have zb:=fS ag P aE;obtain⟨z0,z1, -, -, -⟩:=gX (s:=sm) (u:= .slice Am km cm) ag aE R;clear R8 P;generalize (w7.setCell ⟨w.heap.size,0,none⟩ (.bool sm)).setCell ⟨w.heap.size,1,none⟩ (.slice Am km cm)=W6 at *;exact aK (v:= .tuple #[.slice (some ⟨z.heap.size+1,0,none⟩) Q1.length N,.slice (some ⟨g,0,none⟩) R1.length bb,.agg #[.bool sm,.slice Am km cm]]) (by simp[results,Tryz.results55,go_sem,z0,z1]) rfl ⟨_,_,_,Q1,R1,m,rfl,z6,z7,zm,es.out,zb⟩
   |succ k=>
    obtain⟨p,hp⟩:∃p,p=ys.length-1+k:=⟨_,rfl⟩;have gx:(ys.length:Int)-1+k=(p:Int):=by omega
    have ba:=aB hp;have cz:r.length=p+1:=by have:=c7.out;omega
    have c9:=aB cz;have d7:p<r.length:=by omega
    have gs:(p:Int)<(r.length:Int):=by omega
    have gu:p<=bb:=by omega
    have gv:(0:Int)<=(p:Int):=by omega
    have gw:(p:Int)<=(r.length:Int):=by omega
    have fp:k<N:=by omega
    have gn:(0:Int)<=(k:Int):=by omega
    have e1:N-k=(N-(k+1))+1:=by omega
    have ds:bd K (N-k)=bd K (N-(k+1))+K+1:=by rw[e1,PG]
    have c4:=aB ds;have bv:bd K (N-k)<=F:=aG (lI K _ N (by omega)) bu;obtain⟨st,At,kt,ct,g0,g1,aj⟩:=U.S.at_ (aL d7);have du:r[p]=cf r p:=(eJ d7).symm;rw[du] at aj;have ch:=gF br p;have hcut:=U.cut p;obtain⟨sl,Al,kl,cl,L,O⟩:=U.L;have ef:=fun h0=>O5 (n:=p) h0 cz b7.out;have da:=aB ef;clear hp cz e1 ds du ef;have eu:∀t:Obj,(wh.alloc t).cell? ⟨z.heap.size,0,none⟩=some (.bool sl):=fun t=>(L.alloc t).cell 0 rfl;have ew:∀t:Obj,(wh.alloc t).frozen? ⟨z.heap.size,0,none⟩=false:=fun t=>(L.alloc t).free 0;have ev:∀t:Obj,(wh.alloc t).cell? ⟨z.heap.size,1,none⟩=some (.slice Al kl cl):=fun t=>(L.alloc t).cell 1 rfl;have ex:∀t:Obj,(wh.alloc t).frozen? ⟨z.heap.size,1,none⟩=false:=fun t=>(L.alloc t).free 1;go_wp2_with fail;have a5:Below wh.heap.size wh (wh.alloc (.cells #[.bool st,.slice At kt ct] 59)):=(aH _ _).alloc aE _;have fm:=U.S.lt;have T:=Bx.new wh [.bool st,.slice At kt ct] 59;have o:=U.below a5;replace hcut:=hcut.below a5;replace aj:=aj.below a5;replace L:=L.below a5;replace O:=O.below a5;obtain⟨gt,dw⟩:∃gt,wh.heap.size=gt:=⟨_,rfl⟩;rw[dw] at T fm⊢;clear U a5 g0 g1 dw eu ev ew ex;generalize wh.alloc (.cells #[.bool st,.slice At kt ct] 59)=wa at *;refine(fD _ _ _ aj (by unfold aI at ad;have:=lI K (N-(k+1)) (N-k) (by omega);omega)).mono ?_;rintro ez wz ⟨rfl,a6⟩;replace T:=T.below a6;replace o:=o.below a6;replace hcut:=hcut.below a6;replace aj:=aj.below a6;replace L:=L.below a6;replace O:=O.below a6;by_cases h0:cf r p=0
    ·have hd:decide (cf r p=0)=true:=by simpa using h0
     have ai:=da.out h0;rw[hd];have en:=aB ai;clear hd ai;go_wp2_with fail;go_roundg k
     case rel=>
      refine⟨m,q,r.take p,e,by go_num,?_,?_,ak,hcut,en,bn,by omega,fun n hn=> ?_,fun n hn=> ?_,?_⟩
      ·rw[aZ,Nat.min_eq_left (by omega)]
      ·unfold Hid;rw[aZ,Nat.min_eq_left (by omega),ba.out];omega
      ·exact aG (bq n hn) (lI K _ _ (by omega))
      ·exact aG (br n (List.mem_of_mem_take hn)) (lI K _ _ (by omega))
      ·exact aG bm (lI K _ _ (by omega))
     case measure=>omega
    ·have hd:decide (cf r p=0)=false:=by simpa using h0
     rw[hd];clear hd da hcut;have au:=T.cell 0 rfl;have av:=T.cell 1 rfl;have an:=L.cell 0 rfl;have ao:=L.cell 1 rfl;go_wp2_with fail;refine(l7 _ _ _ O (by unfold aI at ad;omega)).mono ?_;rintro eo wo ⟨rfl,cq⟩;replace T:=T.below cq;replace o:=o.below cq;replace aj:=aj.below cq;have E:IntBx wo gt (cf r p):=⟨_,_,_,_,T,aj⟩;have ga:nl m.natAbs<=F:=aG bm (aG (lI K _ (N-k) (by omega)) bv);have dc:∀n∈q,nl n.natAbs<=F:=fun n hn=>aG (bq n hn) (aG (lI K _ (N-k) (by omega)) bv);clear T au av L an ao O aj;go_upto_if 67 with fail;go_cut [] (fun wx=>PQ w wx D.heap.size z.heap.size (z.heap.size+1) g (m*f) f (q.map (·*f)) r∧IntBx wx gt (cf r p))
     case first=>
      by_cases bi:f=1
      ·have hd:decide (f=1)=true:=by simpa using bi
       have em:m*f=m:=by rw[bi,Int.mul_one]
       have eq:q.map (·*f)=q:=by
        rw[bi];exact(List.map_congr_left (fun a _=>Int.mul_one a)).trans (List.map_id q)
       rw[hd];have HE:=aB (And.intro em eq);clear hd em eq bi;go_wp2_with fail;go_meet;rw[HE.out.1,HE.out.2];exact⟨o,E⟩
      ·have hd:decide (f=1)=false:=by simpa using bi
       rw[hd];clear hd;obtain⟨sm,Am,km,cm,M,hm⟩:=o.M;obtain⟨sl,Al,kl,cl,L,O⟩:=o.L;have ab:=M.cell 0 rfl;have ac:=M.cell 1 rfl;have an:=L.cell 0 rfl;have ao:=L.cell 1 rfl;have cv:=fun W v u G H=>iN m f v u W G H (by unfold aI at ad;omega);unfold dB at cv;generalize gr:m*f=ml at *;go_wp2_with fail;refine(cv _ _ _ hm O).mono ?_;rintro e2 w2 ⟨v2,rfl,H,af⟩;obtain⟨s2,A2,k2,c2,rfl⟩:=H.form;replace o:=o.below af;replace E:=E.below af;replace M:=M.below af;replace ab:=M.cell 0 rfl;replace ac:=M.cell 1 rfl;have a1:=M.free 0;have a2:=M.free 1;clear cv;go_wp2_with fail;have P:=(IntBx.stored (m:=m) ⟨_,_,_,_,M,hm.below af⟩ H).2;have o2:=o.o2;have o3:=o.o3;have o4:=o.o4;replace E:=E.step P (by omega);replace o:=o.setM H;clear P M ab ac a1 a2 L an ao O hm H;generalize (w2.setCell ⟨D.heap.size,0,none⟩ (.bool s2)).setCell ⟨D.heap.size,1,none⟩ (.slice A2 k2 c2)=wm at *;have ed:q.length=(q.map (·*f)).length:=(bK _).symm;have bo:=aB ed;clear ed;go_loopg [73] N (fun k' i wx=>∃j,Hid (j+k'=N)∧i= .int .i64 j∧PQ w wx D.heap.size z.heap.size (z.heap.size+1) g ml f ((q.map (·*f)).take j++q.drop j) r∧IntBx wx gt (cf r p))
       case atStart=>exact⟨0,by unfold Hid;omega,rfl,by simpa using o,E⟩
       case round=>
        clear o E;obtain⟨j,HJ,rfl,o,E⟩:=hrel;generalize wr=wx at *;have fn:(0:Int)<=(j:Int):=by omega
        cases gk with
        |zero=>
         have hj:j=N:=HJ.out;subst hj;go_wp2_with fail;go_meet;rw[cA (by rw[<-bo.out,ak.out];exact aE),List.drop_of_length_le (by rw[ak.out];exact aE),List.append_nil] at o;exact⟨o,E⟩
        |succ k'=>
         have a8:j<q.length:=by have:=HJ.out;rw[ak.out];omega
         have fo:(j:Int)<(N:Int):=by have:=HJ.out;omega
         have az:=DU (ys:=q.map (·*f)) a8 bo.out;have ej:=DV (j:=j) bo.out;have bk:=DT (xs:=q) (ys:=q.map (·*f)) (y:=q[j]*f) (j:=j) (by rw[List.getElem?_map,aL a8];rfl) bo.out;rw[aL a8] at az;have gb:=dc _ (List.getElem_mem a8);have ah:j<((q.map (·*f)).take j++q.drop j).length:=by rw[ej];exact a8
         generalize q[j]=x at *;obtain⟨s,B,l,d,g0,g1,hi⟩:=o.Q.at_ az;obtain⟨sl,Al,kl,cl,L,O⟩:=o.L;have an:=L.cell 0 rfl;have ao:=L.cell 1 rfl;have f0:=o.Q.free (j*2);have f1:=o.Q.free (j*2+1);have I:=o.drew;have ae:=E.below (aH _ _).drew;have ai:=hi.drew;have ff:=O.drew;have a0:=aB bk;clear az ej bk a8 o E hi O L;go_wp2_with fail
         go_region_with (first
          |(go_at_call 110;(with_reducible refine(iN x f _ _ _ ai ff (by unfold aI at ad;omega)).mono ?_);rintro e2 w2 ⟨v2,rfl,H,af⟩;obtain⟨s2,A2,k2,c2,rfl⟩:=H.form;replace I:=I.below af;replace ae:=ae.below af;obtain⟨s',B',l',d',fb,fc, -⟩:=I.Q.at_ (aL ah);have e9:=I.Q.free (j*2);have fa:=I.Q.free (j*2+1)))
         all_goals (
          go_wp2_with fail;have P:=(I.Q.stored ah H).2;have o4:=I.o4;have zT:=ae.step P (by omega);have zP:=I.setQ ah H;rw[a0.out] at zP;go_roundg k'
          case rel=>exact⟨j+1,by have:=HJ.out;unfold Hid;omega,by go_num,zP,zT⟩
          case measure=>omega)
     case rest=>
      clear o E;obtain⟨o,E⟩:=hcut;generalize ek:cf r p=J at *;have et:=aB ek;have b0:k<q.length:=by rw[ak.out];exact fp
      have go:(k:Int)<(N:Int):=by omega
      have bz:k<(q.map (·*f)).length:=by rw[bK];exact b0
      have dv:(q.map (·*f))[k]? =some (cf q k*f):=by rw[List.getElem?_map,aL b0,eJ b0];rfl
      have ec:(q.map (·*f)).set k (cf q k*f+J)=lH q J f k:=rfl;have de:=gF dc k;have e0:nl J.natAbs<=F:=aG ch (aG (lI K _ (N-k) (by omega)) bv);have ey:=gL (cf q k) f _ _ de ay;generalize cf q k*f=qk at *;obtain⟨s,B,l,d,g0,g1,hi⟩:=o.Q.at_ dv;obtain⟨st,At,kt,ct,T,hT⟩:=id E;have au:=T.cell 0 rfl;have av:=T.cell 1 rfl;have f0:=o.Q.free (k*2);have f1:=o.Q.free (k*2+1);have I:=o.drew;have ae:=E.below (aH _ _).drew;have ai:=hi.drew;have dr:=hT.drew;have c6:=aB ec;clear dv ec ek o E hi hT T de;go_upto_region 20 with fail;go_cut [] (fun wx=>PQ w wx D.heap.size z.heap.size (z.heap.size+1) g (m*f) f (lH q J f k) r∧IntBx wx gt J)
      case first=>
       go_region_with (first
        |(go_at_call 114;(with_reducible refine(sB qk J _ _ _ ai dr (by unfold aI at ad;omega) (by unfold aI at ad;omega)).mono ?_);rintro e2 w2 ⟨v2,rfl,H,af⟩;obtain⟨s2,A2,k2,c2,rfl⟩:=H.form;replace I:=I.below af;replace ae:=ae.below af;obtain⟨s',B',l',d',fb,fc, -⟩:=I.Q.at_ (aL bz);have e9:=I.Q.free (k*2);have fa:=I.Q.free (k*2+1)))
       all_goals (
        go_wp2_with fail;have P:=(I.Q.stored bz H).2;have o4:=I.o4;have zT:=ae.step P (by omega);have zP:=I.setQ bz H;rw[c6.out] at zP;go_meet;exact⟨zP,zT⟩)
      case rest=>
       clear I ae ai dr au av g0 g1 f0 f1 ey c6 bz;obtain⟨o,E⟩:=hcut;have dn:r.length=p+1:=c9.out;have c0:(r.take p).length=p:=by rw[aZ];omega
       have ca:=aB c0;have cy:=PF r ys J f k p;have b9:=aB (c0.trans cy.symm);have b8:=aB cy;have gm:=o.S.lt;replace o:=o.cut p;have cd:=PD (k:=k) bq ch ay;have cg:=PC (k:=k) (m:=p) br bp ch ay;rw[<-c4.out] at cd cg;have cs:=O4 (k:=k) (lead:=f) b5 (by rw[dn,ba.out];omega) b0 (c5.out.symm) b7.out;rw[<-ba.out,et.out] at cs;have ep:=aB cs;have d5:=gL m f _ _ bm ay;have BF:=aB (And.intro cd (And.intro cg d5));clear c0 cy dn cd cg cs d5;have dm:(lH q J f k).length=q.length:=by unfold lH;rw[List.length_set,bK]
       generalize lH q J f k=Q2 at *;have er:=aB dm;clear dm;go_wp2_with fail;go_loopg [97] p (fun k' i wx=>∃j,Hid (j+k'=p)∧i= .int .i64 j∧PQ w wx D.heap.size z.heap.size (z.heap.size+1) g (m*f) f Q2 ((iS r ys J f k p).take j++(r.take p).drop j)∧IntBx wx gt J)
       case atStart=>exact⟨0,by unfold Hid;omega,rfl,by simpa using o,E⟩
       case round=>
        clear o E;obtain⟨j,HJ,rfl,o,E⟩:=hrel;generalize wr=wi at *;have fn:(0:Int)<=(j:Int):=by omega
        cases gk with
        |zero=>
         have hj:j=p:=HJ.out;subst hj;go_wp2_with fail;go_roundg k
         case rel=>
          rw[cA (by rw[b8.out];exact aE),List.drop_of_length_le (by rw[ca.out];exact aE),List.append_nil] at o;refine⟨m*f,Q2,iS r ys J f k j,e+1,by go_num,by rw[b8.out],?_,?_,o,ep,?_,by omega,BF.out.1,BF.out.2.1,?_⟩
          ·unfold Hid;rw[b8.out,ba.out];omega
          ·unfold Hid;rw[er.out];exact ak.out
          ·unfold Hid;rw[bn.out,Int.pow_succ]
          ·have:=BF.out.2.2;rw[c4.out];omega
         case measure=>omega
        |succ k'=>
         have bx:j<p:=by have:=HJ.out;omega
         have fo:(j:Int)<(p:Int):=by omega
         have az:=DU (ys:=iS r ys J f k p) (show j<(r.take p).length by rw[ca.out];exact bx) b9.out;have bk:=DT (xs:=r.take p) (ys:=iS r ys J f k p) (j:=j) (PE r ys J f k p bx) b9.out;have ah:j<((iS r ys J f k p).take j++(r.take p).drop j).length:=by rw[DV b9.out,ca.out];exact bx
         have d0:j<r.length:=by have:=c9.out;omega
         rw[List.getElem?_take,if_pos bx,aL d0,<-eJ d0] at az;have df:nl (cf r j).natAbs<=F:=aG (gF br j) (aG (lI K _ (N-k) (by omega)) bv);have f2:k<=j->j-k<ys.length:=fun h=>by have:=ba.out;omega
         generalize cf r j=x at *;have a0:=aB bk;clear bk;generalize (iS r ys J f k p).take j++(r.take p).drop j=RJ at *;obtain⟨s,B,l,d,g0,g1,hi⟩:=o.S.at_ az;obtain⟨sl,Al,kl,cl,L,O⟩:=o.L;obtain⟨st,At,kt,ct,T,hT⟩:=id E;have fk:=o.hb;have b2:=o.S.lt;have b3:=L.lt;have b4:=T.lt;have dp:=SumAt.new wi (F+K+1);have ap:Below wi.heap.size wi (wi.alloc (.cells #[.slice none 0 0,.slice none 0 0] 163)):=(aH _ _).alloc aE _;obtain⟨dk,bc⟩:=EI (tL df ay) (jX (BN^(F+K))) (Nat.pow_pos (by decide));have d8:=tL df ay;have cn:=fun W G H h3=>rZ wi.heap.size (wi.heap.size+1) (F+K+1) 0 0 x f s B l d sl Al kl cl W G H h3 hi.blk O.blk (by omega) (by unfold aI at ad;unfold aI;omega) (by rw[cU];exact dk);rw[Int.zero_add,aS] at cn;have dx:=(hi.below ap).drew;have dj:=(O.below ap).drew;have dq:=dp.drew;have ci:=(ap.cell (p:=⟨g,j*2,none⟩) b2).trans g0;have cj:=(ap.cell (p:=⟨g,j*2+1,none⟩) b2).trans g1;have an:=(ap.cell (p:=⟨z.heap.size,0,none⟩) b3).trans (L.cell 0 rfl);have ao:=(ap.cell (p:=⟨z.heap.size,1,none⟩) b3).trans (L.cell 1 rfl);clear az dk bc g0 g1 hi O dp;go_wp2_with fail;generalize wi.alloc (.cells #[.slice none 0 0,.slice none 0 0] 163)=ws at *
         go_region_held3 (fun w'=>w'.cell? ⟨g,j*2,none⟩=some (.bool s)∧w'.cell? ⟨g,j*2+1,none⟩=some (.slice B l d)∧w'.cell? ⟨z.heap.size,0,none⟩=some (.bool sl)∧w'.cell? ⟨z.heap.size,1,none⟩=some (.slice Al kl cl))
          (first|(exact⟨ci,cj,an,ao⟩)|(exact⟨(a3.cell (p:=⟨g,j*2,none⟩) b2).trans ci,(a3.cell (p:=⟨g,j*2+1,none⟩) b2).trans cj,(a3.cell (p:=⟨z.heap.size,0,none⟩) b3).trans an,(a3.cell (p:=⟨z.heap.size,1,none⟩) b3).trans ao⟩))
          (first|(go_at_call 115;(with_reducible refine(cn _ dq dx dj).mono ?_);rintro e5 w5 ⟨rfl,h5,a3, -⟩))
         have X:Below wi.heap.size wi w5:=ap.drew.trans a3;clear cn dx dj dq ci cj an ao ap a3 L;have V:=o.below X;have aw:=E.below X;have fg:=o;have fh:=E;clear o E;by_cases cu:k<=j
         ·have fq:(k:Int)<=(j:Int):=by omega
          obtain⟨u,hu⟩:∃u,u=j-k:=⟨_,rfl⟩;have fx:u<ys.length:=by rw[hu];exact f2 cu
          rw[if_pos cu,<-hu] at a0;obtain⟨b',s',B',l',d',fd,bw,p0,p1,cr,d4⟩:=(hy.below fk).get (i:=u) fx;subst fd;have e4:=bp _ d4;have ea:=tL e0 e4;replace p0:=(X.cell (p:=⟨b',u*2,none⟩) bw).trans p0;replace p1:=(X.cell (p:=⟨b',u*2+1,none⟩) bw).trans p1;have au:=(X.cell (p:=⟨gt,0,none⟩) b4).trans (T.cell 0 rfl);have av:=(X.cell (p:=⟨gt,1,none⟩) b4).trans (T.cell 1 rfl);have bc:=(EI d8 ea (Nat.pow_pos (by decide))).2;rw[aS] at bc;have eh:=fun W G h0 H h3=>JZ wi.heap.size w5.heap.size (F+K+1) (x.natAbs*f.natAbs) (x*f) J (cf ys u) st At kt ct s' B' l' d' W G h0 H h3 hT.blk cr.blk (by omega) (by unfold aI at ad;unfold aI;omega) (by rw[cU];exact bc);have dh:=h5.drew;have ae:=(hT.below X).drew;have ai:=(cr.below X).drew;have gz:IntKind.i64.wrap ((j:Int)-k)=(j:Int)-k:=by rw[IntKind.wrap_i64];omega
          have hA:(0:Int)<=(j:Int)-k:=by omega
          have hB:(j:Int)-k<(ys.length:Int):=by omega
          have hC:((j:Int)-k).toNat=u:=by omega
          generalize cf ys u=Y at *;clear hu d8 ea bc d4 cr hT T h5;go_wp2_with fail
          go_region_held3 (fun w'=>w'.cell? ⟨gt,0,none⟩=some (.bool st)∧w'.cell? ⟨gt,1,none⟩=some (.slice At kt ct)∧w'.cell? ⟨b',u*2,none⟩=some (.bool s')∧w'.cell? ⟨b',u*2+1,none⟩=some (.slice B' l' d'))
           (first|(exact⟨au,av,p0,p1⟩)|(exact⟨(bg.cell (p:=⟨gt,0,none⟩) b4).trans au,(bg.cell (p:=⟨gt,1,none⟩) b4).trans av,(bg.cell (p:=⟨b',u*2,none⟩) bw).trans p0,(bg.cell (p:=⟨b',u*2+1,none⟩) bw).trans p1⟩))
           (first|(go_at_call 116;(with_reducible refine(eh _ dh aE ae ai).mono ?_);rintro e7 w7 ⟨rfl,h7,bg⟩))
          have fj:Below w5.heap.size w5 w5:=aH _ _;clear eh dh ae ai au av p0 p1 fj;have dt:Below wi.heap.size wi w7:=X.drew.trans bg;replace V:=fg.below dt;replace aw:=fh.below dt;go_wp2_with fail;have bj:=vR wi.heap.size w7.heap.size (F+K+1) _ _ w7 h7 (by unfold aI at ad;unfold aI;omega);refine bj.mono ?_;rintro e8 w8 ⟨v8,rfl,h8,bh⟩;obtain⟨s8,A8,k8,c8,rfl⟩:=h8.form;replace V:=V.below bh;replace aw:=aw.below bh;obtain⟨s9,B9,l9,d9,g0,g1, -⟩:=V.S.at_ (aL ah);have f0:=V.S.free (j*2);have f1:=V.S.free (j*2+1);clear bj;go_wp2_with fail;have P:=(V.S.stored ah h8).2;have zT:=aw.step P (by omega);have zP:=V.setS ah h8;rw[a0.out] at zP;go_roundg k'
          case rel=>exact⟨j+1,by have:=HJ.out;unfold Hid;omega,by go_num,zP,zT⟩
          case measure=>omega
         ·have fq:¬(k:Int)<=(j:Int):=by omega
          rw[if_neg cu,Int.sub_zero] at a0;go_wp2_with fail;have bj:=vR wi.heap.size w5.heap.size (F+K+1) _ _ w5 h5 (by unfold aI at ad;unfold aI;omega);refine bj.mono ?_;rintro e8 w8 ⟨v8,rfl,h8,bh⟩;obtain⟨s8,A8,k8,c8,rfl⟩:=h8.form;replace V:=V.below bh;replace aw:=aw.below bh;obtain⟨s9,B9,l9,d9,g0,g1, -⟩:=V.S.at_ (aL ah);have f0:=V.S.free (j*2);have f1:=V.S.free (j*2+1);clear bj;go_wp2_with fail;have P:=(V.S.stored ah h8).2;have zT:=aw.step P (by omega);have zP:=V.setS ah h8;rw[a0.out] at zP;go_roundg k'
          case rel=>exact⟨j+1,by have:=HJ.out;unfold Hid;omega,by go_num,zP,zT⟩
          case measure=>omega
