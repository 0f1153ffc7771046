/-
  Contracts of functions that the statement reaches, and plain laws: RowF.
-/
import Derived.Test.YtbhplgdbfmifkaaGreatDoorI19
set_option linter.unusedVariables false
set_option linter.unusedSimpArgs false
set_option maxHeartbeats 8000000
set_option maxRecDepth 100000
namespace Go.Proofs.YtbhplgdbfmifkaaGreatDoor
open Go.RowKit Sos
structure PQRes (xs ys:List Int) (KB:Nat) (m:Int) (q r:List Int):Prop where
 id_:∀i,m*cf xs i=conv (cf q) (cf ys) i+cf r i
 m0:m≠0
 r_lt:r.length<ys.length
 q_trim:aN q
 r_trim:aN r
 q_len:q.length≤xs.length
 pow:∃e,e≤xs.length+1-ys.length∧m=cf ys (ys.length-1)^e
 bq:∀n∈q,nl n.natAbs≤KB
 br:∀n∈r,nl n.natAbs≤KB
 bm:nl m.natAbs≤KB
theorem bZ (x y:Int) (a b:Nat) (hx:nl x.natAbs≤a) (hy:nl y.natAbs≤b):nl (x*y).natAbs≤a+b:=by
 rw[Int.natAbs_mul];have:=cJ x.natAbs y.natAbs;omega
theorem pD (x y:Int) (a:Nat) (hx:nl x.natAbs≤a) (hy:nl y.natAbs≤a):nl (x+y).natAbs≤a+1:=by
 have h1:=aX (Int.natAbs_add_le x y);have h2:=oL x.natAbs y.natAbs;omega
theorem PX (x y:Int) (a:Nat) (hx:nl x.natAbs≤a) (hy:nl y.natAbs≤a):nl (x-y).natAbs≤a+1:=by
 rw[Int.sub_eq_add_neg];exact pD _ _ _ hx (by rw[Int.natAbs_neg];exact hy)
theorem cI {l:List Int} {K:Nat} (h:∀n∈l,nl n.natAbs≤K) (i:Nat):nl (cf l i).natAbs≤K:=by
 by_cases hi:i<l.length
 ·rw[dO hi];exact h _ (List.getElem_mem hi)
 ·rw[aP (by omega)];simp[cC]
theorem PY {r v:List Int} {top lead:Int} {k m a K:Nat} (hr:∀n∈r,nl n.natAbs≤a) (hv:∀n∈v,nl n.natAbs≤K) (ht:nl top.natAbs≤a) (hl:nl lead.natAbs≤K):∀n∈gT r v top lead k m,nl n.natAbs≤a+K+1:=by
 intro n hn;unfold gT at hn;obtain⟨i,_,rfl⟩:=List.mem_map.1 hn;refine PX _ _ _ (bZ _ _ _ _ (cI hr i) hl) ?_;split
 ·exact bZ _ _ _ _ ht (cI hv _)
 ·simp[cC]
theorem PZ {q:List Int} {top lead:Int} {k a K:Nat} (hq:∀n∈q,nl n.natAbs≤a) (ht:nl top.natAbs≤a) (hl:nl lead.natAbs≤K):∀n∈jY q top lead k,nl n.natAbs≤a+K+1:=by
 intro n hn;unfold jY at hn;rcases List.mem_or_eq_of_mem_set hn with h|rfl
 ·obtain⟨x,hx,rfl⟩:=List.mem_map.1 h;have:=bZ x lead _ _ (hq x hx) hl;omega
 ·exact pD _ _ _ (bZ _ _ _ _ (cI hq k) hl) (by omega)
theorem qO {x y:Int} {a b:Nat} (hx:nl x.natAbs≤a) (hy:nl y.natAbs≤b):x.natAbs*y.natAbs≤BN^(a+b):=by
 have h1:x.natAbs≤BN^a:=Nat.le_of_lt (Nat.lt_of_lt_of_le (bX _) (Nat.pow_le_pow_right (by decide) hx));have h2:y.natAbs≤BN^b:=Nat.le_of_lt (Nat.lt_of_lt_of_le (bX _) (Nat.pow_le_pow_right (by decide) hy));rw[Nat.pow_add];exact Nat.mul_le_mul h1 h2
theorem F0 (w:World):(w.alloc (.cells #[] 50)).ownsRow w.heap.size 50 2 (.slice (some ⟨w.heap.size,0,none⟩) 0 0) 0 []:=
 ⟨rfl,.inr ⟨w.heap.size,0,#[],rfl,Nat.le_refl _,Bx.new w [] 50,Nat.le_refl _,Nat.zero_le _,rfl,rfl⟩⟩
theorem Src.below {w W:World} {A:Option Addr} {cs:List Value} (h:Src w A cs) (hb:Below w.heap.size w W):Src W A cs:=by
 rcases h with h|⟨b,off,e,h⟩
 ·exact .inl h
 ·refine .inr ⟨b,off,e,fun i v hv=> ?_⟩;have h1:=h i v hv;exact(hb.cell (p:=⟨b,off+i,none⟩) (block_lt_of_cell h1)).trans h1
theorem Q3 (r v:List Int) (top lead:Int) (k m:Nat) {i:Nat} (h:i<m):(gT r v top lead k m)[i]? =some (cf r i*lead-(if k≤i then top*cf v (i-k) else 0)):=by
 unfold gT;rw[List.getElem?_map,List.getElem?_range h];rfl
theorem Q4 (r v:List Int) (top lead:Int) (k m:Nat):(gT r v top lead k m).length=m:=by unfold gT;rw[List.length_map,List.length_range]
theorem F1 {P x y:Nat} (hx:x≤P) (hy:y≤P) (h0:0<P):0+x<P*BN∧0+x+y<P*BN:=by
 have:P*3≤P*BN:=Nat.mul_le_mul_left _ (by decide);omega
def bd (K t:Nat):Nat:=K+t*(K+1)
theorem Q5 (K t:Nat):bd K (t+1)=bd K t+K+1:=by unfold bd;rw[Nat.succ_mul];omega
theorem lH (K t n:Nat) (h:t≤n):bd K t≤bd K n:=by unfold bd;have:=Nat.mul_le_mul_right (K+1) h;omega
def Q6 (w:World) (xs ys:List Int) (K N b7 b8 b9 g cap:Nat) (le:Int) (k:Nat) (rv kv:Value) (wr:World):Prop:=
 ∃m q r e,kv= .int .i64 ((k:Int)-1)∧rv= .slice (some ⟨g,0,none⟩) r.length cap∧Hid (r.length+1=ys.length+k)∧Hid (q.length=N)∧PQ w wr b7 b8 b9 g m le q r∧Hid (∀i,m*cf xs i=conv (cf q) (cf ys) i+cf r i)∧
  Hid (m=le^e)∧e+k≤N∧(∀n∈q,nl n.natAbs≤bd K (N-k))∧(∀n∈r,nl n.natAbs≤bd K (N-k))∧nl m.natAbs≤bd K (N-k)
def oA (w:World) (xs ys:List Int) (KB:Nat) (e:Ending) (w':World):Prop:=
 ∃vq vr vm q r m,e= .returned (.tuple #[vq,vr,vm])∧WholeAt w' vq q∧WholeAt w' vr r∧IntAt w' vm m∧PQRes xs ys KB m q r∧Below w.heap.size w w'
theorem pE (xs ys:List Int) (vx vy:Value) (w:World) (hx:WholeAt w vx xs) (hy:WholeAt w vy ys) (hy0:ys≠[]) (htx:aN xs) (hty:aN ys) (K KB:Nat) (hKx:∀n∈xs,nl n.natAbs≤K) (hKy:∀n∈ys,nl n.natAbs≤K)
  (hK0:1≤K) (hKB:K+(xs.length+1-ys.length)*(K+1)≤KB) (hKB2:KB+K+8≤aF) (hlx:xs.length≤1073741824) (hly:ys.length≤1073741824):
  Calls Tryz.prog 25 #[vx,vy] w (oA w xs ys KB):=by
 obtain⟨A,c,rfl,hc⟩:=hx.form;obtain⟨A',c',rfl,hc'⟩:=hy.form;have hys0:ys.length≠0:=fun e=>hy0 (List.eq_nil_of_length_eq_zero e);have q1:((ys.length:Int)==0)=false:=by simp;omega
 have hKK:K≤KB:=by
  exact Nat.le_trans (Nat.le_add_right _ _) hKB
 have R:Bx (w.alloc (.cells #[.bool false,.slice none 0 0] 50)) (w.heap.size) [.bool false,.slice none 0 0] 50:=Bx.newAt w [.bool false,.slice none 0 0] 50 (w.heap.size) (by simp);have hb:Below w.heap.size w (w.alloc (.cells #[.bool false,.slice none 0 0] 50)):=(Below.refl _ _).alloc (by simp) _;go_enter Tryz.func25,Tryz.ntmps25;go_wp2_with fail;generalize w.alloc (.cells #[.bool false,.slice none 0 0] 50)=W at *;refine(jK 1 _ (by decide) (by decide)).mono ?_;rintro e1 w1 ⟨v1,rfl,h1,hb1⟩;obtain⟨s1,A1,k1,c1,rfl⟩:=h1.form;replace R:=R.below hb1;replace R_0:=R.cell 0 rfl;replace R_f0:=R.free 0;replace R_1:=R.cell 1 rfl;replace R_f1:=R.free 1;replace hk:=Keep.below hb1;replace hb:=aB hb hb1;by_cases hlt:xs.length<ys.length
 ·have hlt':(xs.length:Int)<(ys.length:Int):=by omega
  have hres:PQRes xs ys KB 1 [] xs:=by
   refine⟨fun i=> ?_,by decide,hlt,(fun a h=>by simp at h),htx,Nat.zero_le _,⟨0,Nat.zero_le _,by rw[Int.pow_zero]⟩,(fun n h=>by cases h),(fun n h=>Nat.le_trans (hKx n h) hKK),?_⟩
   ·rw[Int.one_mul,eR (fun i=>bS i)];show _=0+_
    omega
   ·rw[show nl (1:Int).natAbs=1 from gM (by decide) (by decide)];omega
  have HR:=Lib.hid hres;have R_c10:∀o0:Obj,(w1.alloc o0).cell? ⟨w.heap.size,0,none⟩=some (.bool false):=fun o0=>(R.alloc o0).cell 0 rfl;have R_g10:∀o0:Obj,(w1.alloc o0).frozen? ⟨w.heap.size,0,none⟩=false:=fun o0=>(R.alloc o0).free 0;have R_c11:∀o0:Obj,(w1.alloc o0).cell? ⟨w.heap.size,1,none⟩=some (.slice none 0 0):=fun o0=>(R.alloc o0).cell 1 rfl;have R_g11:∀o0:Obj,(w1.alloc o0).frozen? ⟨w.heap.size,1,none⟩=false:=fun o0=>(R.alloc o0).free 1;go_wp2_with fail;have R_ltw1:=R.lt;have hszw1:=hb.size;replace R:=R.alloc (.cells #[.bool s1,.slice A1 k1 c1] 50);have M:=Bx.newAt w1 [.bool s1,.slice A1 k1 c1] 50 (w1.heap.size) (by simp);replace hb:=hb.alloc hb.size (.cells #[.bool s1,.slice A1 k1 c1] 50);replace hk:=Keep.alloc w1 (.cells #[.bool s1,.slice A1 k1 c1] 50);replace h1:=h1.keep hk;generalize w1.alloc (.cells #[.bool s1,.slice A1 k1 c1] 50)=w2 at *;replace R_0:=R.cell 0 rfl;replace R_f0:=R.free 0;replace R_1:=R.cell 1 rfl;replace R_f1:=R.free 1;replace M_0:=M.cell 0 rfl;replace M_f0:=M.free 0;replace M_1:=M.cell 1 rfl;replace M_f1:=M.free 1;have hxz:=hx.below hb;go_region
  all_goals (
   go_wp2_with fail;have R_ltw2:=R.lt;have M_ltw2:=M.lt;have hszw2:=hb.size;replace M:=(M.far 0 (.bool s1) (show w.heap.size≠w1.heap.size by omega)).far 1 (.slice A1 k1 c1) (show w.heap.size≠w1.heap.size by omega);replace hk:=gE (s:=s1) (u:= .slice A1 k1 c1) hb (by omega) R;clear R hb;obtain⟨-, -,R,hb,hk⟩:=hk;replace h1:=h1.keep hk;generalize (w2.setCell ⟨w.heap.size,0,none⟩ (.bool s1)).setCell ⟨w.heap.size,1,none⟩ (.slice A1 k1 c1)=W6 at *;replace R_0:=R.cell 0 rfl;replace R_1:=R.cell 1 rfl;replace M_0:=M.cell 0 rfl;replace M_1:=M.cell 1 rfl;exact bodyPost_ret (v:= .tuple #[.slice none 0 0,.slice A xs.length c,.agg #[.bool s1,.slice A1 k1 c1]]) (by simp[results,Tryz.results25,go_sem,R_0,R_1]) rfl ⟨_,_,_,[],xs,1,rfl,WholeAt.nil _ _ _,hx.below hb.drew,h1.drew,HR.out,hb.drew⟩)
 ·have hlt':¬(xs.length:Int)<(ys.length:Int):=by omega
  have hleq:cf ys (ys.length-1)≠0:=by
   obtain⟨a,ha⟩:∃a,ys.getLast?=some a:=⟨_,List.getLast?_eq_some_getLast hy0⟩;rw[tJ ha];exact hty a ha
  have hleK:=cI hKy (ys.length-1);obtain⟨N,hN⟩:∃N,N=xs.length-ys.length+1:=⟨_,rfl⟩;have hNi:(xs.length:Int)-ys.length+1=(N:Int):=by omega
  have hN1:N+ys.length=xs.length+1:=by omega
  clear hN;go_wp2_with fail;have R_ltw1:=R.lt;have hszw1:=hb.size;replace R:=R.alloc (.cells #[.bool s1,.slice A1 k1 c1] 50);have M:=Bx.newAt w1 [.bool s1,.slice A1 k1 c1] 50 (w1.heap.size) (by simp);replace hb:=hb.alloc hb.size (.cells #[.bool s1,.slice A1 k1 c1] 50);replace hk:=Keep.alloc w1 (.cells #[.bool s1,.slice A1 k1 c1] 50);replace h1:=h1.keep hk;generalize w1.alloc (.cells #[.bool s1,.slice A1 k1 c1] 50)=w2 at *;replace R_0:=R.cell 0 rfl;replace R_f0:=R.free 0;replace R_1:=R.cell 1 rfl;replace R_f1:=R.free 1;replace M_0:=M.cell 0 rfl;replace M_f0:=M.free 0;replace M_1:=M.cell 1 rfl;replace M_f1:=M.free 1;refine(mR ys _ _ (hy.below hb) hy0 (by omega)).mono ?_;rintro e3 w3 ⟨v3,rfl,h3,hb3⟩;obtain⟨s3,A3,k3,c3,rfl⟩:=h3.form;replace R:=R.below hb3;replace R_0:=R.cell 0 rfl;replace R_f0:=R.free 0;replace R_1:=R.cell 1 rfl;replace R_f1:=R.free 1;replace M:=M.below hb3;replace M_0:=M.cell 0 rfl;replace M_f0:=M.free 0;replace M_1:=M.cell 1 rfl;replace M_f1:=M.free 1;replace hk:=Keep.below hb3;replace h1:=h1.keep hk;replace hb:=aB hb hb3;generalize hle:cf ys (ys.length-1)=le at *;have HLE:=Lib.hid hle;clear hle;have hxs0:xs≠[]:=fun e=>hlt (by rw[e];exact Nat.pos_of_ne_zero hys0);have hNp:0<N:=by omega
  obtain⟨rows,hrl,hrl2,hrk,hsrc,hir,hone⟩:=(hx.below hb).rows hxs0;clear hrl2
  go_wp2_with (first
   |(at_make;refine eZ rfl rfl 50 _ 2 32 Tryz.underlying47 jZ rfl (by decide) N rfl rfl (by first|rfl|omega) (by first|rfl|omega) (by omega) (by omega) ?_;intro w4 hz4 hr4 hb4)
   |(at_builtin;refine eJ rfl rfl 50 _ 2 32 Tryz.underlying47 jZ rfl (by decide) w4.heap.size (.slice (some ⟨w4.heap.size,0,none⟩) 0 0) 0 [] rfl (F0 w4) rows.flatten rfl (by rw[gK hrk,hrl]) (hsrc.below ((((Below.refl _ _).alloc (Nat.le_refl _) _).trans (hb4.mono (by simp))).alloc (Nat.le_trans (by simp) hb4.size) _)) hone (by omega) (by omega) (by simp) ?_;intro v5 w5 ho5 hg5 hat5))
  have hb45:Below w4.heap.size w4 w5:=⟨hg5.os,hg5.tape,hg5.output,Nat.le_trans (by simp) hg5.size,fun k hk=>(hg5.block k (by simp;omega) (fun e=>by simp[Value.ownBlock] at e;omega)).trans (Below.heap_alloc w4 _ k hk)⟩;have hb34:Below w3.heap.size w3 w4:=((Below.refl _ _).alloc (Nat.le_refl _) _).trans (hb4.mono (by simp));have hb35:Below w3.heap.size w3 w5:=aB hb34 hb45;rw[Nat.zero_add,List.nil_append] at ho5;obtain⟨g,cap,rfl,hg1,hg2,hcap,hcm,hS⟩:=BA ho5 hrk hrl rfl (by omega) (hir.keep (Keep.below hb35));have hPQ:PQ w w5 w1.heap.size w3.heap.size (w3.heap.size+1) g 1 le (List.replicate N 0) xs:=by
   refine⟨R.below hb35,⟨_,_,_,_,M.below hb35,h1.below hb35⟩,⟨_,_,_,_,((Bx.new w3 [.bool s3,.slice A3 k3 c3] 50).below hb4).below hb45,h3.below hb35⟩,?_,hS,aB hb hb35,R_ltw1,?_,Nat.lt_succ_self _,?_⟩
   ·have:=OwnW.made hr4;rw[World.size_alloc] at this;exact this.below hb45
   ·exact M.lt
   ·have:=hz4;simp at this;omega
  have hb7:=R_ltw1;clear hb4 hr4 hz4 hg5 hat5 ho5 hb34 hb35 hb45 hS hsrc hir hone hrk hrl R M h1 h3 hk R_0 R_1 R_f0 R_f1 M_0 M_1 M_f0 M_f1 hb;have hbdK:bd K N≤KB:=by
   have h1:=lH K N (xs.length+1-ys.length) (by omega);have h2:bd K (xs.length+1-ys.length)=K+(xs.length+1-ys.length)*(K+1):=rfl;omega
  go_loopg [10,11] N (fun k rv kv wr=>Q6 w xs ys K N w1.heap.size w3.heap.size (w3.heap.size+1) g cap le k rv kv wr)
  case atStart=>
   refine⟨1,List.replicate N 0,xs,0,rfl,rfl,by unfold Hid;omega,by unfold Hid;simp,hPQ,fun i=> ?_,by unfold Hid;rw[Int.pow_zero],by omega,fun n hn=> ?_,fun n hn=> ?_,?_⟩
   ·rw[Int.one_mul,eR (fun i=>by unfold cf;rw[List.getD_eq_getElem?_getD,List.getElem?_replicate];split<;>rfl)];show _=0+_
    omega
   ·rw[List.eq_of_mem_replicate hn];simp[cC]
   ·exact Nat.le_trans (hKx n hn) (by unfold bd;omega)
   ·rw[show nl (1:Int).natAbs=1 from gM (by decide) (by decide)];unfold bd;omega
  case round=>
   clear hPQ;obtain⟨m,q,r,e,rfl,rfl,HRL,HQL,hP,HID,HPW,hek,bq,br,bm⟩:=hrel;generalize wr=wh at *;cases gk with
   |zero=>
    have hrl:r.length<ys.length:=by have:=HRL.out;omega
    have bq':∀n∈q,nl n.natAbs≤KB:=fun n hn=>Nat.le_trans (bq n hn) (by rw[Nat.sub_zero];exact hbdK);have br':∀n∈r,nl n.natAbs≤KB:=fun n hn=>Nat.le_trans (br n hn) (by rw[Nat.sub_zero];exact hbdK);have bm':nl m.natAbs≤KB:=Nat.le_trans bm (by rw[Nat.sub_zero];exact hbdK);have hres:PQRes xs ys KB m (aH aG q) (aH aG r):=by
     refine⟨fun i=> ?_,?_,Nat.lt_of_le_of_lt (cK aG r) hrl,fC q,fC r,?_,⟨e,by omega,by rw[HLE.out];exact HPW.out⟩,fun n hn=>bq' n (fQ hn),fun n hn=>br' n (fQ hn),bm'⟩
     ·rw[HID.out i,dS];congr 1;exact cO (fun j=>(dS q j).symm) (fun _=>rfl) i
     ·rw[HPW.out];exact Int.pow_ne_zero hleq
     ·have h1:=cK aG q;have h2:=HQL.out;omega
    have HRS:=Lib.hid hres;clear hres;obtain⟨sm,Am,km,cm,M,hm⟩:=hP.M;have R:=hP.R;have hbw:=hP.hb;have hQ:=hP.Q.whole N (by rw[HQL.out];exact Nat.le_refl _);have hS:=hP.S.whole cap (by omega);have hqN:=HQL.out;have o2:=hP.o2;have o3:=hP.o3;have o4:=hP.o4;have ht1:=fun W h=>oJ q (some ⟨w3.heap.size+1,0,none⟩) N W h KB bq' (by unfold aF at hKB2;omega) (by omega);have ht2:=fun W h=>oJ r (some ⟨g,0,none⟩) cap W h KB br' (by unfold aF at hKB2;omega) (by omega);rw[hqN] at ht1 hQ;clear hqN bq br bm bq' br' bm' hrl hKx hKy hKK hleq hleK hek hP;generalize aH aG q=Q1 at *;generalize aH aG r=R1 at *;replace M:=M.drew;replace R:=R.drew;replace hbw:=hbw.drew;replace hQ:=hQ.drew;replace hS:=hS.drew;replace hm:=hm.drew;have n_R_M:w.heap.size≠w1.heap.size:=by omega
    replace R_0:=R.cell 0 rfl;replace R_f0:=R.free 0;replace R_1:=R.cell 1 rfl;replace R_f1:=R.free 1;replace M_0:=M.cell 0 rfl;replace M_f0:=M.free 0;replace M_1:=M.cell 1 rfl;replace M_f1:=M.free 1;go_wp2_with fail
    go_region_held3 (fun w'=>w'.cell? ⟨w1.heap.size,0,none⟩=some (.bool sm)∧w'.cell? ⟨w1.heap.size,1,none⟩=some (.slice Am km cm))
     (first|(with_reducible exact⟨M_0,M_1⟩)|(with_reducible exact⟨(aK _ _ _ _ _ _ n_R_M).trans ((aK _ _ _ _ _ _ n_R_M).trans M_0),(aK _ _ _ _ _ _ n_R_M).trans ((aK _ _ _ _ _ _ n_R_M).trans M_1)⟩))
     (first
      |(go_at_call 67;(with_reducible refine(ht1 _ hQ).mono ?_);rintro e6 w6 ⟨rfl,h6,hb6⟩;replace hS:=hS.below hb6;replace hm:=hm.below hb6;replace R:=R.below hb6;replace M:=M.below hb6;replace M_0:=M.cell 0 rfl;replace M_1:=M.cell 1 rfl;replace R_0:=R.cell 0 rfl;replace R_1:=R.cell 1 rfl;replace R_f0:=R.free 0;replace R_f1:=R.free 1;replace hbw:=aB hbw hb6)
      |(go_at_call 67;(with_reducible refine(ht2 _ hS).mono ?_);rintro e7 w7 ⟨rfl,h7,hb7⟩;replace h6:=h6.below hb7;replace hm:=hm.below hb7;replace R:=R.below hb7;replace M:=M.below hb7;replace M_0:=M.cell 0 rfl;replace M_1:=M.cell 1 rfl;replace R_0:=R.cell 0 rfl;replace R_1:=R.cell 1 rfl;replace R_f0:=R.free 0;replace R_f1:=R.free 1;replace hbw:=aB hbw hb7))
    go_wp2_with fail;obtain⟨⟨s8,A8,k8,c8,R8, -⟩,hst⟩:=IntBx.stored (w:=w7) (b:=w.heap.size) (m:=0) ⟨_,_,_,_,R,IntAt.zero _⟩ hm;have z6:=h6.step hst (fun b e=>by injection e with e;injection e with e;omega);have z7:=h7.step hst (fun b e=>by injection e with e;injection e with e;omega);have zm:=hm.keep hst.1;have zb:=dE hbw hst (Nat.le_refl _);obtain⟨z0,z1, -, -, -⟩:=gE (s:=sm) (u:= .slice Am km cm) hbw (Nat.le_refl _) R;clear R8 hst;generalize (w7.setCell ⟨w.heap.size,0,none⟩ (.bool sm)).setCell ⟨w.heap.size,1,none⟩ (.slice Am km cm)=W6 at *;exact bodyPost_ret (v:= .tuple #[.slice (some ⟨w3.heap.size+1,0,none⟩) Q1.length N,.slice (some ⟨g,0,none⟩) R1.length cap,.agg #[.bool sm,.slice Am km cm]]) (by simp[results,Tryz.results25,go_sem,z0,z1]) rfl ⟨_,_,_,Q1,R1,m,rfl,z6,z7,zm,HRS.out,zb⟩
   |succ k=>
    obtain⟨p,hp⟩:∃p,p=ys.length-1+k:=⟨_,rfl⟩;have hpi:(ys.length:Int)-1+k=(p:Int):=by omega
    have HPP:=Lib.hid hp;have hrp:r.length=p+1:=by have:=HRL.out;omega
    have HRP:=Lib.hid hrp;have hp1:p<r.length:=by omega
    have hp2:(p:Int)<(r.length:Int):=by omega
    have hp3:p≤cap:=by omega
    have hp4:(0:Int)≤(p:Int):=by omega
    have hp5:(p:Int)≤(r.length:Int):=by omega
    have hkN:k<N:=by omega
    have hk0:(0:Int)≤(k:Int):=by omega
    have e1:N-k=(N-(k+1))+1:=by omega
    have hbs:bd K (N-k)=bd K (N-(k+1))+K+1:=by rw[e1,Q5]
    have HBS:=Lib.hid hbs;have hbl:bd K (N-k)≤KB:=Nat.le_trans (lH K _ N (by omega)) hbdK;obtain⟨st,At,kt,ct,g0,g1,htop⟩:=hP.S.at_ (List.getElem?_eq_getElem hp1);have hcf:r[p]=cf r p:=(dO hp1).symm;rw[hcf] at htop;have btop:=cI br p;have hcut:=hP.cut p;obtain⟨sl,Al,kl,cl,L,hL⟩:=hP.L;have hskip:=fun h0=>JB (n:=p) h0 hrp HID.out;have HSK:=Lib.hid hskip;clear hp hrp e1 hbs hcf hskip;have L_c10:∀o0:Obj,(wh.alloc o0).cell? ⟨w3.heap.size,0,none⟩=some (.bool sl):=fun o0=>(L.alloc o0).cell 0 rfl;have L_g10:∀o0:Obj,(wh.alloc o0).frozen? ⟨w3.heap.size,0,none⟩=false:=fun o0=>(L.alloc o0).free 0;have L_c11:∀o0:Obj,(wh.alloc o0).cell? ⟨w3.heap.size,1,none⟩=some (.slice Al kl cl):=fun o0=>(L.alloc o0).cell 1 rfl;have L_g11:∀o0:Obj,(wh.alloc o0).frozen? ⟨w3.heap.size,1,none⟩=false:=fun o0=>(L.alloc o0).free 1;go_wp2_with fail;have hbT:Below wh.heap.size wh (wh.alloc (.cells #[.bool st,.slice At kt ct] 50)):=(Below.refl _ _).alloc (Nat.le_refl _) _;have hgT:=hP.S.lt;have T:=Bx.new wh [.bool st,.slice At kt ct] 50;have hP':=hP.below hbT;replace hcut:=hcut.below hbT;replace htop:=htop.below hbT;replace L:=L.below hbT;replace hL:=hL.below hbT;obtain⟨gt,hgt⟩:∃gt,wh.heap.size=gt:=⟨_,rfl⟩;rw[hgt] at T hgT⊢;clear hP hbT g0 g1 hgt L_c10 L_c11 L_g10 L_g11;generalize wh.alloc (.cells #[.bool st,.slice At kt ct] 50)=wa at *;refine(cU _ _ _ htop (by unfold aF at hKB2;have:=lH K (N-(k+1)) (N-k) (by omega);omega)).mono ?_;rintro ez wz ⟨rfl,hbz⟩;replace T:=T.below hbz;replace hP':=hP'.below hbz;replace hcut:=hcut.below hbz;replace htop:=htop.below hbz;replace L:=L.below hbz;replace hL:=hL.below hbz;by_cases h0:cf r p=0
    ·have hd:decide (cf r p=0)=true:=by simpa using h0
     have hid:=HSK.out h0;rw[hd];have HID2:=Lib.hid hid;clear hd hid;go_wp2_with fail;go_roundg k
     case rel=>
      refine⟨m,q,r.take p,e,by go_num,?_,?_,HQL,hcut,HID2,HPW,by omega,fun n hn=> ?_,fun n hn=> ?_,?_⟩
      ·rw[List.length_take,Nat.min_eq_left (by omega)]
      ·unfold Hid;rw[List.length_take,Nat.min_eq_left (by omega),HPP.out];omega
      ·exact Nat.le_trans (bq n hn) (lH K _ _ (by omega))
      ·exact Nat.le_trans (br n (List.mem_of_mem_take hn)) (lH K _ _ (by omega))
      ·exact Nat.le_trans bm (lH K _ _ (by omega))
     case measure=>omega
    ·have hd:decide (cf r p=0)=false:=by simpa using h0
     rw[hd];clear hd HSK hcut;have T_0:=T.cell 0 rfl;have T_1:=T.cell 1 rfl;have L_0:=L.cell 0 rfl;have L_1:=L.cell 1 rfl;go_wp2_with fail;refine(jL _ _ _ hL (by unfold aF at hKB2;omega)).mono ?_;rintro eo wo ⟨rfl,hbo⟩;replace T:=T.below hbo;replace hP':=hP'.below hbo;replace htop:=htop.below hbo;have hTB:IntBx wo gt (cf r p):=⟨_,_,_,_,T,htop⟩;have bmN:nl m.natAbs≤KB:=Nat.le_trans bm (Nat.le_trans (lH K _ (N-k) (by omega)) hbl);have bqN:∀n∈q,nl n.natAbs≤KB:=fun n hn=>Nat.le_trans (bq n hn) (Nat.le_trans (lH K _ (N-k) (by omega)) hbl);clear T T_0 T_1 L L_0 L_1 hL htop;go_upto_if 67 with fail;go_cut [] (fun wx=>PQ w wx w1.heap.size w3.heap.size (w3.heap.size+1) g (m*le) le (q.map (·*le)) r∧IntBx wx gt (cf r p))
     case first=>
      by_cases hl1:le=1
      ·have hd:decide (le=1)=true:=by simpa using hl1
       have em:m*le=m:=by rw[hl1,Int.mul_one]
       have eq:q.map (·*le)=q:=by
        rw[hl1];exact(List.map_congr_left (fun a _=>Int.mul_one a)).trans (List.map_id q)
       rw[hd];have HE:=Lib.hid (And.intro em eq);clear hd em eq hl1;go_wp2_with fail;go_meet;rw[HE.out.1,HE.out.2];exact⟨hP',hTB⟩
      ·have hd:decide (le=1)=false:=by simpa using hl1
       rw[hd];clear hd;obtain⟨sm,Am,km,cm,M,hm⟩:=hP'.M;obtain⟨sl,Al,kl,cl,L,hL⟩:=hP'.L;have M_0:=M.cell 0 rfl;have M_1:=M.cell 1 rfl;have L_0:=L.cell 0 rfl;have L_1:=L.cell 1 rfl;have hmul:=fun W v u h1 h2=>f8 m le v u W h1 h2 (by unfold aF at hKB2;omega);unfold bW at hmul;generalize hml:m*le=ml at *;go_wp2_with fail;refine(hmul _ _ _ hm hL).mono ?_;rintro e2 w2 ⟨v2,rfl,h2,hb2⟩;obtain⟨s2,A2,k2,c2,rfl⟩:=h2.form;replace hP':=hP'.below hb2;replace hTB:=hTB.below hb2;replace M:=M.below hb2;replace M_0:=M.cell 0 rfl;replace M_1:=M.cell 1 rfl;have M_f0:=M.free 0;have M_f1:=M.free 1;clear hmul;go_wp2_with fail;have hst:=(IntBx.stored (m:=m) ⟨_,_,_,_,M,hm.below hb2⟩ h2).2;have o2:=hP'.o2;have o3:=hP'.o3;have o4:=hP'.o4;replace hTB:=hTB.step hst (by omega);replace hP':=hP'.setM h2;clear hst M M_0 M_1 M_f0 M_f1 L L_0 L_1 hL hm h2;generalize (w2.setCell ⟨w1.heap.size,0,none⟩ (.bool s2)).setCell ⟨w1.heap.size,1,none⟩ (.slice A2 k2 c2)=wm at *;have hql:q.length=(q.map (·*le)).length:=(List.length_map _).symm;have HQQ:=Lib.hid hql;clear hql;go_loopg [73] N (fun k' i wx=>∃j,Hid (j+k'=N)∧i= .int .i64 j∧PQ w wx w1.heap.size w3.heap.size (w3.heap.size+1) g ml le ((q.map (·*le)).take j++q.drop j) r∧IntBx wx gt (cf r p))
       case atStart=>exact⟨0,by unfold Hid;omega,rfl,by simpa using hP',hTB⟩
       case round=>
        clear hP' hTB;obtain⟨j,HJ,rfl,hP',hTB⟩:=hrel;generalize wr=wx at *;have hj0:(0:Int)≤(j:Int):=by omega
        cases gk with
        |zero=>
         have hj:j=N:=HJ.out;subst hj;go_wp2_with fail;go_meet;rw[List.take_of_length_le (by rw[←HQQ.out,HQL.out];exact Nat.le_refl _),List.drop_of_length_le (by rw[HQL.out];exact Nat.le_refl _),List.append_nil] at hP';exact⟨hP',hTB⟩
        |succ k'=>
         have hjN:j<q.length:=by have:=HJ.out;rw[HQL.out];omega
         have hj1:(j:Int)<(N:Int):=by have:=HJ.out;omega
         have htg:=rS (ys:=q.map (·*le)) hjN HQQ.out;have htl:=rT (j:=j) HQQ.out;have hts:=rR (xs:=q) (ys:=q.map (·*le)) (y:=q[j]*le) (j:=j) (by rw[List.getElem?_map,List.getElem?_eq_getElem hjN];rfl) HQQ.out;rw[List.getElem?_eq_getElem hjN] at htg;have bqj:=bqN _ (List.getElem_mem hjN);have hgx:j<((q.map (·*le)).take j++q.drop j).length:=by rw[htl];exact hjN
         generalize q[j]=x at *;obtain⟨s,B,l,d,g0,g1,hi⟩:=hP'.Q.at_ htg;obtain⟨sl,Al,kl,cl,L,hL⟩:=hP'.L;have L_0:=L.cell 0 rfl;have L_1:=L.cell 1 rfl;have f0:=hP'.Q.free (j*2);have f1:=hP'.Q.free (j*2+1);have hPd:=hP'.drew;have hTd:=hTB.below (Below.refl _ _).drew;have hid:=hi.drew;have hLd:=hL.drew;have HTS:=Lib.hid hts;clear htg htl hts hjN hP' hTB hi hL L;go_wp2_with fail
         go_region_with (first
          |(go_at_call 57;(with_reducible refine(f8 x le _ _ _ hid hLd (by unfold aF at hKB2;omega)).mono ?_);rintro e2 w2 ⟨v2,rfl,h2,hb2⟩;obtain⟨s2,A2,k2,c2,rfl⟩:=h2.form;replace hPd:=hPd.below hb2;replace hTd:=hTd.below hb2;obtain⟨s',B',l',d',g0',g1', -⟩:=hPd.Q.at_ (List.getElem?_eq_getElem hgx);have f0':=hPd.Q.free (j*2);have f1':=hPd.Q.free (j*2+1)))
         all_goals (
          go_wp2_with fail;have hst:=(hPd.Q.stored hgx h2).2;have o4:=hPd.o4;have zT:=hTd.step hst (by omega);have zP:=hPd.setQ hgx h2;rw[HTS.out] at zP;go_roundg k'
          case rel=>exact⟨j+1,by have:=HJ.out;unfold Hid;omega,by go_num,zP,zT⟩
          case measure=>omega)
     case rest=>
      clear hP' hTB;obtain⟨hP',hTB⟩:=hcut;generalize htp:cf r p=top at *;have HTP:=Lib.hid htp;have hkq:k<q.length:=by rw[HQL.out];exact hkN
      have hki:(k:Int)<(N:Int):=by omega
      have hkm:k<(q.map (·*le)).length:=by rw[List.length_map];exact hkq
      have hge:(q.map (·*le))[k]? =some (cf q k*le):=by rw[List.getElem?_map,List.getElem?_eq_getElem hkq,dO hkq];rfl
      have hqd:(q.map (·*le)).set k (cf q k*le+top)=jY q top le k:=rfl;have bqk:=cI bqN k;have btN:nl top.natAbs≤KB:=Nat.le_trans btop (Nat.le_trans (lH K _ (N-k) (by omega)) hbl);have bqm:=bZ (cf q k) le _ _ bqk hleK;generalize cf q k*le=qk at *;obtain⟨s,B,l,d,g0,g1,hi⟩:=hP'.Q.at_ hge;obtain⟨st,At,kt,ct,T,hT⟩:=id hTB;have T_0:=T.cell 0 rfl;have T_1:=T.cell 1 rfl;have f0:=hP'.Q.free (k*2);have f1:=hP'.Q.free (k*2+1);have hPd:=hP'.drew;have hTd:=hTB.below (Below.refl _ _).drew;have hid:=hi.drew;have hTT:=hT.drew;have HQD:=Lib.hid hqd;clear hge hqd htp hP' hTB hi hT T bqk;go_upto_region 20 with fail;go_cut [] (fun wx=>PQ w wx w1.heap.size w3.heap.size (w3.heap.size+1) g (m*le) le (jY q top le k) r∧IntBx wx gt top)
      case first=>
       go_region_with (first
        |(go_at_call 63;(with_reducible refine(nI qk top _ _ _ hid hTT (by unfold aF at hKB2;omega) (by unfold aF at hKB2;omega)).mono ?_);rintro e2 w2 ⟨v2,rfl,h2,hb2⟩;obtain⟨s2,A2,k2,c2,rfl⟩:=h2.form;replace hPd:=hPd.below hb2;replace hTd:=hTd.below hb2;obtain⟨s',B',l',d',g0',g1', -⟩:=hPd.Q.at_ (List.getElem?_eq_getElem hkm);have f0':=hPd.Q.free (k*2);have f1':=hPd.Q.free (k*2+1)))
       all_goals (
        go_wp2_with fail;have hst:=(hPd.Q.stored hkm h2).2;have o4:=hPd.o4;have zT:=hTd.step hst (by omega);have zP:=hPd.setQ hkm h2;rw[HQD.out] at zP;go_meet;exact⟨zP,zT⟩)
      case rest=>
       clear hPd hTd hid hTT T_0 T_1 g0 g1 f0 f1 bqm HQD hkm;obtain⟨hP',hTB⟩:=hcut;have hRR:r.length=p+1:=HRP.out;have hrt:(r.take p).length=p:=by rw[List.length_take];omega
       have HRT:=Lib.hid hrt;have hrn:=Q4 r ys top le k p;have HRN:=Lib.hid (hrt.trans hrn.symm);have HRL2:=Lib.hid hrn;have hgo:=hP'.S.lt;replace hP':=hP'.cut p;have bqf:=PZ (k:=k) bq btop hleK;have brf:=PY (k:=k) (m:=p) br hKy btop hleK;rw[←HBS.out] at bqf brf;have hidf:=JA (k:=k) (lead:=le) hy0 (by rw[hRR,HPP.out];omega) hkq (HLE.out.symm) HID.out;rw[←HPP.out,HTP.out] at hidf;have HIDF:=Lib.hid hidf;have hmf:=bZ m le _ _ bm hleK;have BF:=Lib.hid (And.intro bqf (And.intro brf hmf));clear hrt hrn hRR bqf brf hidf hmf;have hQ2:(jY q top le k).length=q.length:=by unfold jY;rw[List.length_set,List.length_map]
       generalize jY q top le k=Q2 at *;have HQ2:=Lib.hid hQ2;clear hQ2;go_wp2_with fail;go_loopg [97] p (fun k' i wx=>∃j,Hid (j+k'=p)∧i= .int .i64 j∧PQ w wx w1.heap.size w3.heap.size (w3.heap.size+1) g (m*le) le Q2 ((gT r ys top le k p).take j++(r.take p).drop j)∧IntBx wx gt top)
       case atStart=>exact⟨0,by unfold Hid;omega,rfl,by simpa using hP',hTB⟩
       case round=>
        clear hP' hTB;obtain⟨j,HJ,rfl,hP',hTB⟩:=hrel;generalize wr=wi at *;have hj0:(0:Int)≤(j:Int):=by omega
        cases gk with
        |zero=>
         have hj:j=p:=HJ.out;subst hj;go_wp2_with fail;go_roundg k
         case rel=>
          rw[List.take_of_length_le (by rw[HRL2.out];exact Nat.le_refl _),List.drop_of_length_le (by rw[HRT.out];exact Nat.le_refl _),List.append_nil] at hP';refine⟨m*le,Q2,gT r ys top le k j,e+1,by go_num,by rw[HRL2.out],?_,?_,hP',HIDF,?_,by omega,BF.out.1,BF.out.2.1,?_⟩
          ·unfold Hid;rw[HRL2.out,HPP.out];omega
          ·unfold Hid;rw[HQ2.out];exact HQL.out
          ·unfold Hid;rw[HPW.out,Int.pow_succ]
          ·have:=BF.out.2.2;rw[HBS.out];omega
         case measure=>omega
        |succ k'=>
         have hjp:j<p:=by have:=HJ.out;omega
         have hj1:(j:Int)<(p:Int):=by omega
         have htg:=rS (ys:=gT r ys top le k p) (show j<(r.take p).length by rw[HRT.out];exact hjp) HRN.out;have hts:=rR (xs:=r.take p) (ys:=gT r ys top le k p) (j:=j) (Q3 r ys top le k p hjp) HRN.out;have hgx:j<((gT r ys top le k p).take j++(r.take p).drop j).length:=by rw[rT HRN.out,HRT.out];exact hjp
         have hjr:j<r.length:=by have:=HRP.out;omega
         rw[List.getElem?_take,if_pos hjp,List.getElem?_eq_getElem hjr,←dO hjr] at htg;have brj:nl (cf r j).natAbs≤KB:=Nat.le_trans (cI br j) (Nat.le_trans (lH K _ (N-k) (by omega)) hbl);have hyv:k≤j→j-k<ys.length:=fun h=>by have:=HPP.out;omega
         generalize cf r j=x at *;have HTS:=Lib.hid hts;clear hts;generalize (gT r ys top le k p).take j++(r.take p).drop j=RJ at *;obtain⟨s,B,l,d,g0,g1,hi⟩:=hP'.S.at_ htg;obtain⟨sl,Al,kl,cl,L,hL⟩:=hP'.L;obtain⟨st,At,kt,ct,T,hT⟩:=id hTB;have hbwi:=hP'.hb;have hwg:=hP'.S.lt;have hwl:=L.lt;have hwt:=T.lt;have hS0:=SumAt.new wi (KB+K+1);have hbS:Below wi.heap.size wi (wi.alloc (.cells #[.slice none 0 0,.slice none 0 0] 118)):=(Below.refl _ _).alloc (Nat.le_refl _) _;obtain⟨hM1,hM2⟩:=F1 (qO brj hleK) (Nat.le_refl (BN^(KB+K))) (Nat.pow_pos (by decide));have hpl:=qO brj hleK;have hadd:=fun W h1 h2 h3=>vG wi.heap.size (wi.heap.size+1) (KB+K+1) 0 0 x le s B l d sl Al kl cl W h1 h2 h3 hi.blk hL.blk (by omega) (by unfold aF at hKB2;unfold aF;omega) (by rw[Nat.pow_succ];exact hM1);rw[Int.zero_add,Nat.zero_add] at hadd;have hi5:=(hi.below hbS).drew;have hL5:=(hL.below hbS).drew;have hS5:=hS0.drew;have gg0:=(hbS.cell (p:=⟨g,j*2,none⟩) hwg).trans g0;have gg1:=(hbS.cell (p:=⟨g,j*2+1,none⟩) hwg).trans g1;have L_0:=(hbS.cell (p:=⟨w3.heap.size,0,none⟩) hwl).trans (L.cell 0 rfl);have L_1:=(hbS.cell (p:=⟨w3.heap.size,1,none⟩) hwl).trans (L.cell 1 rfl);clear htg hM1 hM2 g0 g1 hi hL hS0;go_wp2_with fail;generalize wi.alloc (.cells #[.slice none 0 0,.slice none 0 0] 118)=ws at *
         go_region_held3 (fun w'=>w'.cell? ⟨g,j*2,none⟩=some (.bool s)∧w'.cell? ⟨g,j*2+1,none⟩=some (.slice B l d)∧w'.cell? ⟨w3.heap.size,0,none⟩=some (.bool sl)∧w'.cell? ⟨w3.heap.size,1,none⟩=some (.slice Al kl cl))
          (first|(exact⟨gg0,gg1,L_0,L_1⟩)|(exact⟨(hb5.cell (p:=⟨g,j*2,none⟩) hwg).trans gg0,(hb5.cell (p:=⟨g,j*2+1,none⟩) hwg).trans gg1,(hb5.cell (p:=⟨w3.heap.size,0,none⟩) hwl).trans L_0,(hb5.cell (p:=⟨w3.heap.size,1,none⟩) hwl).trans L_1⟩))
          (first|(go_at_call 64;(with_reducible refine(hadd _ hS5 hi5 hL5).mono ?_);rintro e5 w5 ⟨rfl,h5,hb5, -⟩))
         have hb6:Below wi.heap.size wi w5:=hbS.drew.trans hb5;clear hadd hi5 hL5 hS5 gg0 gg1 L_0 L_1 hbS hb5 L;have hPw:=hP'.below hb6;have hTw:=hTB.below hb6;have hPi:=hP';have hTi:=hTB;clear hP' hTB;by_cases hkj:k≤j
         ·have hkj':(k:Int)≤(j:Int):=by omega
          obtain⟨u,hu⟩:∃u,u=j-k:=⟨_,rfl⟩;have hul:u<ys.length:=by rw[hu];exact hyv hkj
          rw[if_pos hkj,←hu] at HTS;obtain⟨b',s',B',l',d',hA'e,hbl',p0,p1,hi',hmem'⟩:=(hy.below hbwi).get (i:=u) hul;subst hA'e;have byu:=hKy _ hmem';have hpl2:=qO btN byu;replace p0:=(hb6.cell (p:=⟨b',u*2,none⟩) hbl').trans p0;replace p1:=(hb6.cell (p:=⟨b',u*2+1,none⟩) hbl').trans p1;have T_0:=(hb6.cell (p:=⟨gt,0,none⟩) hwt).trans (T.cell 0 rfl);have T_1:=(hb6.cell (p:=⟨gt,1,none⟩) hwt).trans (T.cell 1 rfl);have hM2:=(F1 hpl hpl2 (Nat.pow_pos (by decide))).2;rw[Nat.zero_add] at hM2;have hsub:=fun W h1 h0 h2 h3=>JG wi.heap.size w5.heap.size (KB+K+1) (x.natAbs*le.natAbs) (x*le) top (cf ys u) st At kt ct s' B' l' d' W h1 h0 h2 h3 hT.blk hi'.blk (by omega) (by unfold aF at hKB2;unfold aF;omega) (by rw[Nat.pow_succ];exact hM2);have h5d:=h5.drew;have hTd:=(hT.below hb6).drew;have hid:=(hi'.below hb6).drew;have hwr:IntKind.i64.wrap ((j:Int)-k)=(j:Int)-k:=by rw[IntKind.wrap_i64];omega
          have hA:(0:Int)≤(j:Int)-k:=by omega
          have hB:(j:Int)-k<(ys.length:Int):=by omega
          have hC:((j:Int)-k).toNat=u:=by omega
          generalize cf ys u=Y at *;clear hu hpl hpl2 hM2 hmem' hi' hT T h5;go_wp2_with fail
          go_region_held3 (fun w'=>w'.cell? ⟨gt,0,none⟩=some (.bool st)∧w'.cell? ⟨gt,1,none⟩=some (.slice At kt ct)∧w'.cell? ⟨b',u*2,none⟩=some (.bool s')∧w'.cell? ⟨b',u*2+1,none⟩=some (.slice B' l' d'))
           (first|(exact⟨T_0,T_1,p0,p1⟩)|(exact⟨(hb7'.cell (p:=⟨gt,0,none⟩) hwt).trans T_0,(hb7'.cell (p:=⟨gt,1,none⟩) hwt).trans T_1,(hb7'.cell (p:=⟨b',u*2,none⟩) hbl').trans p0,(hb7'.cell (p:=⟨b',u*2+1,none⟩) hbl').trans p1⟩))
           (first|(go_at_call 65;(with_reducible refine(hsub _ h5d (Nat.le_refl _) hTd hid).mono ?_);rintro e7 w7 ⟨rfl,h7,hb7'⟩))
          have hb67:Below w5.heap.size w5 w5:=Below.refl _ _;clear hsub h5d hTd hid T_0 T_1 p0 p1 hb67;have hbw7:Below wi.heap.size wi w7:=hb6.drew.trans hb7';replace hPw:=hPi.below hbw7;replace hTw:=hTi.below hbw7;go_wp2_with fail;have hsv:=vF wi.heap.size w7.heap.size (KB+K+1) _ _ w7 h7 (by unfold aF at hKB2;unfold aF;omega);refine hsv.mono ?_;rintro e8 w8 ⟨v8,rfl,h8,hb8⟩;obtain⟨s8,A8,k8,c8,rfl⟩:=h8.form;replace hPw:=hPw.below hb8;replace hTw:=hTw.below hb8;obtain⟨s9,B9,l9,d9,g0,g1, -⟩:=hPw.S.at_ (List.getElem?_eq_getElem hgx);have f0:=hPw.S.free (j*2);have f1:=hPw.S.free (j*2+1);clear hsv;go_wp2_with fail;have hst:=(hPw.S.stored hgx h8).2;have zT:=hTw.step hst (by omega);have zP:=hPw.setS hgx h8;rw[HTS.out] at zP;go_roundg k'
          case rel=>exact⟨j+1,by have:=HJ.out;unfold Hid;omega,by go_num,zP,zT⟩
          case measure=>omega
         ·have hkj':¬(k:Int)≤(j:Int):=by omega
          rw[if_neg hkj,Int.sub_zero] at HTS;go_wp2_with fail;have hsv:=vF wi.heap.size w5.heap.size (KB+K+1) _ _ w5 h5 (by unfold aF at hKB2;unfold aF;omega);refine hsv.mono ?_;rintro e8 w8 ⟨v8,rfl,h8,hb8⟩;obtain⟨s8,A8,k8,c8,rfl⟩:=h8.form;replace hPw:=hPw.below hb8;replace hTw:=hTw.below hb8;obtain⟨s9,B9,l9,d9,g0,g1, -⟩:=hPw.S.at_ (List.getElem?_eq_getElem hgx);have f0:=hPw.S.free (j*2);have f1:=hPw.S.free (j*2+1);clear hsv;go_wp2_with fail;have hst:=(hPw.S.stored hgx h8).2;have zT:=hTw.step hst (by omega);have zP:=hPw.setS hgx h8;rw[HTS.out] at zP;go_roundg k'
          case rel=>exact⟨j+1,by have:=HJ.out;unfold Hid;omega,by go_num,zP,zT⟩
          case measure=>omega
end Go.Proofs.YtbhplgdbfmifkaaGreatDoor
