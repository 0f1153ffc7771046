/-
  Contracts, laws: RatB.
-/
import Derived.Test.YthfnenohhindpaaGreatDoorC21
set_option linter.all false
set_option maxHeartbeats 8000000
set_option maxRecDepth 100000
namespace Go.Proofs.YthfnenohhindpaaGreatDoor
open Go.RowKit Sos
theorem DP (n d K:Nat) (hn:n≠0) (h:nl n<=K):nl (Nat.gcd n d)<=K:=aG (bX (Nat.le_of_dvd (by omega) (Nat.gcd_dvd_left _ _))) h
theorem iR (x y:Int) (K:Nat) (h:nl x.natAbs<=K):nl (x.tdiv y).natAbs<=K:=by
 refine aG (bX ?_) h;rw[Int.natAbs_tdiv];exact Nat.div_le_self _ _
def DQ (w:World) (q:Rat) (K:Nat) (k:Bool) (a:World):Prop:=
 ∃n d i b g e j c h f,Bx a w.heap.size [.bool i,.slice b g e] 59∧Bx a (w.heap.size+1) [.bool j,.slice c h f] 59∧
  Bx a (w.heap.size+1+1) [.bool false,.slice none 0 0,.bool false,.slice none 0 0] 66∧IntAt a (.agg #[.bool i,.slice b g e]) n∧IntAt a (.agg #[.bool j,.slice c h f]) d∧
  0<d∧n≠0∧Hid ((n:Rat)/d=q)∧nl n.natAbs<=K∧nl d.natAbs<=K∧(k=true->Hid (q.num=n∧(q.den:Int)=d))∧Below w.heap.size w a
theorem tF (n d:Int) (vn vd:Value) (w:World) (hG:Glob w) (hn:IntAt w vn n) (i:IntAt w vd d) (K:Nat) (x:nl n.natAbs<=K) (bd:nl d.natAbs<=K) (hK:5*K+4<=aI):
  Calls Tryz.prog 68 #[vn,vd] w (eP w ((n:Rat)/d)):=by
 unfold aI at hK;obtain⟨sn,An,kn,cn,rfl⟩:=hn.form;obtain⟨sd,Ad,kd,cd,rfl⟩:=i.form;obtain⟨W,eW,a,b,c,R⟩:=fF w [.bool sn,.slice An kn cn] 59 [.bool sd,.slice Ad kd cd] 59 [.bool false,.slice none 0 0,.bool false,.slice none 0 0] 66;have o:=aa b.g2 (aa c.g2 R.g4);go_enter Tryz.func68,Tryz.ntmps68;go_wp2_with fail;(try rw[eW]);clear eW;replace hn:=hn.below a;replace i:=i.below a;refine(fD d _ _ i (by omega)).mono ?_;rintro e1 w1 ⟨rfl,U⟩;replace b:=b.below U;replace c:=c.below U;replace R:=R.below U;replace o:=aa b.k2 (aa c.k2 R.g4);replace f:=Keep.below U;replace hn:=hn.keep f;replace i:=i.keep f;replace a:=aC a U;by_cases D:d=0
 ·have l:decide (d=0)=true:=by simpa using D
  have H:(n:Rat)/d=0:=by rw[D,Rat.intCast_zero];grind
  rw[l];have t:=aB H;clear l H;go_wp2_with fail;obtain⟨W6,y,R,a,f,z⟩:=R.put4 a (by omega) (.bool false) (.slice none 0 0) (.bool false) (.slice none 0 0) rfl rfl;replace b:=z b (by omega);replace c:=z c (by omega);rw[y];clear y;replace o:=aa b.k2 (aa c.k2 R.k4);exact aK (v:= .agg #[.bool false,.slice none 0 0,.bool false,.slice none 0 0]) (by simp[results,Tryz.results68,go_sem,R.k4]) rfl ⟨_,rfl,RatAt.of (IntAt.zero _) (IntAt.zero _) (by rw[t.out];rfl) (by rw[t.out];rfl),a⟩
 ·have l:decide (d=0)=false:=by simpa using D
  rw[l];clear l;go_wp2_with fail;refine(fD n _ _ hn (by omega)).mono ?_;rintro e2 w2 ⟨rfl,V⟩;replace b:=b.below V;replace c:=c.below V;replace R:=R.below V;replace o:=aa b.k2 (aa c.k2 R.g4);replace f:=Keep.below V;replace hn:=hn.keep f;replace i:=i.keep f;replace a:=aC a V;by_cases C:n=0
  ·have l:decide (n=0)=true:=by simpa using C
   have H:(n:Rat)/d=0:=by rw[C];exact BH d
   rw[l];have t:=aB H;clear l H;go_wp2_with fail;obtain⟨W6,y,R,a,f,z⟩:=R.put4 a (by omega) (.bool false) (.slice none 0 0) (.bool false) (.slice none 0 0) rfl rfl;replace b:=z b (by omega);replace c:=z c (by omega);rw[y];clear y;replace o:=aa b.k2 (aa c.k2 R.k4);exact aK (v:= .agg #[.bool false,.slice none 0 0,.bool false,.slice none 0 0]) (by simp[results,Tryz.results68,go_sem,R.k4]) rfl ⟨_,rfl,RatAt.of (IntAt.zero _) (IntAt.zero _) (by rw[t.out];rfl) (by rw[t.out];rfl),a⟩
  ·have l:decide (n=0)=false:=by simpa using C
   rw[l];clear l;go_wp2_with fail;refine(pZ d _ _ i (by omega)).mono ?_;rintro e3 w3 ⟨rfl,A⟩;replace b:=b.below A;replace c:=c.below A;replace R:=R.below A;replace o:=aa b.g2 (aa c.g2 R.g4);replace f:=Keep.below A;replace hn:=hn.keep f;replace i:=i.keep f;replace a:=aC a A;go_upto_if 15 with fail;go_cut [] (fun wx=>DQ w ((n:Rat)/d) K false wx)
   case first=>
    by_cases au:d<0
    ·have Y:d.sign= -1:=Int.sign_eq_neg_one_of_neg au;rw[Y];clear Y;go_wp2_with fail;replace hn:=hn.drew;replace i:=i.drew;replace b:=b.drew;replace c:=c.drew;replace R:=R.drew;replace a:=a.drew
     go_region_with (first
       |(go_at_call 56;(with_reducible refine(oO n _ _ hn (by omega)).mono ?_);rintro e4 J ⟨v4,rfl,j,B⟩;obtain⟨s4,Q,Z,S,rfl⟩:=j.form;replace b:=b.below B;replace c:=c.below B;replace R:=R.below B;replace o:=aa b.g2 (aa c.g2 R.g4);replace f:=Keep.below B;replace hn:=hn.keep f;replace i:=i.keep f;(try replace E:=E.keep f);replace a:=aC a B)
       |(go_at_call 56;(with_reducible refine(oO d _ _ i (by omega)).mono ?_);rintro e5 w5 ⟨v5,rfl,E,X⟩;obtain⟨s5,A5,k5,c5,rfl⟩:=E.form;replace b:=b.below X;replace c:=c.below X;replace R:=R.below X;replace o:=aa b.g2 (aa c.g2 R.g4);replace f:=Keep.below X;replace hn:=hn.keep f;replace i:=i.keep f;(try replace j:=j.keep f);replace a:=aC a X))
     all_goals (
      go_wp2_with fail;have aw:=b.lt;have az:=c.lt;have a3:=R.lt;have a6:=a.size;replace c:=(c.far 0 (.bool s4) (show w.heap.size≠w.heap.size+1 by omega)).far 1 (.slice Q Z S) (show w.heap.size≠w.heap.size+1 by omega);replace R:=(R.far 0 (.bool s4) (show w.heap.size≠w.heap.size+1+1 by omega)).far 1 (.slice Q Z S) (show w.heap.size≠w.heap.size+1+1 by omega);replace f:=gX (s:=s4) (u:= .slice Q Z S) a (by omega) b;clear b a;obtain⟨-, -,b,a,f⟩:=f;replace j:=j.keep f;replace E:=E.keep f;replace b:=(b.far 0 (.bool s5) (show w.heap.size+1≠w.heap.size by omega)).far 1 (.slice A5 k5 c5) (show w.heap.size+1≠w.heap.size by omega);replace R:=(R.far 0 (.bool s5) (show w.heap.size+1≠w.heap.size+1+1 by omega)).far 1 (.slice A5 k5 c5) (show w.heap.size+1≠w.heap.size+1+1 by omega);replace f:=gX (s:=s5) (u:= .slice A5 k5 c5) a (by omega) c;clear c a;obtain⟨-, -,c,a,f⟩:=f;replace j:=j.keep f;replace E:=E.keep f;go_meet;exact⟨-n, -d,_,_,_,_,_,_,_,_,b,c,R,j,E,by omega,by omega,BG n d,by rw[Int.natAbs_neg];exact x,by rw[Int.natAbs_neg];exact bd,(fun h=>by cases h),a⟩)
    ·have Y:d.sign=1:=Int.sign_eq_one_of_pos (by omega);rw[Y];clear Y;go_wp2_with fail;go_meet;exact⟨n,d,_,_,_,_,_,_,_,_,b,c,R,hn,i,by omega,C,rfl,x,bd,(fun h=>by cases h),a⟩
   case rest=>
    clear b c R hn i a C D x bd;obtain⟨m,k,s1,A1,k1,c1,s2,A2,k2,c2,b,c,R,hn,i,D,C,t,x,bd, -,a⟩:=hcut;generalize (n:Rat)/d=q at *;replace o:=aa b.g2 (aa c.g2 R.g4);go_wp2_with fail;refine(l7 k _ _ i (by omega)).mono ?_;rintro e3 w3 ⟨rfl,A⟩;replace b:=b.below A;replace c:=c.below A;replace R:=R.below A;replace o:=aa b.g2 (aa c.g2 R.g4);replace f:=Keep.below A;replace hn:=hn.keep f;replace i:=i.keep f;replace a:=aC a A;by_cases r:k=1
    ·have l:decide (k=1)=true:=by simpa using r
     rw[l];have H:q=(m:Rat):=by rw[<-t.out,r,Rat.intCast_one];grind
     have al:=aB H;clear l H;go_wp2_with fail;obtain⟨W6,y,R,a,f,z⟩:=R.put4 a (by omega) (.bool s1) (.slice A1 k1 c1) (.bool false) (.slice none 0 0) rfl rfl;replace b:=z b (by omega);replace c:=z c (by omega);replace hn:=hn.keep f;rw[y];clear y;replace o:=aa b.k2 (aa c.k2 R.k4);exact aK (v:= .agg #[.bool s1,.slice A1 k1 c1,.bool false,.slice none 0 0]) (by simp[results,Tryz.results68,go_sem,R.k4]) rfl ⟨_,rfl,RatAt.of hn (IntAt.zero _) (by rw[al.out];rfl) (by rw[al.out];rfl),a⟩
    ·have l:decide (k=1)=false:=by simpa using r
     rw[l];clear l;obtain⟨ac,ad⟩:=BE (n:=m) D;rw[t.out] at ac ad;have aq:=DP m.natAbs k.natAbs K (by omega) x;have ap:Nat.gcd m.natAbs k.natAbs≠0:=fun h=>by have:=Nat.eq_zero_of_gcd_eq_zero_left h;omega
     have ai:=iR m (Nat.gcd m.natAbs k.natAbs:Nat) K x;have ah:=iR k (Nat.gcd m.natAbs k.natAbs:Nat) K bd;have af:=fun W hG r I=>pW m k (.agg #[.bool s1,.slice A1 k1 c1]) (.agg #[.bool s2,.slice A2 k2 c2]) W hG r I K x bd (by unfold aI;omega);have ag:0<k.tdiv (Nat.gcd m.natAbs k.natAbs:Nat):=by rw[<-ad];have:=q.den_nz;omega
     have aj:m.tdiv (Nat.gcd m.natAbs k.natAbs:Nat)≠0:=by
      rw[<-ac];intro h;have I:q=0:=Rat.num_eq_zero.1 h;have h3:=t.out;rw[I] at h3;have j:(m:Rat)≠0:=fun e=>C (Rat.intCast_inj.1 e);have E:(k:Rat)≠0:=fun e=>(show k≠0 by omega) (Rat.intCast_inj.1 e);grind
     have M:=aB (And.intro ac ad);generalize hg:Nat.gcd m.natAbs k.natAbs=g at *;have ak:Hid (((m.tdiv (g:Int):Int):Rat)/((k.tdiv (g:Int):Int):Rat)=q):=by
      unfold Hid;rw[<-M.out.1,<-M.out.2,Rat.intCast_natCast,<-Rat.mkRat_eq_div,Rat.mkRat_self]
     have ae:g=1->Hid (q.num=m∧(q.den:Int)=k):=fun h=>by
      have:=M.out;rw[h] at this;unfold Hid;simpa using this
     unfold dB at af;clear ac ad r hg;go_wp2_with fail;refine(af _ ((hG.below a)) hn i).mono ?_;rintro e4 J ⟨v4,rfl,j,B⟩;obtain⟨s4,Q,Z,S,rfl⟩:=j.form;replace b:=b.below B;replace c:=c.below B;replace R:=R.below B;replace o:=aa b.g2 (aa c.g2 R.g4);replace f:=Keep.below B;replace hn:=hn.keep f;replace i:=i.keep f;replace a:=aC a B;clear af;go_wp2_with fail;have av:=b.lt;have ay:=c.lt;have a2:=R.lt;have a5:=a.size;obtain⟨W4,am,T,p⟩:=bB J [.bool s4,.slice Q Z S] 59;replace b:=b.below T;replace c:=c.below T;replace R:=R.below T;replace f:=Keep.below T;replace a:=aC a T;replace hn:=hn.keep f;replace i:=i.keep f;replace j:=j.keep f;rw[am];clear am;replace o:=aa b.g2 (aa c.g2 (aa R.g4 p.k2));refine(l7 (g:Int) _ _ j (by simp;omega)).mono ?_;rintro e6 w6 ⟨rfl,N⟩;replace b:=b.below N;replace c:=c.below N;replace R:=R.below N;replace p:=p.below N;replace o:=aa b.g2 (aa c.g2 (aa R.g4 p.k2));replace f:=Keep.below N;replace hn:=hn.keep f;replace i:=i.keep f;replace j:=j.keep f;replace a:=aC a N;have ar:J.heap.size≠w.heap.size+1:=by omega
     go_upto_if 29 with fail;go_cut [] (fun wx=>DQ w q K true wx)
     case first=>
      by_cases r:(g:Int)=1
      ·have l:decide ((g:Int)=1)=true:=by simpa using r
       rw[l];go_wp2_with fail;go_meet;exact⟨m,k,_,_,_,_,_,_,_,_,b,c,R,hn,i,D,C,t,x,bd,(fun _=>ae (by omega)),a⟩
      ·have l:decide ((g:Int)=1)=false:=by simpa using r
       rw[l];have an:=fun W v u r I=>nJ m (g:Int) v u W r I (by omega) (by simp;omega);have ao:=fun W v u r I=>nJ k (g:Int) v u W r I (by omega) (by simp;omega);unfold dB at an ao;generalize m.tdiv (g:Int)=Q1 at *;generalize k.tdiv (g:Int)=Q2 at *;clear l r ae;have L:=aB (And.intro ag (And.intro aj (And.intro ak (And.intro ai (And.intro ah M)))));clear ag aj ak ai ah M t hG aq ap x bd D C ar;go_wp2_with fail;replace hn:=hn.drew;replace i:=i.drew;replace j:=j.drew;replace b:=b.drew;replace c:=c.drew;replace R:=R.drew;replace p:=p.drew;replace a:=a.drew
       go_region_with (first
         |(go_at_call 138;(with_reducible refine(an _ _ _ hn j).mono ?_);rintro e7 w7 ⟨v7,rfl,F,O⟩;obtain⟨s7,A7,k7,c7,rfl⟩:=F.form;replace b:=b.below O;replace c:=c.below O;replace R:=R.below O;replace p:=p.below O;replace o:=aa b.g2 (aa c.g2 (aa R.g4 p.k2));replace f:=Keep.below O;replace hn:=hn.keep f;replace i:=i.keep f;replace j:=j.keep f;(try replace G:=G.keep f);replace a:=aC a O)
         |(go_at_call 138;(with_reducible refine(ao _ _ _ i j).mono ?_);rintro e8 w8 ⟨v8,rfl,G,P⟩;obtain⟨s8,A8,k8,c8,rfl⟩:=G.form;replace b:=b.below P;replace c:=c.below P;replace R:=R.below P;replace p:=p.below P;replace o:=aa b.g2 (aa c.g2 (aa R.g4 p.k2));replace f:=Keep.below P;replace hn:=hn.keep f;replace i:=i.keep f;replace j:=j.keep f;(try replace F:=F.keep f);replace a:=aC a P))
       all_goals (
        go_wp2_with fail;have ax:=b.lt;have a0:=c.lt;have a4:=R.lt;have a1:=p.lt;have a7:=a.size;replace c:=(c.far 0 (.bool s7) (show w.heap.size≠w.heap.size+1 by omega)).far 1 (.slice A7 k7 c7) (show w.heap.size≠w.heap.size+1 by omega);replace R:=(R.far 0 (.bool s7) (show w.heap.size≠w.heap.size+1+1 by omega)).far 1 (.slice A7 k7 c7) (show w.heap.size≠w.heap.size+1+1 by omega);replace p:=(p.far 0 (.bool s7) (show w.heap.size≠J.heap.size by omega)).far 1 (.slice A7 k7 c7) (show w.heap.size≠J.heap.size by omega);replace f:=gX (s:=s7) (u:= .slice A7 k7 c7) a (by omega) b;clear b a;obtain⟨-, -,b,a,f⟩:=f;replace F:=F.keep f;replace G:=G.keep f;replace b:=(b.far 0 (.bool s8) (show w.heap.size+1≠w.heap.size by omega)).far 1 (.slice A8 k8 c8) (show w.heap.size+1≠w.heap.size by omega);replace R:=(R.far 0 (.bool s8) (show w.heap.size+1≠w.heap.size+1+1 by omega)).far 1 (.slice A8 k8 c8) (show w.heap.size+1≠w.heap.size+1+1 by omega);replace p:=(p.far 0 (.bool s8) (show w.heap.size+1≠J.heap.size by omega)).far 1 (.slice A8 k8 c8) (show w.heap.size+1≠J.heap.size by omega);replace f:=gX (s:=s8) (u:= .slice A8 k8 c8) a (by omega) c;clear c a;obtain⟨-, -,c,a,f⟩:=f;replace F:=F.keep f;replace G:=G.keep f;go_meet;exact⟨Q1,Q2,_,_,_,_,_,_,_,_,b,c,R,F,G,L.out.1,L.out.2.1,L.out.2.2.1,L.out.2.2.2.1,L.out.2.2.2.2.1,(fun _=>L.out.2.2.2.2.2.out),a⟩)
     case rest=>
      clear b c R hn i a C D x bd t ak M ai ah aj ag ae;obtain⟨m,k,s1,A1,k1,c1,s2,A2,k2,c2,b,c,R,hn,i,D,C,t,x,bd,HL,a⟩:=hcut;replace o:=aa b.g2 (aa c.g2 R.g4);go_wp2_with fail;refine(BD q m k _ _ _ hn i (HL trivial).out.1 (HL trivial).out.2 (by omega)).mono ?_;rintro e9 w9 ⟨v9,rfl,h9,ab⟩;obtain⟨s9,A9,k9,c9,t9,D9,l9,d9,rfl⟩:=h9.form;replace b:=b.below ab;replace c:=c.below ab;replace R:=R.below ab;replace o:=aa b.k2 (aa c.k2 R.g4);replace a:=aC a ab;go_wp2_with fail;obtain⟨W6,y,R,a,f,z⟩:=R.put4 a (by omega) (.bool s9) (.slice A9 k9 c9) (.bool t9) (.slice D9 l9 d9) rfl rfl;replace b:=z b (by omega);replace c:=z c (by omega);replace h9:=h9.keep f;rw[y];clear y;replace o:=aa b.k2 (aa c.k2 R.k4);exact aK (v:= .agg #[.bool s9,.slice A9 k9 c9,.bool t9,.slice D9 l9 d9]) (by simp[results,Tryz.results68,go_sem,R.k4]) rfl ⟨_,rfl,h9,a⟩
