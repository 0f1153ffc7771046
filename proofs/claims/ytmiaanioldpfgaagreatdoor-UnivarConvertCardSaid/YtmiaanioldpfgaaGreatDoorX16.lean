/- Laws. -/
import Derived.Test.YtmiaanioldpfgaaGreatDoorX08
set_option linter.all false
set_option maxHeartbeats 8000000
set_option maxRecDepth 99999
namespace Go.Proofs.YtmiaanioldpfgaaGreatDoor
open Go.RowKit Sos
def wQ(n d K:Nat)(hn:n≠0)(h:nl n<=K):nl (Nat.gcd n d)<=K:=aH (cK (aqY (by omega) (aqX _ _))) h
def jN(x y:Int)(K:Nat)(h:nl x.natAbs<=K):nl (x.tdiv y).natAbs<=K:=by
 refine aH (cK ?_) h;rw[Int.natAbs_tdiv];exact azK _ _
def I2(w:World)(q:Rat)(K:Nat)(k:Bool)(a:World):Prop:=
 ∃n d i b g e j c h f,Bx a w.1.size [.bool i,.slice b g e] 77∧Bx a (w.1.size+1) [.bool j,.slice c h f] 77∧
  Bx a (w.1.size+1+1) [.bool false,.slice none 0 0,.bool false,.slice none 0 0] 86∧IntAt a (.agg #[.bool i,.slice b g e]) n∧IntAt a (.agg #[.bool j,.slice c h f]) d∧
  0<d∧n≠0∧Hid ((n:Rat)/d=q)∧nl n.natAbs<=K∧nl d.natAbs<=K∧(k=true->Hid (q.num=n∧(q.den:Int)=d))∧Below w.1.size w a
def I3(n d:Int)(vn vd:Value)(w:World)(hG:Glob w)(hn:IntAt w vn n)(i:IntAt w vd d)(K:Nat)(x:nl n.natAbs<=K)(bd:nl d.natAbs<=K)(hK:5*K+4<=aJ):
  Calls Tryz.prog 73 #[vn,vd] w (iF w ((n:Rat)/d)):=by
 unfold aJ at hK;obtain⟨sn,An,kn,cn,rfl⟩:=hn.form;obtain⟨sd,Ad,kd,cd,rfl⟩:=i.form;obtain⟨W,eW,a,b,c,R⟩:=gE w [.bool sn,.slice An kn cn] 77 [.bool sd,.slice Ad kd cd] 77 [.bool false,.slice none 0 0,.bool false,.slice none 0 0] 86;have o:=aa b.g2 (aa c.g2 R.g4);go_enter Tryz.func73,Tryz.ntmps73;go_wp2_with fail;(try rw[eW]);clear eW;replace hn:=hn.be a;replace i:=i.be a;refine(g9 d _ _ i (by omega)).mono ?_;rintro e1 w1 ⟨rfl,U⟩;replace b:=b.be U;replace c:=c.be U;replace R:=R.be U;replace o:=aa b.k2 (aa c.k2 R.g4);replace f:=Keep.be U;replace hn:=hn.ke f;replace i:=i.ke f;replace a:=aC a U;by_cases D:d=0
 ·have l:decide (d=0)=true:=by simpa using D
  have H:(n:Rat)/d=0:=by rw[D,aq4];grind
  rw[l];have t:=aB H;clear l H;go_wp2_with fail;obtain⟨W6,y,R,a,f,z⟩:=R.put4 a (by omega) (.bool false) (.slice none 0 0) (.bool false) (.slice none 0 0) rfl rfl;replace b:=z b (by omega);replace c:=z c (by omega);rw[y];clear y;replace o:=aa b.k2 (aa c.k2 R.k4);exact aM (v:= .agg #[.bool false,.slice none 0 0,.bool false,.slice none 0 0]) (by simp[results,Tryz.results73,go_sem,R.k4]) rfl ⟨_,rfl,RatAt.of (IntAt.zero _) (IntAt.zero _) (by rw[t.out];rfl) (by rw[t.out];rfl),a⟩
 ·have l:decide (d=0)=false:=by simpa using D
  rw[l];clear l;go_wp2_with fail;refine(g9 n _ _ hn (by omega)).mono ?_;rintro e2 w2 ⟨rfl,V⟩;replace b:=b.be V;replace c:=c.be V;replace R:=R.be V;replace o:=aa b.k2 (aa c.k2 R.g4);replace f:=Keep.be V;replace hn:=hn.ke f;replace i:=i.ke f;replace a:=aC a V;by_cases C:n=0
  ·have l:decide (n=0)=true:=by simpa using C
   have H:(n:Rat)/d=0:=by rw[C];exact F7 d
   rw[l];have t:=aB H;clear l H;go_wp2_with fail;obtain⟨W6,y,R,a,f,z⟩:=R.put4 a (by omega) (.bool false) (.slice none 0 0) (.bool false) (.slice none 0 0) rfl rfl;replace b:=z b (by omega);replace c:=z c (by omega);rw[y];clear y;replace o:=aa b.k2 (aa c.k2 R.k4);exact aM (v:= .agg #[.bool false,.slice none 0 0,.bool false,.slice none 0 0]) (by simp[results,Tryz.results73,go_sem,R.k4]) rfl ⟨_,rfl,RatAt.of (IntAt.zero _) (IntAt.zero _) (by rw[t.out];rfl) (by rw[t.out];rfl),a⟩
  ·have l:decide (n=0)=false:=by simpa using C
   rw[l];clear l;go_wp2_with fail;refine(qG d _ _ i (by omega)).mono ?_;rintro e3 w3 ⟨rfl,A⟩;replace b:=b.be A;replace c:=c.be A;replace R:=R.be A;replace o:=aa b.g2 (aa c.g2 R.g4);replace f:=Keep.be A;replace hn:=hn.ke f;replace i:=i.ke f;replace a:=aC a A;go_upto_if 15 with fail;go_cut [] (fun wx=>I2 w ((n:Rat)/d) K false wx)
   case first=>
    by_cases au:d<0
    ·have Y:d.sign= -1:=aqT au;rw[Y];clear Y;go_wp2_with fail;replace hn:=hn.drew;replace i:=i.drew;replace b:=b.drew;replace c:=c.drew;replace R:=R.drew;replace a:=a.drew
     go_region_with (first
       |(go_at_call 96;(with_reducible refine(sQ n _ _ hn (by omega)).mono ?_);rintro e4 J ⟨v4,rfl,j,B⟩;obtain⟨s4,Q,Z,S,rfl⟩:=j.form;replace b:=b.be B;replace c:=c.be B;replace R:=R.be B;replace o:=aa b.g2 (aa c.g2 R.g4);replace f:=Keep.be B;replace hn:=hn.ke f;replace i:=i.ke f;(try replace E:=E.ke f);replace a:=aC a B)
       |(go_at_call 96;(with_reducible refine(sQ d _ _ i (by omega)).mono ?_);rintro e5 w5 ⟨v5,rfl,E,X⟩;obtain⟨s5,A5,k5,c5,rfl⟩:=E.form;replace b:=b.be X;replace c:=c.be X;replace R:=R.be X;replace o:=aa b.g2 (aa c.g2 R.g4);replace f:=Keep.be X;replace hn:=hn.ke f;replace i:=i.ke f;(try replace j:=j.ke f);replace a:=aC a X))
     all_goals (
      go_wp2_with fail;have aw:=b.lt;have az:=c.lt;have a3:=R.lt;have a6:=a.size;replace c:=(c.far 0 (.bool s4) (show w.1.size≠w.1.size+1 by omega)).far 1 (.slice Q Z S) (show w.1.size≠w.1.size+1 by omega);replace R:=(R.far 0 (.bool s4) (show w.1.size≠w.1.size+1+1 by omega)).far 1 (.slice Q Z S) (show w.1.size≠w.1.size+1+1 by omega);replace f:=jU (s:=s4) (u:= .slice Q Z S) a (by omega) b;clear b a;obtain⟨-, -,b,a,f⟩:=f;replace j:=j.ke f;replace E:=E.ke f;replace b:=(b.far 0 (.bool s5) (show w.1.size+1≠w.1.size by omega)).far 1 (.slice A5 k5 c5) (show w.1.size+1≠w.1.size by omega);replace R:=(R.far 0 (.bool s5) (show w.1.size+1≠w.1.size+1+1 by omega)).far 1 (.slice A5 k5 c5) (show w.1.size+1≠w.1.size+1+1 by omega);replace f:=jU (s:=s5) (u:= .slice A5 k5 c5) a (by omega) c;clear c a;obtain⟨-, -,c,a,f⟩:=f;replace j:=j.ke f;replace E:=E.ke f;go_meet;exact⟨-n, -d,_,_,_,_,_,_,_,_,b,c,R,j,E,by omega,by omega,F5 n d,by rw[azJ];exact x,by rw[azJ];exact bd,(fun h=>by cases h),a⟩)
    ·have Y:d.sign=1:=aqI (by omega);rw[Y];clear Y;go_wp2;go_meet;exact⟨n,d,_,_,_,_,_,_,_,_,b,c,R,hn,i,by omega,C,rfl,x,bd,(fun h=>by cases h),a⟩
   case rest=>
    clear b c R hn i a C D x bd;obtain⟨m,k,s1,A1,k1,c1,s2,A2,k2,c2,b,c,R,hn,i,D,C,t,x,bd, -,a⟩:=hcut;generalize (n:Rat)/d=q at *;replace o:=aa b.g2 (aa c.g2 R.g4);go_wp2_with fail;refine(S3 k _ _ i (by omega)).mono ?_;rintro e3 w3 ⟨rfl,A⟩;replace b:=b.be A;replace c:=c.be A;replace R:=R.be A;replace o:=aa b.g2 (aa c.g2 R.g4);replace f:=Keep.be A;replace hn:=hn.ke f;replace i:=i.ke f;replace a:=aC a A;by_cases r:k=1
    ·have l:decide (k=1)=true:=by simpa using r
     rw[l];have H:q=(m:Rat):=by rw[<-t.out,r,bxS];grind
     have al:=aB H;clear l H;go_wp2_with fail;obtain⟨W6,y,R,a,f,z⟩:=R.put4 a (by omega) (.bool s1) (.slice A1 k1 c1) (.bool false) (.slice none 0 0) rfl rfl;replace b:=z b (by omega);replace c:=z c (by omega);replace hn:=hn.ke f;rw[y];clear y;replace o:=aa b.k2 (aa c.k2 R.k4);exact aM (v:= .agg #[.bool s1,.slice A1 k1 c1,.bool false,.slice none 0 0]) (by simp[results,Tryz.results73,go_sem,R.k4]) rfl ⟨_,rfl,RatAt.of hn (IntAt.zero _) (by rw[al.out];rfl) (by rw[al.out];rfl),a⟩
    ·have l:decide (k=1)=false:=by simpa using r
     rw[l];clear l;obtain⟨ac,ad⟩:=F4 (n:=m) D;rw[t.out] at ac ad;have aq:=wQ m.natAbs k.natAbs K (by omega) x;have ap:Nat.gcd m.natAbs k.natAbs≠0:=fun h=>by have:=Nat.eq_zero_of_gcd_eq_zero_left h;omega
     have ai:=jN m (Nat.gcd m.natAbs k.natAbs:Nat) K x;have ah:=jN k (Nat.gcd m.natAbs k.natAbs:Nat) K bd;have af:=fun W hG r I=>qF m k (.agg #[.bool s1,.slice A1 k1 c1]) (.agg #[.bool s2,.slice A2 k2 c2]) W hG r I K x bd (by unfold aJ;omega);have ag:0<k.tdiv (Nat.gcd m.natAbs k.natAbs:Nat):=by rw[<-ad];have:=q.den_nz;omega
     have aj:m.tdiv (Nat.gcd m.natAbs k.natAbs:Nat)≠0:=by
      rw[<-ac];intro h;have I:q=0:=Rat.num_eq_zero.1 h;have h3:=t.out;rw[I] at h3;have j:(m:Rat)≠0:=fun e=>C (Rat.intCast_inj.1 e);have E:(k:Rat)≠0:=fun e=>(show k≠0 by omega) (Rat.intCast_inj.1 e);grind
     have M:=aB (And.intro ac ad);generalize hg:Nat.gcd m.natAbs k.natAbs=g at *;have ak:Hid (((m.tdiv (g:Int):Int):Rat)/((k.tdiv (g:Int):Int):Rat)=q):=by
      unfold Hid;rw[<-M.out.1,<-M.out.2,aq3,<-Rat.mkRat_eq_div,byC]
     have ae:g=1->Hid (q.num=m∧(q.den:Int)=k):=fun h=>by
      have:=M.out;rw[h] at this;unfold Hid;simpa using this
     unfold dW at af;clear ac ad r hg;go_wp2_with fail;refine(af _ ((hG.be a)) hn i).mono ?_;rintro e4 J ⟨v4,rfl,j,B⟩;obtain⟨s4,Q,Z,S,rfl⟩:=j.form;replace b:=b.be B;replace c:=c.be B;replace R:=R.be B;replace o:=aa b.g2 (aa c.g2 R.g4);replace f:=Keep.be B;replace hn:=hn.ke f;replace i:=i.ke f;replace a:=aC a B;clear af;go_wp2_with fail;have av:=b.lt;have ay:=c.lt;have a2:=R.lt;have a5:=a.size;obtain⟨W4,am,T,p⟩:=bI J [.bool s4,.slice Q Z S] 77;replace b:=b.be T;replace c:=c.be T;replace R:=R.be T;replace f:=Keep.be T;replace a:=aC a T;replace hn:=hn.ke f;replace i:=i.ke f;replace j:=j.ke f;rw[am];clear am;replace o:=aa b.g2 (aa c.g2 (aa R.g4 p.k2));refine(S3 (g:Int) _ _ j (by simp;omega)).mono ?_;rintro e6 w6 ⟨rfl,N⟩;replace b:=b.be N;replace c:=c.be N;replace R:=R.be N;replace p:=p.be N;replace o:=aa b.g2 (aa c.g2 (aa R.g4 p.k2));replace f:=Keep.be N;replace hn:=hn.ke f;replace i:=i.ke f;replace j:=j.ke f;replace a:=aC a N;have ar:J.1.size≠w.1.size+1:=by omega
     go_upto_if 29 with fail;go_cut [] (fun wx=>I2 w q K true wx)
     case first=>
      by_cases r:(g:Int)=1
      ·have l:decide ((g:Int)=1)=true:=by simpa using r
       rw[l];go_wp2;go_meet;exact⟨m,k,_,_,_,_,_,_,_,_,b,c,R,hn,i,D,C,t,x,bd,(fun _=>ae (by omega)),a⟩
      ·have l:decide ((g:Int)=1)=false:=by simpa using r
       rw[l];have an:=fun W v u r I=>mZ m (g:Int) v u W r I (by omega) (by simp;omega);have ao:=fun W v u r I=>mZ k (g:Int) v u W r I (by omega) (by simp;omega);unfold dW at an ao;generalize m.tdiv (g:Int)=Q1 at *;generalize k.tdiv (g:Int)=Q2 at *;clear l r ae;have L:=aB (And.intro ag (And.intro aj (And.intro ak (And.intro ai (And.intro ah M)))));clear ag aj ak ai ah M t hG aq ap x bd D C ar;go_wp2_with fail;replace hn:=hn.drew;replace i:=i.drew;replace j:=j.drew;replace b:=b.drew;replace c:=c.drew;replace R:=R.drew;replace p:=p.drew;replace a:=a.drew
       go_region_with (first
         |(go_at_call 120;(with_reducible refine(an _ _ _ hn j).mono ?_);rintro e7 w7 ⟨v7,rfl,F,O⟩;obtain⟨s7,A7,k7,c7,rfl⟩:=F.form;replace b:=b.be O;replace c:=c.be O;replace R:=R.be O;replace p:=p.be O;replace o:=aa b.g2 (aa c.g2 (aa R.g4 p.k2));replace f:=Keep.be O;replace hn:=hn.ke f;replace i:=i.ke f;replace j:=j.ke f;(try replace G:=G.ke f);replace a:=aC a O)
         |(go_at_call 120;(with_reducible refine(ao _ _ _ i j).mono ?_);rintro e8 w8 ⟨v8,rfl,G,P⟩;obtain⟨s8,A8,k8,c8,rfl⟩:=G.form;replace b:=b.be P;replace c:=c.be P;replace R:=R.be P;replace p:=p.be P;replace o:=aa b.g2 (aa c.g2 (aa R.g4 p.k2));replace f:=Keep.be P;replace hn:=hn.ke f;replace i:=i.ke f;replace j:=j.ke f;(try replace F:=F.ke f);replace a:=aC a P))
       all_goals (
        go_wp2_with fail;have ax:=b.lt;have a0:=c.lt;have a4:=R.lt;have a1:=p.lt;have a7:=a.size;replace c:=(c.far 0 (.bool s7) (show w.1.size≠w.1.size+1 by omega)).far 1 (.slice A7 k7 c7) (show w.1.size≠w.1.size+1 by omega);replace R:=(R.far 0 (.bool s7) (show w.1.size≠w.1.size+1+1 by omega)).far 1 (.slice A7 k7 c7) (show w.1.size≠w.1.size+1+1 by omega);replace p:=(p.far 0 (.bool s7) (show w.1.size≠J.1.size by omega)).far 1 (.slice A7 k7 c7) (show w.1.size≠J.1.size by omega);replace f:=jU (s:=s7) (u:= .slice A7 k7 c7) a (by omega) b;clear b a;obtain⟨-, -,b,a,f⟩:=f;replace F:=F.ke f;replace G:=G.ke f;replace b:=(b.far 0 (.bool s8) (show w.1.size+1≠w.1.size by omega)).far 1 (.slice A8 k8 c8) (show w.1.size+1≠w.1.size by omega);replace R:=(R.far 0 (.bool s8) (show w.1.size+1≠w.1.size+1+1 by omega)).far 1 (.slice A8 k8 c8) (show w.1.size+1≠w.1.size+1+1 by omega);replace p:=(p.far 0 (.bool s8) (show w.1.size+1≠J.1.size by omega)).far 1 (.slice A8 k8 c8) (show w.1.size+1≠J.1.size by omega);replace f:=jU (s:=s8) (u:= .slice A8 k8 c8) a (by omega) c;clear c a;obtain⟨-, -,c,a,f⟩:=f;replace F:=F.ke f;replace G:=G.ke f;go_meet;exact⟨Q1,Q2,_,_,_,_,_,_,_,_,b,c,R,F,G,L.out.1,L.out.2.1,L.out.2.2.1,L.out.2.2.2.1,L.out.2.2.2.2.1,(fun _=>L.out.2.2.2.2.2.out),a⟩)
     case rest=>
      clear b c R hn i a C D x bd t ak M ai ah aj ag ae;obtain⟨m,k,s1,A1,k1,c1,s2,A2,k2,c2,b,c,R,hn,i,D,C,t,x,bd,HL,a⟩:=hcut;replace o:=aa b.g2 (aa c.g2 R.g4);go_wp2_with fail;refine(vK q m k _ _ _ hn i (HL trivial).out.1 (HL trivial).out.2 (by omega)).mono ?_;rintro e9 w9 ⟨v9,rfl,h9,ab⟩;obtain⟨s9,A9,k9,c9,t9,D9,l9,d9,rfl⟩:=h9.form;replace b:=b.be ab;replace c:=c.be ab;replace R:=R.be ab;replace o:=aa b.k2 (aa c.k2 R.g4);replace a:=aC a ab;go_wp2_with fail;obtain⟨W6,y,R,a,f,z⟩:=R.put4 a (by omega) (.bool s9) (.slice A9 k9 c9) (.bool t9) (.slice D9 l9 d9) rfl rfl;replace b:=z b (by omega);replace c:=z c (by omega);replace h9:=h9.ke f;rw[y];clear y;replace o:=aa b.k2 (aa c.k2 R.k4);exact aM (v:= .agg #[.bool s9,.slice A9 k9 c9,.bool t9,.slice D9 l9 d9]) (by simp[results,Tryz.results73,go_sem,R.k4]) rfl ⟨_,rfl,h9,a⟩
