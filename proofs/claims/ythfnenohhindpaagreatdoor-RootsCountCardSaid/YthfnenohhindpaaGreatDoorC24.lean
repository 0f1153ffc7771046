/-
  Contracts, laws: NumH, NumI, RowC, RowD, RowE, RatC, RatD, RatE, PowA, RegA, NumN, RatV.
-/
import Derived.Test.YthfnenohhindpaaGreatDoorC22
import Derived.Test.YthfnenohhindpaaGreatDoorC23
set_option linter.all false
set_option maxHeartbeats 8000000
set_option maxRecDepth 100000
namespace Go.Proofs.YthfnenohhindpaaGreatDoor
open Go.RowKit Sos
def NQ (w:World) (v:Value) (q:Rat):Prop:=∃s u a b,v= .agg #[.bool s,u,.bool a,b]∧NI w (.agg #[.bool s,u]) q.num∧NI w (.agg #[.bool a,b]) (bI q)
def fC (w:World) (q:Rat) (e:Ending) (w':World):Prop:=∃v,e= .returned v∧NQ w' v q∧Below w.heap.size w w'
section
variable {w w':World} {v:Value} {q:Rat}
theorem NQ.below (h:NQ w v q) (a:Below w.heap.size w w'):NQ w' v q:=by
 obtain⟨s,u,d,f,e,b,c⟩:=h;exact⟨s,u,d,f,e,b.below a,c.below a⟩
theorem NQ.keep (h:NQ w v q) (a:KM w w'):NQ w' v q:=by
 obtain⟨s,u,d,f,e,b,c⟩:=h;exact⟨s,u,d,f,e,b.keep a,c.keep a⟩
theorem NQ.drew (h:NQ w v q):NQ w.drew v q:=h.below (aH _ _).drew
theorem NQ.form (h:NQ w v q):∃s A k c f a d c',v= .agg #[.bool s,.slice A k c,.bool f,.slice a d c']:=by
 obtain⟨s,u,f,j,rfl,g,i⟩:=h;obtain⟨_,A,k,c,e⟩:=g.form;obtain⟨_,a,d,c',b⟩:=i.form;simp at e b;rw[e.2,b.2];exact⟨_,_,_,_,_,_,_,_,rfl⟩
theorem NQ.num {s b:Bool} {u c:Value} (h:NQ w (.agg #[.bool s,u,.bool b,c]) q):NI w (.agg #[.bool s,u]) q.num:=by
 obtain⟨_,_,_,_,e,a,d⟩:=h;simp at e;rw[e.1,e.2.1];exact a
theorem NQ.den {s a:Bool} {u b:Value} (h:NQ w (.agg #[.bool s,u,.bool a,b]) q):NI w (.agg #[.bool a,b]) (bI q):=by
 obtain⟨_,_,_,_,e,d,c⟩:=h;simp at e;rw[e.2.2.1,e.2.2.2];exact c
theorem NQ.of {s a:Bool} {u b:Value} {n d:Int} (f:NI w (.agg #[.bool s,u]) n) (g:NI w (.agg #[.bool a,b]) d) (c:q.num=n) (e:bI q=d):NQ w (.agg #[.bool s,u,.bool a,b]) q:=
 ⟨s,u,a,b,rfl,by rw[c];exact f,by rw[e];exact g⟩
theorem NQ.zero (w:World):NQ w (.agg #[.bool false,.slice none 0 0,.bool false,.slice none 0 0]) 0:=NQ.of (NI.zero w) (NI.zero w) rfl rfl
end
theorem IJ {n d:Int} {q:Rat} (a:0<d) (b:q=(n:Rat)/d):q.num=n.tdiv (Nat.gcd n.natAbs d.natAbs:Nat)∧((q.den:Nat):Int)=d.tdiv (Nat.gcd n.natAbs d.natAbs:Nat):=by rw[b];exact BE a
def AA (w:World) (q:Rat) (b:Bool) (a:World):Prop:=∃(n d:Int) (s:Bool) (A:Option Addr) (k c:Nat) (t:Bool) (C:Option Addr) (l e:Nat),0<d∧Hid ((n:Rat)/d=q)∧(b=true->Hid (q.num=n∧(q.den:Int)=d))∧nl n.natAbs<=549755813888∧nl d.natAbs<=549755813888∧
 Bx a w.heap.size [.bool s,.slice A k c] 79∧Bx a (w.heap.size+1) [.bool t,.slice C l e] 79∧Bx a (w.heap.size+1+1) [.bool false,.slice none 0 0,.bool false,.slice none 0 0] 81∧NI a (.agg #[.bool s,.slice A k c]) n∧NI a (.agg #[.bool t,.slice C l e]) d∧Below w.heap.size w a
theorem rM (n d:Int) (vn vd:Value) (w:World) (hn:NI w vn n) (f:NI w vd d) (h0:d≠0) (B:nl n.natAbs<=549755813888) (z:nl d.natAbs<=549755813888):
  Calls Tryz.prog 150 #[vn,vd] w (fC w ((n:Rat)/d)):=by
 obtain⟨s,A,k,c,rfl⟩:=hn.form;obtain⟨t,C,l,e,rfl⟩:=f.form;have hT:=f.neg;generalize hq:(n:Rat)/d=q;obtain⟨W,eW,a,X,Y,R⟩:=fF w [.bool s,.slice A k c] 79 [.bool t,.slice C l e] 79 [.bool false,.slice none 0 0,.bool false,.slice none 0 0] 81;replace hn:=hn.below a;replace f:=f.below a;have m:=aa X.g2 (aa Y.g2 R.g4);have H:=aB hq;have HT:=aB hT;clear hq hT;go_enter Tryz.func150,Tryz.ntmps150;go_upto_if 7 with fail;(try rw[eW]);clear eW;go_cut [] (fun wx=>AA w q false wx)
 case first=>
  cases t with
  |false=>
   go_wp2_with fail;go_meet;exact⟨n,d,_,_,_,_,_,_,_,_,by have:=HT.out;simp at this;omega,H,(fun h=>by cases h),B,z,X,Y,R,hn,f,a⟩
  |true=>
   go_wp2_with fail;replace hn:=hn.drew;replace f:=f.drew;replace X:=X.drew;replace Y:=Y.drew;replace R:=R.drew;replace a:=a.drew
   go_region_with (first
     |(go_at_call 165;(with_reducible refine(uX n _ _ hn (by omega)).mono ?_);rintro e4 w4 ⟨v4,rfl,i,y⟩;obtain⟨s4,A4,k4,c4,rfl⟩:=i.form;replace X:=X.below y;replace Y:=Y.below y;replace R:=R.below y;replace m:=aa X.g2 (aa Y.g2 R.g4);replace b:=KM.below y;replace hn:=hn.keep b;replace f:=f.keep b;(try replace E:=E.keep b);replace a:=aC a y)
     |(go_at_call 165;(with_reducible refine(uX d _ _ f (by omega)).mono ?_);rintro e5 w5 ⟨v5,rfl,E,U⟩;obtain⟨s5,A5,k5,c5,rfl⟩:=E.form;replace X:=X.below U;replace Y:=Y.below U;replace R:=R.below U;replace m:=aa X.g2 (aa Y.g2 R.g4);replace b:=KM.below U;replace hn:=hn.keep b;replace f:=f.keep b;(try replace i:=i.keep b);replace a:=aC a U))
   all_goals (
    go_wp2_with fail;obtain⟨U0,Q,X,a,b,j⟩:=X.mut2 a (by omega) (.bool s4) (.slice A4 k4 c4) rfl rfl;replace Y:=j Y (by omega);replace R:=j R (by omega);replace i:=i.keep b;replace E:=E.keep b;obtain⟨W6,x,Y,a,b,j⟩:=Y.mut2 a (by omega) (.bool s5) (.slice A5 k5 c5) rfl rfl;replace X:=j X (by omega);replace R:=j R (by omega);replace i:=i.keep b;replace E:=E.keep b;rw[Q,x];clear Q x;replace m:=aa X.k2 (aa Y.k2 R.k4);go_meet;exact⟨-n, -d,_,_,_,_,_,_,_,_,by have:=HT.out;simp at this;omega,by unfold Hid;rw[BG];exact H.out,(fun h=>by cases h),by rw[Int.natAbs_neg];exact B,by rw[Int.natAbs_neg];exact z,X,Y,R,i,E,a⟩)
 case rest=>
  clear X Y R hn f a m B z h0 HT H;obtain⟨p,o,P,I,O,J,s2,Z,k2,c2,ac,H, -,B,z,X,Y,R,hn,f,a⟩:=hcut;have m:=aa X.g2 (aa Y.g2 R.g4);obtain⟨ap,ah⟩:=IJ ac H.out.symm;have a1:Nat.gcd p.natAbs o.natAbs≠0:=fun h=>by have:=Nat.eq_zero_of_gcd_eq_zero_right h;omega
  have a2:nl (Nat.gcd p.natAbs o.natAbs)<=nl o.natAbs:=bX (Nat.le_of_dvd (by omega) (Nat.gcd_dvd_right _ _));have aw:=iR p (Nat.gcd p.natAbs o.natAbs:Nat) _ B;have av:=iR o (Nat.gcd p.natAbs o.natAbs:Nat) _ z;have aq:0<o.tdiv (Nat.gcd p.natAbs o.natAbs:Nat):=by rw[<-ah];have:=q.den_nz;omega
  have ao:=fun W h1 h2=>IK p o (.agg #[.bool P,.slice I O J]) (.agg #[.bool s2,.slice Z k2 c2]) W h1 h2 B z;have r:=aB (And.intro ap ah);clear ap ah;generalize Nat.gcd p.natAbs o.natAbs=g at *;go_wp2_with fail;refine(ao _ hn f).mono ?_;rintro e4 w4 ⟨v4,rfl,i,y⟩;obtain⟨s4,A4,k4,c4,rfl⟩:=i.form;replace X:=X.below y;replace Y:=Y.below y;replace R:=R.below y;replace m:=aa X.g2 (aa Y.g2 R.g4);replace b:=KM.below y;replace hn:=hn.keep b;replace f:=f.keep b;replace a:=aC a y;clear ao;go_wp2_with fail;have aj:=X.lt;have ak:=Y.lt;have ai:=R.lt;have ax:=a.size;obtain⟨w5,am,S,G⟩:=bB w4 [.bool s4,.slice A4 k4 c4] 79;replace X:=X.below S;replace Y:=Y.below S;replace R:=R.below S;replace b:=KM.below S;replace a:=aC a S;replace hn:=hn.keep b;replace f:=f.keep b;replace i:=i.keep b;rw[am];clear am;replace m:=aa X.g2 (aa Y.g2 (aa R.g4 G.k2));have ag:nl g<=549755813888:=by omega
  refine(AG _ _ _ i (by rw[cI];exact ag)).mono ?_;rintro e6 w6 ⟨bb,rfl,T, -,K⟩;rw[cI] at T;replace X:=X.below K;replace Y:=Y.below K;replace R:=R.below K;replace G:=G.below K;replace m:=aa X.g2 (aa Y.g2 (aa R.g4 G.k2));replace b:=KM.below K;replace hn:=hn.keep b;replace f:=f.keep b;replace i:=i.keep b;replace a:=aC a K;go_upto_if 17 with fail;go_cut [] (fun wx=>AA w q true wx)
  case first=>
   by_cases af:1<g
   ·have q1:decide (1<bb)=true:=by simpa using T.2 af
    have ar:=fun W u v h k=>AE p (g:Int) u v W h k B (by rw[cI];exact ag) (by omega);have au:=fun W u v h k=>AE o (g:Int) u v W h k z (by rw[cI];exact ag) (by omega);unfold AC at ar au;have a0:Hid (((p.tdiv (g:Int):Int):Rat)/((o.tdiv (g:Int):Int):Rat)=q):=by
     unfold Hid;rw[<-r.out.1,<-r.out.2,Rat.intCast_natCast,<-Rat.mkRat_eq_div,Rat.mkRat_self]
    generalize p.tdiv (g:Int)=N at *;generalize o.tdiv (g:Int)=D at *;clear T;go_wp2_with fail;refine(ar _ _ _ hn i).mono ?_;rintro e7 w7 ⟨v7,a3,rfl,F, -,L⟩;obtain⟨s7,A7,k7,c7,rfl⟩:=F.form;replace X:=X.below L;replace Y:=Y.below L;replace R:=R.below L;replace G:=G.below L;replace m:=aa X.g2 (aa Y.g2 (aa R.g4 G.k2));replace b:=KM.below L;replace hn:=hn.keep b;replace f:=f.keep b;replace i:=i.keep b;replace a:=aC a L;go_wp2_with fail;have aj:=X.lt;have ak:=Y.lt;have ai:=R.lt;have ay:=G.lt;have ax:=a.size;obtain⟨w8,an,X,a,b,j⟩:=X.mut2 a (by omega) (.bool s7) (.slice A7 k7 c7) rfl rfl;replace Y:=j Y (by omega);replace R:=j R (by omega);replace G:=j G (by omega);replace f:=f.keep b;replace i:=i.keep b;replace F:=F.keep b;rw[an];clear an;replace m:=aa X.g2 (aa Y.g2 (aa R.g4 G.k2));refine(au _ _ _ f i).mono ?_;rintro e9 w9 ⟨v9,a4,rfl,h9, -,M⟩;obtain⟨s9,A9,k9,c9,rfl⟩:=h9.form;replace X:=X.below M;replace Y:=Y.below M;replace R:=R.below M;replace G:=G.below M;replace m:=aa X.g2 (aa Y.g2 (aa R.g4 G.k2));replace b:=KM.below M;replace f:=f.keep b;replace i:=i.keep b;replace F:=F.keep b;replace a:=aC a M;go_wp2_with fail;have aj:=X.lt;have ak:=Y.lt;have ai:=R.lt;have ay:=G.lt;have ax:=a.size;obtain⟨W6,x,Y,a,b,j⟩:=Y.mut2 a (by omega) (.bool s9) (.slice A9 k9 c9) rfl rfl;replace X:=j X (by omega);replace R:=j R (by omega);replace G:=j G (by omega);replace F:=F.keep b;replace h9:=h9.keep b;rw[x];clear x;replace m:=aa X.k2 (aa Y.k2 (aa R.k4 G.k2));go_meet;exact⟨N,D,_,_,_,_,_,_,_,_,aq,a0,(fun _=>r),aw,av,X,Y,R,F,h9,a⟩
   ·have q1:decide (1<bb)=false:=by simpa using fun h=>af (T.1 h)
    have hg:g=1:=by omega
    subst hg;have az:Hid (q.num=p∧(q.den:Int)=o):=by have:=r.out;unfold Hid;simpa using this
    clear T af;go_wp2_with fail;go_meet;exact⟨p,o,_,_,_,_,_,_,_,_,ac,H,(fun _=>az),B,z,X,Y,R,hn,f,a⟩
  case rest=>
   clear X Y R hn f a m B z r H ac aq av aw;obtain⟨N,D,P,I,O,J,s2,Z,k2,c2,ac, -,hP,B,z,X,Y,R,hn,f,a⟩:=hcut;have r:=hP rfl;clear hP;have m:=aa X.g2 (aa Y.g2 R.g4);go_wp2_with fail;refine(AG _ _ _ f z).mono ?_;rintro e6 a5 ⟨al,rfl, -,ab,V⟩;replace X:=X.below V;replace Y:=Y.below V;replace R:=R.below V;replace m:=aa X.g2 (aa Y.g2 R.g4);replace b:=KM.below V;replace hn:=hn.keep b;replace f:=f.keep b;replace a:=aC a V;by_cases ad:D=1
   ·have q1:(al==1)=true:=by simpa using ab.2 (by rw[ad];rfl)
    have ae:Hid (bI q=0):=eK.2 (by have:=r.out.2;omega);clear ab ad;go_wp2_with fail;obtain⟨U0,Q,Y,a,b,j⟩:=Y.mut2 a (by omega) (.bool false) (.slice none 0 0) rfl rfl;replace X:=j X (by omega);replace R:=j R (by omega);replace hn:=hn.keep b;obtain⟨W6,x,R,a,b,j⟩:=R.mut4 a (by omega) (.bool P) (.slice I O J) (.bool false) (.slice none 0 0) rfl rfl;replace X:=j X (by omega);replace Y:=j Y (by omega);replace hn:=hn.keep b;rw[Q,x];clear Q x;replace m:=aa X.k2 (aa Y.k2 R.k4);exact aK (v:= .agg #[.bool P,.slice I O J,.bool false,.slice none 0 0]) (by simp[results,Tryz.results150,go_sem,R.k4]) rfl ⟨_,rfl,NQ.of hn (NI.zero _) r.out.1 ae.out,a⟩
   ·have q1:(al==1)=false:=by simpa using fun h=>ad (by have:=ab.1 h;omega)
    have ae:Hid (bI q=D):=(kZ (by have:=r.out.2;omega)).trans r.out.2;clear ab ad;go_wp2_with fail;obtain⟨W6,x,R,a,b,j⟩:=R.mut4 a (by omega) (.bool P) (.slice I O J) (.bool s2) (.slice Z k2 c2) rfl rfl;replace X:=j X (by omega);replace Y:=j Y (by omega);replace hn:=hn.keep b;replace f:=f.keep b;rw[x];clear x;replace m:=aa X.k2 (aa Y.k2 R.k4);exact aK (v:= .agg #[.bool P,.slice I O J,.bool s2,.slice Z k2 c2]) (by simp[results,Tryz.results150,go_sem,R.k4]) rfl ⟨_,rfl,NQ.of hn f r.out.1 ae.out,a⟩
theorem oH (q:Rat) (v:Value) (w:World) (hv:NQ w v q) (G:nl q.den<=549755813888):Calls Tryz.prog 162 #[v] w (kV w (q.den:Int)):=by
 obtain⟨s,A,k,c,j,g,b,i,rfl⟩:=hv.form;obtain⟨e,C⟩:=hv.den.words.len;have z:nl (bI q).natAbs<=549755813888:=aG (kH q) G;by_cases f:q.den=1
 ·have y:b=0:=e.2 (by rw[eK.2 f];rfl);have H:((b:Int)==0)=true:=by rw[y];rfl
  have D:Hid ((q.den:Int)=1):=by unfold Hid;omega
  have F:∀W,Calls Tryz.prog 145 #[.int .i64 1] W (kV W 1):=fun W=>AH 1 W (by decide);clear e C y f z;obtain⟨W,t,a,B,R⟩:=dI w [.bool s,.slice A k c,.bool j,.slice g b i] 81 [.bool false,.slice none 0 0] 79;have r:=aa B.g4 R.g2;go_enter Tryz.func162,Tryz.ntmps162;go_wp2_with fail;(try rw[t]);clear t;refine(F _).mono ?_;rintro K I ⟨L,rfl,d,n⟩;obtain⟨p,l,o,m,rfl⟩:=d.form;replace B:=B.below n;replace R:=R.below n;replace r:=aa B.k4 R.g2;replace a:=aC a n;replace d:NI I (.agg #[.bool p,.slice l o m]) (q.den:Int):=by rw[D.out];exact d
  go_wp2_with fail;obtain⟨J,u,R,a,e,E⟩:=R.mut2 a (by omega) (.bool p) (.slice l o m) rfl rfl;replace B:=E B (by omega);replace d:=d.keep e;rw[u];clear u;replace r:=aa B.k4 R.k2;exact aK (v:= .agg #[.bool p,.slice l o m]) (by simp[results,Tryz.results162,go_sem,R.k2]) rfl ⟨_,rfl,d,a⟩
 ·have H:((b:Int)==0)=false:=by
   have:b≠0:=fun h=>f (eK.1 (by have:=e.1 h;omega));simpa using this
  have x:=hv.den;rw[kZ f] at x;have a:Below w.heap.size w ((w.alloc (.cells #[.bool s,.slice A k c,.bool j,.slice g b i] 81)).alloc (.cells #[.bool j,.slice g b i] 79)):=((aH _ _).alloc aE _).alloc (by simp) _;clear e C f z;go_enter Tryz.func162,Tryz.ntmps162;go_wp2_with fail;exact aK (v:= .agg #[.bool j,.slice g b i]) (by simp[results,Tryz.results162,go_sem]) rfl ⟨_,rfl,x.below a,a⟩
theorem mZ (q:Rat) (v:Value) (w:World) (hv:NQ w v q) (h:nl q.num.natAbs<=1099511627776):Calls Tryz.prog 81 #[v] w (dK w q.num.sign):=by
 obtain⟨s,A,k,c,i,d,g,e,rfl⟩:=hv.form;obtain⟨W,b,a,B⟩:=bB w [.bool s,.slice A k c,.bool i,.slice d g e] 81;have j:=B.g4;go_enter Tryz.func81,Tryz.ntmps81;go_wp2_with fail;(try rw[b]);clear b;refine(AI _ _ _ (hv.below a).num h).mono ?_;rintro l m ⟨rfl,f⟩;go_wp2_with fail;go_ret;exact⟨rfl,aC a f⟩
theorem AB (q:Rat) (v:Value) (w:World) (hv:NQ w v q) (x:nl q.num.natAbs<=1099511627776):Calls Tryz.prog 97 #[v] w (fC w (-q)):=by
 obtain⟨s,A,k,c,j,e,i,f,rfl⟩:=hv.form;obtain⟨W,o,a,B,R⟩:=dI w [.bool s,.slice A k c,.bool j,.slice e i f] 81 [.bool false,.slice none 0 0,.bool false,.slice none 0 0] 81;have l:=aa B.g4 R.g4;go_enter Tryz.func97,Tryz.ntmps97;go_wp2_with fail;(try rw[o]);clear o;have hn:=(hv.below a).num;have b:=(hv.below a).den;replace hn:=hn.drew;replace b:=b.drew;replace B:=B.drew;replace R:=R.drew;replace a:=a.drew;replace l:=aa B.k4 R.g4;have y:w.heap.size+1≠w.heap.size:=by omega
 go_region_held3 (fun w'=>C4 w' w.heap.size (.bool s) (.slice A k c) (.bool j) (.slice e i f))
  (first|(with_reducible exact B.k4)|((repeat (first|with_reducible exact B.k4|with_reducible refine jA y ?_))))
  (first
   |(go_at_call 165;(with_reducible refine(uX _ _ _ hn x).mono ?_);rintro C E ⟨D,rfl,g,h⟩;obtain⟨t,m,r,n,rfl⟩:=g.form;replace B:=B.below h;replace R:=R.below h;replace l:=aa B.k4 R.g4;replace d:=KM.below h;replace hn:=hn.keep d;replace b:=b.keep d;replace a:=aC a h))
 all_goals (
  go_wp2_with fail;obtain⟨z,p,R,a,d,u⟩:=R.mut4 a (by omega) (.bool t) (.slice m r n) (.bool j) (.slice e i f) rfl rfl;replace B:=u B (by omega);replace g:=g.keep d;replace b:=b.keep d;rw[p];clear p;replace l:=aa B.k4 R.k4;exact aK (v:= .agg #[.bool t,.slice m r n,.bool j,.slice e i f]) (by simp[results,Tryz.results97,go_sem,R.k4]) rfl ⟨_,rfl,NQ.of g b rfl rfl,a⟩
 )
theorem mY (x:Rat):x=(x.num:Rat)/(x.den:Rat):=by rw[<-Rat.mkRat_eq_div,Rat.mkRat_self]
theorem uU (x y:Rat):((x.num*y.num:Int):Rat)/(((x.den:Int)*(y.den:Int):Int):Rat)=x*y:=by
 conv=>rhs;rw[mY x,mY y]
 rw[Rat.intCast_mul,Rat.intCast_mul,Rat.intCast_natCast,Rat.intCast_natCast];grind
theorem NQ.len {w:World} {s b:Bool} {u:Value} {A:Option Addr} {k c:Nat} {q:Rat} (h:NQ w (.agg #[.bool s,u,.bool b,.slice A k c]) q):((k:Int)==0)=decide (q.den=1):=by
 have:=h.den.words.len.1;rw[Int.natAbs_eq_zero,eK] at this;by_cases a:q.den=1
 ·rw[this.2 a];simp[a]
 ·have:k≠0:=fun e=>a (this.1 e);simp[a,this]
theorem rL (x y:Rat) (vx vy:Value) (w:World) (g:NQ w vx x) (i:NQ w vy y) (K:Nat) (kx:RL K x) (ky:RL K y) (hK:2*K<=549755813888):Calls Tryz.prog 94 #[vx,vy] w (fC w (x*y)):=by
 obtain⟨s,A,k,c,V,M,r,O,rfl⟩:=g.form;obtain⟨t,C,l,d,Z,N,z,P,rfl⟩:=i.form;obtain⟨S,k2⟩:=kx;obtain⟨k3,k4⟩:=ky;have T:=g.len;have U:=i.len;by_cases f:x.den=1∧y.den=1
 ·have r1:((r:Int)==0)=true:=by rw[T];simpa using f.1
  have r2:((z:Int)==0)=true:=by rw[U];simpa using f.2
  have B:Hid ((x*y).num=x.num*y.num∧(x*y).den=1):=by
   have e:x*y=((x.num*y.num:Int):Rat):=by
    rw[<-uU x y,f.1,f.2];simp;grind
   rw[e];exact⟨rfl,rfl⟩
  clear T U f;obtain⟨W,D,b,X,Y,R⟩:=fF w [.bool s,.slice A k c,.bool V,.slice M r O] 81 [.bool t,.slice C l d,.bool Z,.slice N z P] 81 [.bool false,.slice none 0 0,.bool false,.slice none 0 0] 81;have n:=aa X.g4 (aa Y.g4 R.g4);go_enter Tryz.func94,Tryz.ntmps94;go_wp2_with fail;(try rw[D]);clear D;refine(mH x.num y.num _ _ _ (g.below b).num (i.below b).num (by omega) (by omega)).mono ?_;rintro Q w1 ⟨v1,rfl,f,q⟩;obtain⟨s1,A1,S,c1,rfl⟩:=f.form;replace X:=X.below q;replace Y:=Y.below q;replace R:=R.below q;replace n:=aa X.k4 (aa Y.k4 R.g4);replace b:=aC b q;go_wp2_with fail;obtain⟨W6,E,R,b,a,F⟩:=R.mut4 b (by omega) (.bool s1) (.slice A1 S c1) (.bool false) (.slice none 0 0) rfl rfl;replace X:=F X (by omega);replace Y:=F Y (by omega);replace f:=f.keep a;rw[E];clear E;replace n:=aa X.k4 (aa Y.k4 R.k4);exact aK (v:= .agg #[.bool s1,.slice A1 S c1,.bool false,.slice none 0 0]) (by simp[results,Tryz.results94,go_sem,R.k4]) rfl ⟨_,rfl,NQ.of f (NI.zero _) B.out.1 (eK.2 B.out.2),b⟩
 ·have B:=aB (uU x y);have lm:=dJ x.num.natAbs y.num.natAbs;have ld:=dJ x.den y.den;have ab:(x.den:Int)*(y.den:Int)≠0:=Int.mul_ne_zero (by have:=x.den_nz;omega) (by have:=y.den_nz;omega);have Q:nl (x.num*y.num).natAbs<=549755813888:=by rw[Int.natAbs_mul];omega
  have e2:nl ((x.den:Int)*(y.den:Int)).natAbs<=549755813888:=by rw[Int.natAbs_mul];exact aG ld (by omega)
  have ah:((r:Int)==0)=false∨((r:Int)==0)=true∧((z:Int)==0)=false:=by
   rw[T,U];by_cases j:x.den=1
   ·exact .inr ⟨by simpa using j,by simpa using fun h=>f ⟨j,h⟩⟩
   ·exact .inl (by simpa using j)
  have ac:=fun W u v h G=>rM (x.num*y.num) ((x.den:Int)*(y.den:Int)) u v W h G ab Q e2;rw[B.out] at ac;have af:=fun W u v h G=>mH x.num y.num u v W h G (by omega) (by omega);have ag:=fun W u v h G=>mH (x.den:Int) (y.den:Int) u v W h G (by rw[cI];omega) (by rw[cI];omega);have ad:=fun W h=>oH x (.agg #[.bool s,.slice A k c,.bool V,.slice M r O]) W h (by omega);have ae:=fun W h=>oH y (.agg #[.bool t,.slice C l d,.bool Z,.slice N z P]) W h (by omega);clear T U f B lm ld ab Q e2;rcases ah with r1|⟨r1,r2⟩
  all_goals (
   obtain⟨W,D,b,X,Y,R⟩:=fF w [.bool s,.slice A k c,.bool V,.slice M r O] 81 [.bool t,.slice C l d,.bool Z,.slice N z P] 81 [.bool false,.slice none 0 0,.bool false,.slice none 0 0] 81;have n:=aa X.g4 (aa Y.g4 R.g4);go_enter Tryz.func94,Tryz.ntmps94;go_wp2_with fail;(try rw[D]);clear D;replace g:=g.below b;replace i:=i.below b;replace g:=g.drew;replace i:=i.drew;replace X:=X.drew;replace Y:=Y.drew;replace R:=R.drew;replace b:=b.drew;replace n:=aa X.k4 (aa Y.k4 R.g4);have ai:w.heap.size+1+1≠w.heap.size:=by omega
   have aj:w.heap.size+1+1≠w.heap.size+1:=by omega
   go_region_held3 (fun w'=>C4 w' w.heap.size (.bool s) (.slice A k c) (.bool V) (.slice M r O)∧C4 w' (w.heap.size+1) (.bool t) (.slice C l d) (.bool Z) (.slice N z P))
    (first|(with_reducible exact⟨X.k4,Y.k4⟩)|(refine⟨?_,?_⟩<;>(repeat (first|with_reducible exact X.k4|with_reducible exact Y.k4|with_reducible refine jA ai ?_|with_reducible refine jA aj ?_))))
    (first
     |(go_at_call 149;(with_reducible refine(af _ _ _ g.num i.num).mono ?_);rintro Q w1 ⟨v1,rfl,f,q⟩;obtain⟨s1,A1,S,c1,rfl⟩:=f.form;replace X:=X.below q;replace Y:=Y.below q;replace R:=R.below q;replace n:=aa X.k4 (aa Y.k4 R.g4);replace a:=KM.below q;replace g:=g.keep a;replace i:=i.keep a;(try replace j:=j.keep a);(try replace o:=o.keep a);(try replace p:=p.keep a);(try replace m:=m.keep a);replace b:=aC b q)
     |(go_at_call 162;(with_reducible refine(ad _ g).mono ?_);rintro e2 w2 ⟨v2,rfl,j,H⟩;obtain⟨s2,A2,k2,c2,rfl⟩:=j.form;replace X:=X.below H;replace Y:=Y.below H;replace R:=R.below H;replace n:=aa X.k4 (aa Y.k4 R.g4);replace a:=KM.below H;replace g:=g.keep a;replace i:=i.keep a;(try replace f:=f.keep a);(try replace o:=o.keep a);(try replace p:=p.keep a);(try replace m:=m.keep a);replace b:=aC b H)
     |(go_at_call 162;(with_reducible refine(ae _ i).mono ?_);rintro e3 w3 ⟨v3,rfl,o,I⟩;obtain⟨s3,A3,k3,c3,rfl⟩:=o.form;replace X:=X.below I;replace Y:=Y.below I;replace R:=R.below I;replace n:=aa X.k4 (aa Y.k4 R.g4);replace a:=KM.below I;replace g:=g.keep a;replace i:=i.keep a;(try replace f:=f.keep a);(try replace j:=j.keep a);(try replace p:=p.keep a);(try replace m:=m.keep a);replace b:=aC b I)
     |(go_at_call 149;(with_reducible refine(ag _ _ _ j o).mono ?_);rintro e4 w4 ⟨v4,rfl,p,J⟩;obtain⟨s4,A4,k4,c4,rfl⟩:=p.form;replace X:=X.below J;replace Y:=Y.below J;replace R:=R.below J;replace n:=aa X.k4 (aa Y.k4 R.g4);replace a:=KM.below J;replace g:=g.keep a;replace i:=i.keep a;(try replace f:=f.keep a);(try replace j:=j.keep a);(try replace o:=o.keep a);(try replace m:=m.keep a);replace b:=aC b J)
     |(go_at_call 150;(with_reducible refine(ac _ _ _ f p).mono ?_);rintro e5 w5 ⟨v5,rfl,m,L⟩;obtain⟨s5,A5,k5,c5,s6,A6,k6,c6,rfl⟩:=m.form;replace X:=X.below L;replace Y:=Y.below L;replace R:=R.below L;replace n:=aa X.k4 (aa Y.k4 R.g4);replace a:=KM.below L;replace g:=g.keep a;replace i:=i.keep a;(try replace f:=f.keep a);(try replace j:=j.keep a);(try replace o:=o.keep a);(try replace p:=p.keep a);replace b:=aC b L))
   all_goals (
    go_wp2_with fail;obtain⟨W6,E,R,b,a,F⟩:=R.mut4 b (by omega) (.bool s5) (.slice A5 k5 c5) (.bool s6) (.slice A6 k6 c6) rfl rfl;replace X:=F X (by omega);replace Y:=F Y (by omega);replace m:=m.keep a;rw[E];clear E;replace n:=aa X.k4 (aa Y.k4 R.k4);exact aK (v:= .agg #[.bool s5,.slice A5 k5 c5,.bool s6,.slice A6 k6 c6]) (by simp[results,Tryz.results94,go_sem,R.k4]) rfl ⟨_,rfl,m,b⟩;))
theorem zZ (x y:Rat) (h:y≠0):((x.num*(y.den:Int):Int):Rat)/(((x.den:Int)*y.num:Int):Rat)=x/y:=by
 have c:(y.num:Rat)≠0:=fun e=>h (Rat.num_eq_zero.1 (Rat.intCast_inj.1 e));have a:(y.den:Rat)≠0:=fun e=>y.den_nz (by have:=Rat.intCast_inj.1 (show((y.den:Int):Rat)=((0:Int):Rat) from e);omega);have b:(x.den:Rat)≠0:=fun e=>x.den_nz (by have:=Rat.intCast_inj.1 (show((x.den:Int):Rat)=((0:Int):Rat) from e);omega);conv=>rhs;rw[mY x,mY y]
 rw[Rat.intCast_mul,Rat.intCast_mul,Rat.intCast_natCast,Rat.intCast_natCast];grind
theorem uV (x y:Rat) (vx vy:Value) (w:World) (g:NQ w vx x) (f:NQ w vy y) (K:Nat) (kx:RL K x) (ky:RL K y) (hK:2*K<=549755813888) (P:y≠0):Calls Tryz.prog 135 #[vx,vy] w (fC w (x/y)):=by
 obtain⟨s,A,k,c,T,L,S,M,rfl⟩:=g.form;obtain⟨t,C,l,d,J,G,I,H,rfl⟩:=f.form;obtain⟨k1,k2⟩:=kx;obtain⟨k3,k4⟩:=ky;have Z:=aB (zZ x y P);have lm:=dJ x.num.natAbs y.den;have ld:=dJ x.den y.num.natAbs;have Q:y.num≠0:=fun e=>P (Rat.num_eq_zero.1 e);have ac:(x.den:Int)*y.num≠0:=Int.mul_ne_zero (by have:=x.den_nz;omega) Q;have N:nl (x.num*(y.den:Int)).natAbs<=549755813888:=by rw[Int.natAbs_mul,cI];omega
 have O:nl ((x.den:Int)*y.num).natAbs<=549755813888:=by rw[Int.natAbs_mul,cI];omega
 have ad:=fun W u v h q=>rM (x.num*(y.den:Int)) ((x.den:Int)*y.num) u v W h q ac N O;rw[Z.out] at ad;have ag:=fun W u v h q=>mH x.num (y.den:Int) u v W h q (by omega) (by rw[cI];omega);have ah:=fun W u v h q=>mH (x.den:Int) y.num u v W h q (by rw[cI];omega) (by omega);have ae:=fun W h=>oH x (.agg #[.bool s,.slice A k c,.bool T,.slice L S M]) W h (by omega);have af:=fun W h=>oH y (.agg #[.bool t,.slice C l d,.bool J,.slice G I H]) W h (by omega);have ai:=fun W h=>mZ y (.agg #[.bool t,.slice C l d,.bool J,.slice G I H]) W h (by omega);have q0:(y.num.sign==0)=false:=by rw[beq_eq_false_iff_ne];exact fun e=>Q (Int.sign_eq_zero_iff_zero.1 e)
 generalize y.num.sign=sg at *;clear Z lm ld ac N O Q P;obtain⟨W,eW,b,X,Y,R⟩:=fF w [.bool s,.slice A k c,.bool T,.slice L S M] 81 [.bool t,.slice C l d,.bool J,.slice G I H] 81 [.bool false,.slice none 0 0,.bool false,.slice none 0 0] 81;have p:=aa X.g4 (aa Y.g4 R.g4);go_enter Tryz.func135,Tryz.ntmps135;go_wp2_with fail;(try rw[eW]);clear eW;replace g:=g.below b;replace f:=f.below b;refine(ai _ f).mono ?_;rintro e0 w0 ⟨rfl,r⟩;replace X:=X.below r;replace Y:=Y.below r;replace R:=R.below r;replace p:=aa X.k4 (aa Y.k4 R.g4);replace a:=KM.below r;replace g:=g.keep a;replace f:=f.keep a;replace b:=aC b r;go_wp2_with fail;replace g:=g.drew;replace f:=f.drew;replace X:=X.drew;replace Y:=Y.drew;replace R:=R.drew;replace b:=b.drew;replace p:=aa X.k4 (aa Y.k4 R.g4);have aj:w.heap.size+1+1≠w.heap.size:=by omega
 have ak:w.heap.size+1+1≠w.heap.size+1:=by omega
 go_region_held3 (fun w'=>C4 w' w.heap.size (.bool s) (.slice A k c) (.bool T) (.slice L S M)∧C4 w' (w.heap.size+1) (.bool t) (.slice C l d) (.bool J) (.slice G I H))
  (first|(with_reducible exact⟨X.k4,Y.k4⟩)|(refine⟨?_,?_⟩<;>(repeat (first|with_reducible exact X.k4|with_reducible exact Y.k4|with_reducible refine jA aj ?_|with_reducible refine jA ak ?_))))
  (first
   |(go_at_call 149;(with_reducible refine(ag _ _ _ g.num n).mono ?_);rintro N w1 ⟨v1,rfl,j,z⟩;obtain⟨s1,A1,k1,c1,rfl⟩:=j.form;replace X:=X.below z;replace Y:=Y.below z;replace R:=R.below z;replace p:=aa X.k4 (aa Y.k4 R.g4);replace a:=KM.below z;replace g:=g.keep a;replace f:=f.keep a;(try replace m:=m.keep a);(try replace n:=n.keep a);(try replace o:=o.keep a);(try replace i:=i.keep a);replace b:=aC b z)
   |(go_at_call 162;(with_reducible refine(ae _ g).mono ?_);rintro O w2 ⟨v2,rfl,m,B⟩;obtain⟨s2,A2,k2,c2,rfl⟩:=m.form;replace X:=X.below B;replace Y:=Y.below B;replace R:=R.below B;replace p:=aa X.k4 (aa Y.k4 R.g4);replace a:=KM.below B;replace g:=g.keep a;replace f:=f.keep a;(try replace j:=j.keep a);(try replace n:=n.keep a);(try replace o:=o.keep a);(try replace i:=i.keep a);replace b:=aC b B)
   |(go_at_call 162;(with_reducible refine(af _ f).mono ?_);rintro e3 w3 ⟨v3,rfl,n,D⟩;obtain⟨s3,A3,k3,c3,rfl⟩:=n.form;replace X:=X.below D;replace Y:=Y.below D;replace R:=R.below D;replace p:=aa X.k4 (aa Y.k4 R.g4);replace a:=KM.below D;replace g:=g.keep a;replace f:=f.keep a;(try replace j:=j.keep a);(try replace m:=m.keep a);(try replace o:=o.keep a);(try replace i:=i.keep a);replace b:=aC b D)
   |(go_at_call 149;(with_reducible refine(ah _ _ _ m f.num).mono ?_);rintro e4 w4 ⟨v4,rfl,o,E⟩;obtain⟨s4,A4,k4,c4,rfl⟩:=o.form;replace X:=X.below E;replace Y:=Y.below E;replace R:=R.below E;replace p:=aa X.k4 (aa Y.k4 R.g4);replace a:=KM.below E;replace g:=g.keep a;replace f:=f.keep a;(try replace j:=j.keep a);(try replace m:=m.keep a);(try replace n:=n.keep a);(try replace i:=i.keep a);replace b:=aC b E)
   |(go_at_call 150;(with_reducible refine(ad _ _ _ j o).mono ?_);rintro e5 w5 ⟨v5,rfl,i,F⟩;obtain⟨s5,U,k5,c5,s6,V,k6,c6,rfl⟩:=i.form;replace X:=X.below F;replace Y:=Y.below F;replace R:=R.below F;replace p:=aa X.k4 (aa Y.k4 R.g4);replace a:=KM.below F;replace g:=g.keep a;replace f:=f.keep a;(try replace j:=j.keep a);(try replace m:=m.keep a);(try replace n:=n.keep a);(try replace o:=o.keep a);replace b:=aC b F))
 all_goals (
  go_wp2_with fail;obtain⟨W6,ab,R,b,a,ff⟩:=R.mut4 b (by omega) (.bool s5) (.slice U k5 c5) (.bool s6) (.slice V k6 c6) rfl rfl;replace X:=ff X (by omega);replace Y:=ff Y (by omega);replace i:=i.keep a;rw[ab];clear ab;replace p:=aa X.k4 (aa Y.k4 R.k4);exact aK (v:= .agg #[.bool s5,.slice U k5 c5,.bool s6,.slice V k6 c6]) (by simp[results,Tryz.results135,go_sem,R.k4]) rfl ⟨_,rfl,i,b⟩;)
theorem IntAt.blk {w:World} {s:Bool} {A:Option Addr} {k c:Nat} {n:Int} (h:IntAt w (.agg #[.bool s,.slice A k c]) n):∀g,(Value.slice A k c).ownBlock=some g->g<w.heap.size:=fun _ e=>h.words.block e
theorem SumAt.mono {w:World} {p Z L M a:Nat} {s:Int} (h:SumAt w p Z L M s) (r:M<=a):SumAt w p Z L a s:=by
 obtain⟨m,nv,o,n,b,c,d,e,f,g,i,j,k,l,q⟩:=h;exact⟨m,nv,o,n,b,c,d,e,f,g,i,j,k,l,by omega⟩
theorem WholeAt.get {w:World} {A:Option Addr} {c l:Nat} {ns:List Int} (h:WholeAt w (.slice A l c) ns) {i:Nat} (hi:i<ns.length):
  ∃b s B m d,A=some ⟨b,0,none⟩∧b<w.heap.size∧w.cell? ⟨b,i*2,none⟩=some (.bool s)∧w.cell? ⟨b,i*2+1,none⟩=some (.slice B m d)∧IntAt w (.agg #[.bool s,.slice B m d]) (cf ns i)∧cf ns i∈ns:=by
 obtain⟨b,s,B,m,d,a,e,f,g,j⟩:=h.at_ (aL hi);exact⟨b,s,B,m,d,a,e,f,g,by rw[eJ hi];exact j,by rw[eJ hi];exact List.getElem_mem hi⟩
theorem tI (ns:List Int) (v:Value) (w:World) (hv:WholeAt w v ns) (k:ns≠[]) (y:ns.length<=1099511627776):
  Calls Tryz.prog 66 #[v] w (dB w (cf ns (ns.length-1))):=by
 obtain⟨A,c,rfl,x⟩:=hv.form;have n:ns.length≠0:=fun e=>k (bM e);obtain⟨m,q⟩:∃m,ns.length=m+1:=⟨ns.length-1,by omega⟩;have F:((ns.length:Int)==0)=false:=by simp;omega
 obtain⟨b,s,B,l,d,rfl,h,f,g,j, -⟩:=hv.get (i:=ns.length-1) (by omega);have u:(ns.length:Int)-1=(m:Int):=by omega
 have a:ns.length-1=m:=by omega
 rw[a] at f g j⊢;have z:(0:Int)<=(m:Int):=by omega
 have C:(m:Int)<(ns.length:Int):=by omega
 have D:=fun o=>(((aH w.heap.size w).alloc aE o).cell (p:=⟨b,m*2,none⟩) h).trans f;have E:=fun o=>(((aH w.heap.size w).alloc aE o).cell (p:=⟨b,m*2+1,none⟩) h).trans g;clear n k a q;go_enter Tryz.func66,Tryz.ntmps66;go_wp2_with fail;have R:=Bx.new w [.bool s,.slice B l d] 59;have r:=R.cell 0 rfl;have t:=R.cell 1 rfl;exact aK (v:= .agg #[.bool s,.slice B l d]) (by simp[results,Tryz.results66,go_sem]) rfl ⟨_,rfl,j.keep (Keep.alloc _ _),(aH _ _).alloc aE _⟩
theorem xA {α:Type} (k:Nat):∀(n:Nat) (l:List α),l.length=n*k->∃rows:List (List α),rows.length=n∧rows.flatten=l∧∀r∈rows,r.length=k
 |0,l,h=>⟨[],rfl,by rw[Nat.zero_mul] at h;exact(bM h).symm,fun _ h=>by cases h⟩
 |n+1,l,h=>by
  rw[Nat.succ_mul] at h;obtain⟨rows,b,c,d⟩:=xA k n (l.drop k) (by rw[List.length_drop];omega);refine⟨l.take k :: rows,by rw[List.length_cons,b],by rw[List.flatten_cons,c,List.take_append_drop],fun r a=> ?_⟩;rcases List.mem_cons.1 a with rfl|a
  ·rw[aZ];omega
  ·exact d r a
theorem DS {w:World} {f n:Nat} {v:Value} {rows:List (List Value)} {ns:List Int} (h:w.ownsRow f 59 2 v n rows.flatten) (C:∀r∈rows,r.length=2) (hn:rows.length=n) (E:ns.length=n) (I:0<n) (hi:IRow w rows ns):
  ∃g a,v= .slice (some ⟨g,0,none⟩) n a∧f<=g∧g<w.heap.size∧n<=a∧a<=maxLen∧OwnW w g ns:=by
 rcases h.2 with ⟨_,H⟩|⟨g,a,u,rfl,z,o,B,D,F,G⟩
 ·omega
 ·obtain⟨t,J,k,b⟩:=xA 2 a u.toList (by simpa using F);refine⟨g,a,rfl,z,(Array.getElem?_eq_some_iff.1 o).1,B,D,t,⟨?_,b⟩,by omega,fun i m q=> ?_⟩
  ·unfold Bx;rw[o,k]
  ·obtain⟨s,A,l,c,x,y⟩:=hi i m q;refine⟨s,A,l,c,?_,y⟩;have K:i<n:=by rw[<-E];exact(List.getElem?_eq_some_iff.1 q).1
   obtain⟨e,d⟩:∃e,t[i]? =some e:=⟨_,aL (by omega)⟩;rw[d];congr 1;have L:=b e (cH d);refine List.ext_getElem? (fun j=> ?_);by_cases p:j<2
   ·rw[<-kF b d p,<-kF C x p,k,<-G,List.getElem?_take,if_pos (by omega)]
   ·rw[eF (by omega),eF (by simp;omega)]
theorem WholeAt.rows {w:World} {A:Option Addr} {c l:Nat} {ns:List Int} (h:WholeAt w (.slice A l c) ns) (v:ns≠[]):
  ∃rows:List (List Value),rows.length=l∧l=ns.length∧(∀r∈rows,r.length=2)∧Src w A rows.flatten∧IRow w rows ns∧∀u∈rows.flatten,u.oneCell'=true:=by
 obtain⟨B,C,e,D,h⟩:=h;simp only[Value.slice.injEq] at e;obtain⟨rfl,rfl,rfl⟩:=e;obtain⟨b,rows,rfl,o,g⟩:=h.resolve_left v;have F:ns.length<=rows.length:=by
  rcases Nat.lt_or_ge rows.length ns.length with d|d
  ·obtain⟨s,A,l,c,a,_⟩:=g rows.length _ (aL d);simp at a
  ·exact d
 have k:∀r∈rows.take ns.length,r.length=2:=fun r h=>o.2 r (List.mem_of_mem_take h);have m:∀i r,(rows.take ns.length)[i]? =some r->i<ns.length∧rows[i]? =some r:=fun i r h=>by
  rw[List.getElem?_take] at h;split at h
  ·exact⟨by assumption,h⟩
  ·cases h
 refine⟨rows.take ns.length,by rw[aZ];omega,rfl,k,.inr ⟨b,0,rfl,fun j u f=> ?_⟩,fun i n hn=> ?_,fun u f=> ?_⟩
 ·have E:j<ns.length*2:=by
   have:=(List.getElem?_eq_some_iff.1 f).1;rw[kG k,aZ] at this;omega
  obtain⟨r,q⟩:∃r,(rows.take ns.length)[j/2]? =some r:=⟨_,aL (by rw[aZ];omega)⟩;have d:=kF k q (show j%2<2 by omega);have e:j/2*2+j%2=j:=by omega
  rw[e,f] at d;have:=o.cell (j%2) (m _ _ q).2 d.symm;rw[e] at this;rw[aS];exact this
 ·obtain⟨s,A,l,c,a,t⟩:=g i n hn;exact⟨s,A,l,c,by rw[List.getElem?_take,if_pos (List.getElem?_eq_some_iff.1 hn).1];exact a,t⟩
 ·obtain⟨r,z,p⟩:=List.mem_flatten.1 f;obtain⟨i,y⟩:=List.mem_iff_getElem?.1 z;obtain⟨d,x⟩:=m i r y;obtain⟨s,A,l,c,a,_⟩:=g i _ (aL d);rw[x] at a;injection a with a;subst a;simp at p;rcases p with rfl|rfl<;>rfl
theorem DT {α:Type} {ys xs:List α} {y:α} {j:Nat} (a:ys[j]? =some y) (d:xs.length=ys.length):(ys.take j++xs.drop j).set j y=ys.take (j+1)++xs.drop (j+1):=by
 have c:j<ys.length:=(List.getElem?_eq_some_iff.1 a).1;have b:(ys.take j).length=j:=by rw[aZ];omega
 rw[List.set_append_right _ _ (by omega),b,Nat.sub_self,List.take_add_one,a,Option.toList_some,List.append_assoc,List.drop_eq_getElem_cons (show j<xs.length by omega),List.set_cons_zero];rfl
theorem DU {α:Type} {ys xs:List α} {j:Nat} (h:j<xs.length) (b:xs.length=ys.length):(ys.take j++xs.drop j)[j]? =xs[j]? :=by
 have a:(ys.take j).length=j:=by rw[aZ];omega
 rw[dS (by omega),a,Nat.sub_self,List.getElem?_drop,Nat.add_zero]
theorem DV {α:Type} {ys xs:List α} {j:Nat} (a:xs.length=ys.length):(ys.take j++xs.drop j).length=xs.length:=by
 rw[aY,aZ,List.length_drop];omega
def iS (r v:List Int) (a lead:Int) (k m:Nat):List Int:=(List.range m).map (fun i=>cf r i*lead-(if k<=i then a*cf v (i-k) else 0))
def lH (q:List Int) (a lead:Int) (k:Nat):List Int:=(q.map (·*lead)).set k (cf q k*lead+a)
theorem O2 (q:List Int) (a lead:Int) {k:Nat} (b:k<q.length) (j:Nat):cf (lH q a lead k) j=cf q j*lead+(if j=k then a else 0):=by
 unfold lH cf;rw[dF,dF];by_cases e:j=k
 ·subst e;rw[if_pos rfl,List.getElem?_set_self (by simpa using b)];simp
 ·rw[if_neg e,List.getElem?_set_ne (fun h=>e h.symm),List.getElem?_map,Int.add_zero];cases hh:q[j]? <;>simp[hh]
theorem O3 (r v:List Int) (a lead:Int) (k m i:Nat):cf (iS r v a lead k m) i=if i<m then cf r i*lead-(if k<=i then a*cf v (i-k) else 0) else 0:=nA _ m i
theorem O4 {m lead:Int} {w q v r:List Int} {k:Nat} (hv:v≠[]) (g:r.length=v.length+k) (f:k<q.length) (e:lead=cf v (v.length-1))
  (d:∀i,m*cf w i=conv (cf q) (cf v) i+cf r i) (i:Nat):
  (m*lead)*cf w i=conv (cf (lH q (cf r (v.length-1+k)) lead k)) (cf v) i+cf (iS r v (cf r (v.length-1+k)) lead k (v.length-1+k)) i:=by
 have c:0<v.length:=by
  cases v with
  |nil=>exact absurd rfl hv
  |cons a l=>simp
 have h:=JV m (cf w) (cf q) (cf v) (cf r) v.length k c (fun i b=>bZ b) (fun i b=>bZ (by omega)) d i;rw[O3,e,h];congr 1;exact fR (fun j=>(O2 q _ _ f j).symm) (fun _=>rfl) i
theorem O5 {m:Int} {w q v r:List Int} {n:Nat} (a:cf r n=0) (c:r.length=n+1) (b:∀i,m*cf w i=conv (cf q) (cf v) i+cf r i) (i:Nat):
  m*cf w i=conv (cf q) (cf v) i+cf (r.take n) i:=by
 rw[b i];congr 1;unfold cf at *;rw[dF,dF,List.getElem?_take];by_cases h:i<n
 ·rw[if_pos h]
 ·rw[if_neg h];by_cases e:i=n
  ·subst e;rw[dF] at a;exact a
  ·rw[eF (by omega)]
def IntBx (w:World) (b:Nat) (n:Int):Prop:=∃s A k c,Bx w b [.bool s,.slice A k c] 59∧IntAt w (.agg #[.bool s,.slice A k c]) n
def kO (g:Nat) (w W:World):Prop:=Keep w W∧(∀b,b≠g->W.heap[b]? =w.heap[b]?)∧W.heap.size=w.heap.size∧W.os=w.os∧W.tape=w.tape∧W.output=w.output
theorem IntBx.below {w W:World} {b:Nat} {n:Int} (h:IntBx w b n) (a:Below w.heap.size w W):IntBx W b n:=by
 obtain⟨s,A,k,c,d,e⟩:=h;exact⟨s,A,k,c,d.below a,e.below a⟩
theorem IntBx.step {w W:World} {b g:Nat} {n:Int} (h:IntBx w b n) (a:kO g w W) (f:b≠g):IntBx W b n:=by
 obtain⟨s,A,k,c,d,e⟩:=h;exact⟨s,A,k,c,(a.2.1 b f).trans d,e.keep a.1⟩
theorem IntBx.lt {w:World} {b:Nat} {n:Int} (h:IntBx w b n):b<w.heap.size:=by
 obtain⟨s,A,k,c,a,d⟩:=h;exact a.lt
theorem OwnW.step {w W:World} {b g:Nat} {ns:List Int} (h:OwnW w b ns) (c:kO g w W) (f:b≠g):OwnW W b ns:=by
 obtain⟨i,a,e,d⟩:=h;exact⟨i,⟨(c.2.1 b f).trans a.1,a.2⟩,e,d.keep c.1⟩
theorem fS {B g:Nat} {a w W:World} (h:Below B a w) (b:kO g w W) (d:B<=g):Below B a W:=
 ⟨b.2.2.2.1.trans h.os,b.2.2.2.2.1.trans h.tape,b.2.2.2.2.2.trans h.output,by rw[b.2.2.1];exact h.size,fun k c=>(b.2.1 k (by omega)).trans (h.block k c)⟩
theorem OwnW.stored {w:World} {b:Nat} {ns:List Int} (h:OwnW w b ns) {i:Nat} (hi:i<ns.length) {s:Bool} {A:Option Addr} {l c:Nat} {n:Int} (hn:IntAt w (.agg #[.bool s,.slice A l c]) n):
  let W:=(w.setCell ⟨b,i*2,none⟩ (.bool s)).setCell ⟨b,i*2+1,none⟩ (.slice A l c)
  OwnW W b (ns.set i n)∧kO b w W:=by
 obtain⟨d,e,f⟩:=h.put hi hn;refine⟨d,e,fun g a=> ?_,f,rfl,rfl,rfl⟩;rw[Below.heap_setCell _ ⟨b,i*2+1,none⟩ _ g a,Below.heap_setCell _ ⟨b,i*2,none⟩ _ g a]
theorem IntBx.stored {w:World} {b:Nat} {m n:Int} (h:IntBx w b m) {s:Bool} {A:Option Addr} {l c:Nat} (hn:IntAt w (.agg #[.bool s,.slice A l c]) n):
  let W:=(w.setCell ⟨b,0,none⟩ (.bool s)).setCell ⟨b,1,none⟩ (.slice A l c)
  IntBx W b n∧kO b w W:=by
 obtain⟨v,i,t,j,e,o⟩:=h;obtain⟨-, -,f, -,d⟩:=gX (w:=w) (B:=0) (s:=s) (u:= .slice A l c) ⟨rfl,rfl,rfl,aE,fun k p=>rfl⟩ (Nat.zero_le _) e;refine⟨⟨s,A,l,c,f,hn.keep d⟩,d,fun g a=> ?_,by simp,rfl,rfl,rfl⟩;rw[Below.heap_setCell _ ⟨b,1,none⟩ _ g a,Below.heap_setCell _ ⟨b,0,none⟩ _ g a]
theorem WholeAt.step {w W:World} {g l c:Nat} {A:Option Addr} {ns:List Int} (h:WholeAt w (.slice A l c) ns) (f:kO g w W) (o:∀b,A=some ⟨b,0,none⟩->b≠g):WholeAt W (.slice A l c) ns:=by
 obtain⟨i,j,e,k,h⟩:=h;refine⟨i,j,e,k,?_⟩;rcases h with h|⟨b,p,a,d,n⟩
 ·exact .inl h
 ·simp only[Value.slice.injEq] at e;exact .inr ⟨b,p,a,⟨(f.2.1 b (o b (e.1.trans a))).trans d.1,d.2⟩,n.keep f.1⟩
structure PQ (w wr:World) (b7 b8 b9 g:Nat) (m lead:Int) (q r:List Int):Prop where
 R:Bx wr w.heap.size [.bool false,.slice none 0 0] 59
 M:IntBx wr b7 m
 L:IntBx wr b8 lead
 Q:OwnW wr b9 q
 S:OwnW wr g r
 hb:Below w.heap.size w wr
 o1:w.heap.size<b7
 o2:b7<b8
 o3:b8<b9
 o4:b9<g
section
variable {w wr W:World} {b7 b8 b9 g:Nat} {m lead:Int} {q r:List Int}
theorem PQ.below (h:PQ w wr b7 b8 b9 g m lead q r) (a:Below wr.heap.size wr W):PQ w W b7 b8 b9 g m lead q r:=
 ⟨h.R.below a,h.M.below a,h.L.below a,h.Q.below a,h.S.below a,h.hb.trans (a.mono h.hb.size),h.o1,h.o2,h.o3,h.o4⟩
theorem PQ.alloc (h:PQ w wr b7 b8 b9 g m lead q r) (o:Obj):PQ w (wr.alloc o) b7 b8 b9 g m lead q r:=h.below ((aH _ _).alloc aE o)
theorem PQ.drew (h:PQ w wr b7 b8 b9 g m lead q r):PQ w wr.drew b7 b8 b9 g m lead q r:=h.below (aH _ _).drew
theorem PQ.cut (h:PQ w wr b7 b8 b9 g m lead q r) (n:Nat):PQ w wr b7 b8 b9 g m lead q (r.take n):=⟨h.R,h.M,h.L,h.Q,h.S.take n,h.hb,h.o1,h.o2,h.o3,h.o4⟩
theorem PQ.setQ (h:PQ w wr b7 b8 b9 g m lead q r) {i:Nat} (hi:i<q.length) {s:Bool} {A:Option Addr} {l c:Nat} {n:Int} (hn:IntAt wr (.agg #[.bool s,.slice A l c]) n):
  PQ w ((wr.setCell ⟨b9,i*2,none⟩ (.bool s)).setCell ⟨b9,i*2+1,none⟩ (.slice A l c)) b7 b8 b9 g m lead (q.set i n) r:=by
 obtain⟨b,a⟩:=h.Q.stored hi hn;have:=h.o1;have:=h.o2;have:=h.o3;have:=h.o4
 exact⟨(a.2.1 _ (by omega)).trans h.R,h.M.step a (by omega),h.L.step a (by omega),b,h.S.step a (by omega),fS h.hb a (by omega),h.o1,h.o2,h.o3,h.o4⟩
theorem PQ.setS (h:PQ w wr b7 b8 b9 g m lead q r) {i:Nat} (hi:i<r.length) {s:Bool} {A:Option Addr} {l c:Nat} {n:Int} (hn:IntAt wr (.agg #[.bool s,.slice A l c]) n):
  PQ w ((wr.setCell ⟨g,i*2,none⟩ (.bool s)).setCell ⟨g,i*2+1,none⟩ (.slice A l c)) b7 b8 b9 g m lead q (r.set i n):=by
 obtain⟨b,a⟩:=h.S.stored hi hn;have:=h.o1;have:=h.o2;have:=h.o3;have:=h.o4
 exact⟨(a.2.1 _ (by omega)).trans h.R,h.M.step a (by omega),h.L.step a (by omega),h.Q.step a (by omega),b,fS h.hb a (by omega),h.o1,h.o2,h.o3,h.o4⟩
theorem PQ.setM (h:PQ w wr b7 b8 b9 g m lead q r) {s:Bool} {A:Option Addr} {l c:Nat} {n:Int} (hn:IntAt wr (.agg #[.bool s,.slice A l c]) n):
  PQ w ((wr.setCell ⟨b7,0,none⟩ (.bool s)).setCell ⟨b7,1,none⟩ (.slice A l c)) b7 b8 b9 g n lead q r:=by
 obtain⟨b,a⟩:=h.M.stored hn;have:=h.o1;have:=h.o2;have:=h.o3;have:=h.o4
 exact⟨(a.2.1 _ (by omega)).trans h.R,b,h.L.step a (by omega),h.Q.step a (by omega),h.S.step a (by omega),fS h.hb a (by omega),h.o1,h.o2,h.o3,h.o4⟩
end
theorem tK {α:Type} {p:α->Bool} {l:List α} {k:Nat} (h:∀c∈l.take k,p c=true) (d:l.length<=k∨∃c,l[k]? =some c∧p c=false):l.takeWhile p=l.take k∧l.dropWhile p=l.drop k:=by
 induction l generalizing k with
 |nil=>simp
 |cons a l j=>
  cases k with
  |zero=>
   rcases d with d|⟨c,b,e⟩
   ·simp at d
   ·simp at b;subst b;simp[e]
  |succ k=>
   have i:p a=true:=h a (by simp)
   obtain⟨f,g⟩:=j (k:=k) (fun c b=>h c (by simp[b])) (by
    rcases d with d|⟨c,b,e⟩
    ·left;simpa using d
    ·right;exact⟨c,by simpa using b,e⟩)
   simp[i,f,g]
theorem p7 {t:ByteArray} {l:List UInt8} (h:t.data.toList=l):t=⟨l.toArray⟩:=by
 subst h;cases t;rfl
theorem P3 (s:ByteArray) (w:World) (B:s.size<=1099511627776):
  Calls Tryz.prog 188 #[.string s] w fun e w'=>∃t u m,e= .returned (.tuple #[.string t,.string u])∧t.data.toList=s.data.toList.takeWhile bC∧u.data.toList=s.data.toList.dropWhile bC∧w'=w.drewN m:=by
 have C:s.data.toList.length=s.size:=by simp
 go_enter Tryz.func188,Tryz.ntmps188;go_wp2_with fail;go_loop [4] (fun i=>∃k:Nat,k<=s.size∧i= .int .i64 k∧∀c∈s.data.toList.take k,bC c=true) (fun i=>s.size-(intOf i).toNat)
 case atStart=>exact⟨0,by omega,rfl,by simp⟩
 case round=>
  obtain⟨k,z,rfl,f⟩:=hrel;have A:(k:Int)<=(s.size:Int):=by omega
  have y:(0:Int)<=(k:Int):=by omega
  by_cases x:k<s.size
  ·have D:(k:Int)<(s.size:Int):=by omega
   have o:s.data.toList[k]? =some s[k]:=by rw[aL (by simpa using x)];rfl
   have g:=aB o;clear o;by_cases b:bC s[k]=true
   ·obtain⟨j,r⟩:48<=s[k].toNat∧s[k].toNat<=57:=by simpa [bC] using b
    have n:(48:Int)<=(s[k].toNat:Int):=by omega
    have v:(s[k].toNat:Int)<=57:=by omega
    have q:=aB b;clear b;go_wp2_with fail;go_round
    case rel=>
     refine⟨k+1,by omega,by simp,fun c a=> ?_⟩;rw[List.take_add_one,g.out] at a;rcases List.mem_append.1 a with a|a
     ·exact f c a
     ·simp at a;subst a;exact q.out
    case measure=>simp[intOf];omega
   ·have d:=tK (p:=bC) (l:=s.data.toList) f (.inr ⟨_,g.out,by simpa using b⟩);by_cases j:48<=s[k].toNat
    ·have r:¬s[k].toNat<=57:=fun h=>b (by simp[bC,j,h]);have n:(48:Int)<=(s[k].toNat:Int):=by omega
     have v:¬(s[k].toNat:Int)<=57:=by omega
     clear b;go_wp2_with fail;go_quiet (fail);go_wp2;go_ret2;exact⟨_,_,_,rfl,by rw[d.1,jR,List.drop_zero],by rw[d.2,jR,cA (by omega)],rfl⟩
    ·have n:¬(48:Int)<=(s[k].toNat:Int):=by omega
     clear b;go_wp2_with fail;go_quiet (fail);go_wp2;go_ret2;exact⟨_,_,_,rfl,by rw[d.1,jR,List.drop_zero],by rw[d.2,jR,cA (by omega)],rfl⟩
  ·obtain rfl:k=s.size:=by omega
   have d:=tK (p:=bC) (l:=s.data.toList) f (.inl (by omega));go_wp2_with fail;go_quiet (fail);go_wp2;go_ret2;exact⟨_,_,_,rfl,by rw[d.1,cA (by omega)],by rw[d.2,List.drop_of_length_le (by omega)];rfl,rfl⟩
theorem ED (l:List UInt8) (w:World) (d:l.length<=1099511627776):
  Calls Tryz.prog 188 #[.string ⟨l.toArray⟩] w fun e w'=>e= .returned (.tuple #[.string ⟨(l.takeWhile bC).toArray⟩,.string ⟨(l.dropWhile bC).toArray⟩])∧∃m,w'=w.drewN m:=by
 refine(P3 ⟨l.toArray⟩ w (by simpa [ByteArray.size] using d)).mono ?_;rintro e w' ⟨t,u,m,rfl,a,b,c⟩;rw[p7 a,p7 b];exact⟨rfl,m,c⟩
theorem EC {w w':World} (h:∃m,w'=w.drewN m):Below w.heap.size w w':=by
 obtain⟨m,rfl⟩:=h;exact dH (aH _ _) m
theorem OY (l:List UInt8):Lib.hasPrefix l [45]=(l.head?==some 45)∧Lib.trimPrefix l [45]=if (l.head?==some 45)=true then l.tail else l:=by
 have h:Lib.hasPrefix l [45]=(l.head?==some 45):=by
  unfold Lib.hasPrefix;cases l with
  |nil=>rfl
  |cons a m=>
   show([45]:List UInt8).isPrefixOf (a :: m)=(some a==some 45)
   rw[List.isPrefixOf];simp only[List.isPrefixOf,Bool.and_true];by_cases e:a=45
   ·subst e;rfl
   ·have b:((45:UInt8)==a)=false:=by simpa using fun h=>e h.symm
    have c:(some a==some (45:UInt8))=false:=by simpa using e
    rw[b,c]
 refine⟨h,?_⟩;unfold Lib.trimPrefix;rw[h];simp
def mB (a:Bool) (n t:List UInt8):Option (Bool×List UInt8×List UInt8):=
 if n=[48] then (if a=false∧t=[] then some (a,n,[]) else none)
 else if n=[]∨n.head?=some 48 then none
 else if t=[] then some (a,n,[])
 else if t.head?≠some 47 then none
 else if t.tail.dropWhile bC=[]∧t.tail.takeWhile bC≠[]∧(t.tail.takeWhile bC).head?≠some 48∧t.tail.takeWhile bC≠[49] then some (a,n,t.tail.takeWhile bC) else none
theorem OZ (l:List UInt8):fP l=mB (l.head?==some 45) ((if (l.head?==some 45)=true then l.tail else l).takeWhile bC) ((if (l.head?==some 45)=true then l.tail else l).dropWhile bC):=rfl
theorem P0 (l:List UInt8) (w:World) (hl:l.length<=1099511627776):
  Calls Tryz.prog 152 #[.string ⟨l.toArray⟩] w fun e w'=>∃ac n d S,e= .returned (.tuple #[.agg #[.bool ac,.string ⟨n.toArray⟩,.string ⟨d.toArray⟩],.bool S])∧(S=true->fP l=some (ac,n,d))∧(S=false->fP l=none)∧Below w.heap.size w w':=by
 have Q:=fun W=>Tryz.strings_CutPrefix ⟨l.toArray⟩ ⟨#[45]⟩ W;obtain⟨p1,p2⟩:=OY l;have j:=aB (OZ l);have aj:(if (l.head?==some 45)=true then l.tail else l).length<=l.length:=by split<;>simp
 simp only[p1,p2] at Q;generalize (l.head?==some 45)=q at *;generalize (if q=true then l.tail else l)=r at *;have X:=fun W=>ED r W (by omega);obtain⟨W,T,c,R,F⟩:=dI w [.bool false,.string ⟨#[]⟩,.string ⟨#[]⟩] 191 [.bool false,.string ⟨#[]⟩,.string ⟨#[]⟩] 191;have s:=aa R.g3 F.g3;go_enter Tryz.func152,Tryz.ntmps152;go_wp2_with fail;(try rw[T]);clear T;refine(Q _).mono ?_;rintro e1 w1 ⟨rfl,rfl⟩;clear Q p1 p2;replace s:=aa R.g3 F.g3;go_wp2_with fail;obtain⟨w2,U,F,c,k,f⟩:=F.put1 c (by omega) 0 (.bool q) rfl;replace R:=f R (by omega);rw[U];clear U;replace s:=aa R.g3 F.g3;refine(X _).mono ?_;rintro e3 w3 ⟨rfl,Z⟩;have N:=EC Z;clear Z X;replace R:=R.below N;replace F:=F.below N;replace s:=aa R.g3 F.g3;replace c:=aC c N;have ag:(r.dropWhile bC).length<=r.length:=by
  have:=congrArg List.length (List.takeWhile_append_dropWhile (p:=bC) (l:=r));rw[aY] at this;omega
 generalize r.takeWhile bC=n at *;generalize r.dropWhile bC=t at *;by_cases y:n=[48]
 ·have q1:(n==[48])=true:=by rw[y];rfl
  cases q with
  |true=>
   have i:fP l=none:=by rw[j.out,mB,if_pos y,if_neg (by simp)]
   have o:=aB i;clear j i y;go_wp2_with fail;obtain⟨I,x,F,c,k,f⟩:=F.put1 c (by omega) 1 (.string ⟨n.toArray⟩) rfl;replace R:=f R (by omega);obtain⟨C,g,R,c,k,f⟩:=R.put3 c (by omega) (.bool true) (.string ⟨n.toArray⟩) (.string ⟨#[]⟩) rfl rfl;replace F:=f F (by omega);rw[x,g];clear x g;replace s:=aa R.k3 F.k3;exact aK (v:= .tuple #[.agg #[.bool true,.string ⟨n.toArray⟩,.string ⟨#[]⟩],.bool false]) (by simp[results,Tryz.results152,go_sem,R.k3]) rfl ⟨_,_,_,_,rfl,(fun h=>by cases h),(fun _=>o.out),c⟩
  |false=>
   by_cases z:t=[]
   ·have i:fP l=some (false,n,[]):=by rw[j.out,mB,if_pos y,if_pos ⟨rfl,z⟩]
    have o:=aB i;have q2:(t==[])=true:=by rw[z];rfl
    clear j i y z;go_wp2_with fail;obtain⟨I,x,F,c,k,f⟩:=F.put1 c (by omega) 1 (.string ⟨n.toArray⟩) rfl;replace R:=f R (by omega);obtain⟨C,g,R,c,k,f⟩:=R.put3 c (by omega) (.bool false) (.string ⟨n.toArray⟩) (.string ⟨#[]⟩) rfl rfl;replace F:=f F (by omega);rw[x,g];clear x g;replace s:=aa R.k3 F.k3;exact aK (v:= .tuple #[.agg #[.bool false,.string ⟨n.toArray⟩,.string ⟨#[]⟩],.bool true]) (by simp[results,Tryz.results152,go_sem,R.k3]) rfl ⟨_,_,_,_,rfl,(fun _=>o.out),(fun h=>by cases h),c⟩
   ·have i:fP l=none:=by rw[j.out,mB,if_pos y,if_neg (fun h=>z h.2)]
    have o:=aB i;have q2:(t==[])=false:=by simpa using z
    clear j i y z;go_wp2_with fail;obtain⟨I,x,F,c,k,f⟩:=F.put1 c (by omega) 1 (.string ⟨n.toArray⟩) rfl;replace R:=f R (by omega);obtain⟨C,g,R,c,k,f⟩:=R.put3 c (by omega) (.bool false) (.string ⟨n.toArray⟩) (.string ⟨#[]⟩) rfl rfl;replace F:=f F (by omega);rw[x,g];clear x g;replace s:=aa R.k3 F.k3;exact aK (v:= .tuple #[.agg #[.bool false,.string ⟨n.toArray⟩,.string ⟨#[]⟩],.bool false]) (by simp[results,Tryz.results152,go_sem,R.k3]) rfl ⟨_,_,_,_,rfl,(fun h=>by cases h),(fun _=>o.out),c⟩
 ·have q1:(n==[48])=false:=by simpa using y
  cases n with
  |nil=>
   have i:fP l=none:=by rw[j.out,mB,if_neg y,if_pos (.inl rfl)]
   have o:=aB i;clear j i y;go_wp2_with fail;obtain⟨I,x,F,c,k,f⟩:=F.put1 c (by omega) 1 (.string ⟨#[]⟩) rfl;replace R:=f R (by omega);obtain⟨C,g,R,c,k,f⟩:=R.put3 c (by omega) (.bool q) (.string ⟨#[]⟩) (.string ⟨#[]⟩) rfl rfl;replace F:=f F (by omega);rw[x,g];clear x g;replace s:=aa R.k3 F.k3;exact aK (v:= .tuple #[.agg #[.bool q,.string ⟨#[]⟩,.string ⟨#[]⟩],.bool false]) (by simp[results,Tryz.results152,go_sem,R.k3]) rfl ⟨_,_,_,_,rfl,(fun h=>by cases h),(fun _=>o.out),c⟩
  |cons a m=>
   have ah:∀h,({ data:=(a :: m).toArray }:ByteArray)[0]'h=a:=fun _=>rfl;by_cases K:a=48
   ·have i:fP l=none:=by rw[j.out,mB,if_neg y,if_pos (.inr (by rw[K];rfl))]
    have o:=aB i;clear j i y;subst K;go_wp2_with fail;obtain⟨I,x,F,c,k,f⟩:=F.put1 c (by omega) 1 (.string ⟨(48 :: m).toArray⟩) rfl;replace R:=f R (by omega);obtain⟨C,g,R,c,k,f⟩:=R.put3 c (by omega) (.bool q) (.string ⟨(48 :: m).toArray⟩) (.string ⟨#[]⟩) rfl rfl;replace F:=f F (by omega);rw[x,g];clear x g;replace s:=aa R.k3 F.k3;exact aK (v:= .tuple #[.agg #[.bool q,.string ⟨(48 :: m).toArray⟩,.string ⟨#[]⟩],.bool false]) (by simp[results,Tryz.results152,go_sem,R.k3]) rfl ⟨_,_,_,_,rfl,(fun h=>by cases h),(fun _=>o.out),c⟩
   ·have qa:((a.toNat:Int)==48)=false:=by
     have:a.toNat≠48:=fun e=>K (UInt8.toNat_inj.1 e);simp;omega
    have J:¬((a :: m)=[]∨(a :: m).head?=some 48):=by simp[K]
    by_cases z:t=[]
    ·have i:fP l=some (q,a :: m,[]):=by rw[j.out,mB,if_neg y,if_neg J,if_pos z]
     have o:=aB i;have q2:(t==[])=true:=by rw[z];rfl
     clear j i y z;go_wp2_with fail;obtain⟨I,x,F,c,k,f⟩:=F.put1 c (by omega) 1 (.string ⟨(a :: m).toArray⟩) rfl;replace R:=f R (by omega);obtain⟨C,g,R,c,k,f⟩:=R.put3 c (by omega) (.bool q) (.string ⟨(a :: m).toArray⟩) (.string ⟨#[]⟩) rfl rfl;replace F:=f F (by omega);rw[x,g];clear x g;replace s:=aa R.k3 F.k3;exact aK (v:= .tuple #[.agg #[.bool q,.string ⟨(a :: m).toArray⟩,.string ⟨#[]⟩],.bool true]) (by simp[results,Tryz.results152,go_sem,R.k3]) rfl ⟨_,_,_,_,rfl,(fun _=>o.out),(fun h=>by cases h),c⟩
    ·obtain⟨b,D,rfl⟩:∃b D,t=b :: D:=by
      cases t with
      |nil=>exact absurd rfl z
      |cons b D=>exact⟨b,D,rfl⟩
     have ae:∀h,({ data:=(b :: D).toArray }:ByteArray)[0]'h=b:=fun _=>rfl;by_cases O:b=47
     ·subst O;rw[mB,if_neg y,if_neg J,if_neg z,if_neg (by simp),List.tail_cons] at j;clear y J z;have ad:({ data:=(47 :: D).toArray }:ByteArray).extract 1 (D.length+1)=⟨D.toArray⟩:=p7 (by rw[jR];simp);have Y:=fun W=>ED D W (by simp at ag;omega);generalize D.takeWhile bC=d at *;generalize D.dropWhile bC=u at *;go_wp2_with fail;obtain⟨w4,V,F,c,k,f⟩:=F.put1 c (by omega) 1 (.string ⟨(a :: m).toArray⟩) rfl;replace R:=f R (by omega);rw[V];clear V;replace s:=aa R.g3 F.g3;refine(Y _).mono ?_;rintro e5 w5 ⟨rfl,ab⟩;have P:=EC ab;clear ab Y ad ae;replace R:=R.below P;replace F:=F.below P;replace s:=aa R.g3 F.g3;replace c:=aC c P;by_cases E:u=[]
      ·have q3:(u==[])=true:=by rw[E];rfl
       cases d with
       |nil=>
        have i:fP l=none:=by rw[j.out,if_neg (by simp)]
        have o:=aB i;clear j i E;go_wp2_with fail;obtain⟨M,B,F,c,k,f⟩:=F.put1 c (by omega) 2 (.string ⟨#[]⟩) rfl;replace R:=f R (by omega);rw[B];clear B;replace s:=aa R.g3 F.g3;go_region;all_goals (go_wp2_with fail)
        obtain⟨C,g,R,c,k,f⟩:=R.put3 c (by omega) (.bool q) (.string ⟨(a :: m).toArray⟩) (.string ⟨#[]⟩) rfl rfl;replace F:=f F (by omega);rw[g];clear g;replace s:=aa R.k3 F.k3;exact aK (v:= .tuple #[.agg #[.bool q,.string ⟨(a :: m).toArray⟩,.string ⟨#[]⟩],.bool false]) (by simp[results,Tryz.results152,go_sem,R.k3]) rfl ⟨_,_,_,_,rfl,(fun h=>by cases h),(fun _=>o.out),c.drew⟩
       |cons e A=>
        have af:∀h,({ data:=(e :: A).toArray }:ByteArray)[0]'h=e:=fun _=>rfl;by_cases H:e=48
        ·have i:fP l=none:=by rw[j.out,if_neg (by rw[H];simp)]
         have o:=aB i;have qe:((e.toNat:Int) != 48)=false:=by rw[H];rfl
         clear j i E H;go_wp2_with fail;obtain⟨M,B,F,c,k,f⟩:=F.put1 c (by omega) 2 (.string ⟨(e :: A).toArray⟩) rfl;replace R:=f R (by omega);rw[B];clear B;replace s:=aa R.g3 F.g3;go_region;all_goals (go_wp2_with fail)
         obtain⟨C,g,R,c,k,f⟩:=R.put3 c (by omega) (.bool q) (.string ⟨(a :: m).toArray⟩) (.string ⟨(e :: A).toArray⟩) rfl rfl;replace F:=f F (by omega);rw[g];clear g;replace s:=aa R.k3 F.k3;exact aK (v:= .tuple #[.agg #[.bool q,.string ⟨(a :: m).toArray⟩,.string ⟨(e :: A).toArray⟩],.bool false]) (by simp[results,Tryz.results152,go_sem,R.k3]) rfl ⟨_,_,_,_,rfl,(fun h=>by cases h),(fun _=>o.out),c.drew⟩
        ·have qe:((e.toNat:Int) != 48)=true:=by
          have:e.toNat≠48:=fun h=>H (UInt8.toNat_inj.1 h);simp;omega
         by_cases G:e :: A=[49]
         ·have i:fP l=none:=by rw[j.out,if_neg (fun h=>h.2.2.2 G)]
          have o:=aB i;have q4:(e :: A != [49])=false:=by rw[G];rfl
          have L:e=49∧A=[]:=by simpa using G
          clear j i E H G;obtain⟨rfl,rfl⟩:=L;clear qe q4 af;have ai:∀h,({ data:= #[49] }:ByteArray)[0]'h=49:=fun _=>rfl;have ak:(((49:UInt8).toNat:Int) != 48)=true:=by decide
          go_wp2_with fail;obtain⟨M,B,F,c,k,f⟩:=F.put1 c (by omega) 2 (.string ⟨#[49]⟩) rfl;replace R:=f R (by omega);rw[B];clear B;replace s:=aa R.g3 F.g3;go_region;all_goals (go_wp2_with fail)
          obtain⟨C,g,R,c,k,f⟩:=R.put3 c (by omega) (.bool q) (.string ⟨(a :: m).toArray⟩) (.string ⟨#[49]⟩) rfl rfl;replace F:=f F (by omega);rw[g];clear g;replace s:=aa R.k3 F.k3;exact aK (v:= .tuple #[.agg #[.bool q,.string ⟨(a :: m).toArray⟩,.string ⟨#[49]⟩],.bool false]) (by simp[results,Tryz.results152,go_sem,R.k3]) rfl ⟨_,_,[49],_,rfl,(fun h=>by cases h),(fun _=>o.out),c.drew⟩
         ·have i:fP l=some (q,a :: m,e :: A):=by rw[j.out,if_pos ⟨E,by simp,by simpa using H,G⟩]
          have o:=aB i;have q4:(e :: A != [49])=true:=by simpa using G
          have L:e=49->¬A=[]:=by simpa using G
          have q6:¬e=49∨¬A=[]:=by
           by_cases h:e=49
           ·exact .inr (L h)
           ·exact .inl h
          clear j i E H G L;go_wp2_with fail;obtain⟨M,B,F,c,k,f⟩:=F.put1 c (by omega) 2 (.string ⟨(e :: A).toArray⟩) rfl;replace R:=f R (by omega);rw[B];clear B;replace s:=aa R.g3 F.g3;go_region;all_goals (go_wp2_with fail)
          obtain⟨C,g,R,c,k,f⟩:=R.put3 c (by omega) (.bool q) (.string ⟨(a :: m).toArray⟩) (.string ⟨(e :: A).toArray⟩) rfl rfl;replace F:=f F (by omega);rw[g];clear g;replace s:=aa R.k3 F.k3;exact aK (v:= .tuple #[.agg #[.bool q,.string ⟨(a :: m).toArray⟩,.string ⟨(e :: A).toArray⟩],.bool true]) (by simp[results,Tryz.results152,go_sem,R.k3,q6]) rfl ⟨_,_,_,_,rfl,(fun _=>o.out),(fun h=>by cases h),c.drew⟩
      ·have q3:(u==[])=false:=by simpa using E
       have i:fP l=none:=by rw[j.out,if_neg (fun h=>E h.1)]
       have o:=aB i;clear j i E;go_wp2_with fail;obtain⟨M,B,F,c,k,f⟩:=F.put1 c (by omega) 2 (.string ⟨d.toArray⟩) rfl;replace R:=f R (by omega);rw[B];clear B;replace s:=aa R.g3 F.g3;go_region;all_goals (go_wp2_with fail)
       obtain⟨C,g,R,c,k,f⟩:=R.put3 c (by omega) (.bool q) (.string ⟨(a :: m).toArray⟩) (.string ⟨d.toArray⟩) rfl rfl;replace F:=f F (by omega);rw[g];clear g;replace s:=aa R.k3 F.k3;exact aK (v:= .tuple #[.agg #[.bool q,.string ⟨(a :: m).toArray⟩,.string ⟨d.toArray⟩],.bool false]) (by simp[results,Tryz.results152,go_sem,R.k3]) rfl ⟨_,_,_,_,rfl,(fun h=>by cases h),(fun _=>o.out),c.drew⟩
     ·have i:fP l=none:=by rw[j.out,mB,if_neg y,if_neg J,if_neg z,if_pos (by simpa using O)]
      have o:=aB i;have qb:((b.toNat:Int) != 47)=true:=by
       have:b.toNat≠47:=fun e=>O (UInt8.toNat_inj.1 e);simp;omega
      clear j i y z J;go_wp2_with fail;obtain⟨I,x,F,c,k,f⟩:=F.put1 c (by omega) 1 (.string ⟨(a :: m).toArray⟩) rfl;replace R:=f R (by omega);obtain⟨C,g,R,c,k,f⟩:=R.put3 c (by omega) (.bool q) (.string ⟨(a :: m).toArray⟩) (.string ⟨#[]⟩) rfl rfl;replace F:=f F (by omega);rw[x,g];clear x g;replace s:=aa R.k3 F.k3;exact aK (v:= .tuple #[.agg #[.bool q,.string ⟨(a :: m).toArray⟩,.string ⟨#[]⟩],.bool false]) (by simp[results,Tryz.results152,go_sem,R.k3]) rfl ⟨_,_,_,_,rfl,(fun h=>by cases h),(fun _=>o.out),c⟩
def OU (w:World) (o:Option Rat) (e:Ending) (w':World):Prop:=∃v,e= .returned (.tuple #[v,.bool o.isSome])∧RatAt w' v (o.getD 0)∧Below w.heap.size w w'
theorem OV {l:List UInt8} (h:fP l=none):d7 l=none:=by unfold d7;rw[h]
theorem OW {l n:List UInt8} {a:Bool} (h:fP l=some (a,n,[])):d7 l=some ((dO a (aM n):Int):Rat):=by unfold d7;rw[h];simp
theorem E9 {l n d:List UInt8} {a:Bool} (h:fP l=some (a,n,d)) (b:d≠[]):d7 l=if Nat.gcd (aM n) (aM d)=1 then some (mkRat (dO a (aM n)) (aM d)) else none:=by
 unfold d7;rw[h];simp[b]
theorem EA {x:Int} {n d:Nat} (h:x.natAbs=n) (b:Nat.gcd n d=1) (a:d≠0) (f:d≠1):(mkRat x d).num=x∧bI (mkRat x d)=d:=by
 have c:(mkRat x d).num=x:=by rw[Rat.num_mkRat,if_neg a,h,Nat.gcd_comm,b];simp
 have e:(mkRat x d).den=d:=by rw[Rat.den_mkRat,if_neg a,h,Nat.gcd_comm,b];simp
 exact⟨c,by unfold bI;rw[e,if_neg f]⟩
theorem OX {l n d:List UInt8} {a:Bool} (h:l=gU a n d):n.length<=l.length∧d.length<=l.length:=by
 subst h;unfold gU;by_cases e:d=[]<;>simp[e]<;>omega
theorem EB (l:List UInt8) (w:World) (hG:Glob w) (hl:l.length<=1073741824):
  Calls Tryz.prog 78 #[.string ⟨l.toArray⟩] w (OU w (d7 l)):=by
 have aq:=fun W=>P0 l W (by omega);obtain⟨W,eW,a,R⟩:=bB w [.bool false,.slice none 0 0,.bool false,.slice none 0 0] 66;have k:=R.g4;go_enter Tryz.func78,Tryz.ntmps78;go_wp2_with fail;(try rw[eW]);clear eW;refine(aq _).mono ?_;rintro e1 s ⟨ab,n,d,ok,rfl,ak,aj,ap⟩;clear aq;replace R:=R.below ap;replace k:=R.g4;replace a:=aC a ap;have ar:∀b:Obj,(s.alloc b).cell? ⟨w.heap.size,0,none⟩=some (.bool false):=fun b=>(R.alloc b).cell 0 rfl;have ax:∀b:Obj,(s.alloc b).frozen? ⟨w.heap.size,0,none⟩=false:=fun b=>(R.alloc b).free 0;have au:∀b:Obj,(s.alloc b).cell? ⟨w.heap.size,1,none⟩=some (.slice none 0 0):=fun b=>(R.alloc b).cell 1 rfl;have ay:∀b:Obj,(s.alloc b).frozen? ⟨w.heap.size,1,none⟩=false:=fun b=>(R.alloc b).free 1;have av:∀b:Obj,(s.alloc b).cell? ⟨w.heap.size,2,none⟩=some (.bool false):=fun b=>(R.alloc b).cell 2 rfl;have az:∀b:Obj,(s.alloc b).frozen? ⟨w.heap.size,2,none⟩=false:=fun b=>(R.alloc b).free 2;have aw:∀b:Obj,(s.alloc b).cell? ⟨w.heap.size,3,none⟩=some (.slice none 0 0):=fun b=>(R.alloc b).cell 3 rfl;have a0:∀b:Obj,(s.alloc b).frozen? ⟨w.heap.size,3,none⟩=false:=fun b=>(R.alloc b).free 3;cases ok with
 |false=>
  have o:=aB (OV (aj rfl));clear ak aj;go_wp2_with fail;have z:=R.lt;have A:=a.size;obtain⟨U0,r,m,F⟩:=bB s [.bool ab,.string ⟨n.toArray⟩,.string ⟨d.toArray⟩] 191;replace R:=R.below m;replace c:=Keep.below m;replace a:=aC a m;obtain⟨W6,p,R,a,c,g⟩:=R.put4 a (by omega) (.bool false) (.slice none 0 0) (.bool false) (.slice none 0 0) rfl rfl;replace F:=g F (by omega);rw[r,p];clear r p;replace k:=aa R.k4 F.k3;exact aK (v:= .tuple #[.agg #[.bool false,.slice none 0 0,.bool false,.slice none 0 0],.bool false]) (by simp[results,Tryz.results78,go_sem,R.k4]) rfl ⟨_,by rw[o.out];rfl,by rw[o.out];exact RatAt.of (IntAt.zero _) (IntAt.zero _) rfl rfl,a⟩
 |true=>
  have hs:=ak rfl;obtain⟨hp,hj⟩:=DO hs;obtain⟨a9,a8⟩:=OX hj;have bb:=m5 hp.n_digs;have ba:=m5 hp.d_digs;have ac:=fun W=>BL ⟨n.toArray⟩ W hp.n_digs (by simp[ByteArray.size];omega);have V:=fun W=>BL ⟨d.toArray⟩ W hp.d_digs (by simp[ByteArray.size];omega);simp only[] at ac V;have N:=aB hs;have t:=aB hp;clear ak aj hs hp hj;go_wp2_with fail;have z:=R.lt;have A:=a.size;obtain⟨w2,ao,m,F⟩:=bB s [.bool ab,.string ⟨n.toArray⟩,.string ⟨d.toArray⟩] 191;replace R:=R.below m;replace c:=Keep.below m;replace a:=aC a m;rw[ao];clear ao;replace k:=aa R.g4 F.k3;refine(ac _).mono ?_;rintro e3 q ⟨v3,rfl,f,ag⟩;obtain⟨s3,L,Y,P,rfl⟩:=f.form;replace R:=R.below ag;replace F:=F.below ag;replace k:=aa R.g4 F.k3;replace a:=aC a ag;have ar:∀b:Obj,(q.alloc b).cell? ⟨w.heap.size,0,none⟩=some (.bool false):=fun b=>(R.alloc b).cell 0 rfl;have ax:∀b:Obj,(q.alloc b).frozen? ⟨w.heap.size,0,none⟩=false:=fun b=>(R.alloc b).free 0;have au:∀b:Obj,(q.alloc b).cell? ⟨w.heap.size,1,none⟩=some (.slice none 0 0):=fun b=>(R.alloc b).cell 1 rfl;have ay:∀b:Obj,(q.alloc b).frozen? ⟨w.heap.size,1,none⟩=false:=fun b=>(R.alloc b).free 1;have av:∀b:Obj,(q.alloc b).cell? ⟨w.heap.size,2,none⟩=some (.bool false):=fun b=>(R.alloc b).cell 2 rfl;have az:∀b:Obj,(q.alloc b).frozen? ⟨w.heap.size,2,none⟩=false:=fun b=>(R.alloc b).free 2;have aw:∀b:Obj,(q.alloc b).cell? ⟨w.heap.size,3,none⟩=some (.slice none 0 0):=fun b=>(R.alloc b).cell 3 rfl;have a0:∀b:Obj,(q.alloc b).frozen? ⟨w.heap.size,3,none⟩=false:=fun b=>(R.alloc b).free 3;have a2:∀b:Obj,(q.alloc b).cell? ⟨s.heap.size,0,none⟩=some (.bool ab):=fun b=>(F.alloc b).cell 0 rfl;have a5:∀b:Obj,(q.alloc b).frozen? ⟨s.heap.size,0,none⟩=false:=fun b=>(F.alloc b).free 0;have a3:∀b:Obj,(q.alloc b).cell? ⟨s.heap.size,1,none⟩=some (.string ⟨n.toArray⟩):=fun b=>(F.alloc b).cell 1 rfl;have a6:∀b:Obj,(q.alloc b).frozen? ⟨s.heap.size,1,none⟩=false:=fun b=>(F.alloc b).free 1;have a4:∀b:Obj,(q.alloc b).cell? ⟨s.heap.size,2,none⟩=some (.string ⟨d.toArray⟩):=fun b=>(F.alloc b).cell 2 rfl;have a7:∀b:Obj,(q.alloc b).frozen? ⟨s.heap.size,2,none⟩=false:=fun b=>(F.alloc b).free 2;have U:(dO ab (aM n)).natAbs=aM n:=oZ _ _;have S:∀W v,d=[]->IntAt W v (dO ab (aM n))->d7 l=some ((dO ab (aM n):Int):Rat):=fun _ _ h _=>OW (by rw[<-h];exact N.out);cases ab with
  |false=>
   have f:IntAt q _ (dO false (aM n)):=f;generalize hx:dO false (aM n)=x at *;by_cases y:d=[]
   ·have q1:(d==[])=true:=by rw[y];rfl
    have o:=aB (S _ _ y f);clear S V ac N t hx;go_wp2_with fail;have z:=R.lt;have H:=F.lt;have A:=a.size;obtain⟨U0,r,m,X⟩:=bB q [.bool s3,.slice L Y P,.bool false,.slice none 0 0] 66;replace R:=R.below m;replace F:=F.below m;replace c:=Keep.below m;replace a:=aC a m;replace f:=f.keep c;obtain⟨W6,p,R,a,c,g⟩:=R.put4 a (by omega) (.bool s3) (.slice L Y P) (.bool false) (.slice none 0 0) rfl rfl;replace F:=g F (by omega);replace X:=g X (by omega);replace f:=f.keep c;rw[r,p];clear r p;replace k:=aa R.k4 (aa F.k3 X.k4);exact aK (v:= .tuple #[.agg #[.bool s3,.slice L Y P,.bool false,.slice none 0 0],.bool true]) (by simp[results,Tryz.results78,go_sem,R.k4]) rfl ⟨_,by rw[o.out];rfl,by rw[o.out];exact RatAt.of f (IntAt.zero _) rfl rfl,a⟩
   ·have q1:(d==[])=false:=by simpa using y
    have j:=E9 N.out y;have ah:=tE t.out.d_digs y t.out.d_head;have ai:aM d≠1:=fun e=>t.out.d_one (by rw[<-mU t.out.d_digs y (.inr t.out.d_head),e,decDigits_one]);rw[hx] at j;have I:=aB j;clear S ac N t j hx;go_wp2_with fail;have z:=R.lt;have H:=F.lt;have A:=a.size;obtain⟨w4,K,m,X⟩:=bB q [.bool s3,.slice L Y P,.bool false,.slice none 0 0] 66;replace R:=R.below m;replace F:=F.below m;replace c:=Keep.below m;replace a:=aC a m;replace f:=f.keep c;rw[K];clear K;replace k:=aa R.g4 (aa F.k3 X.g4);refine(V _).mono ?_;rintro e5 w5 ⟨v5,rfl,i,C⟩;obtain⟨s5,M,Z,Q,rfl⟩:=i.form;replace R:=R.below C;replace F:=F.below C;replace X:=X.below C;replace k:=aa R.g4 (aa F.k3 X.g4);replace c:=Keep.below C;replace f:=f.keep c;replace a:=aC a C;have J:=fun W v u hG h1 h2=>pW x ((aM d:Nat):Int) v u W hG h1 h2 1073741824 (by rw[U];omega) (by rw[cI];omega) (by decide);rw[U,cI] at J;unfold dB at J;clear V;go_wp2_with fail;have z:=R.lt;have H:=F.lt;have O:=X.lt;have A:=a.size;obtain⟨U0,r,X,a,c,g⟩:=X.put1 a (by omega) 2 (.bool s5) rfl;replace R:=g R (by omega);replace F:=g F (by omega);replace f:=f.keep c;replace i:=i.keep c;obtain⟨w6,ad,X,a,c,g⟩:=X.put1 a (by omega) 3 (.slice M Z Q) rfl;replace R:=g R (by omega);replace F:=g F (by omega);replace f:=f.keep c;replace i:=i.keep c;rw[r,ad];clear r ad;replace k:=aa R.g4 (aa F.k3 X.g4);refine(J _ _ _ (hG.below a) f i).mono ?_;rintro e8 w8 ⟨v8,rfl,h8,D⟩;obtain⟨s8,A8,k8,c8,rfl⟩:=h8.form;replace R:=R.below D;replace F:=F.below D;replace X:=X.below D;replace k:=aa R.g4 (aa F.k3 X.g4);replace c:=Keep.below D;replace f:=f.keep c;replace i:=i.keep c;replace a:=aC a D;clear J;have a1:nl (Nat.gcd (aM n) (aM d))<=1073741824:=by
     refine aG (bX (Nat.le_of_dvd (by omega) (Nat.gcd_dvd_right _ _))) (by omega)
    go_wp2_with fail;refine(l7 _ _ _ h8 (by rw[cI];omega)).mono ?_;rintro e9 w9 ⟨rfl,E⟩;replace R:=R.below E;replace F:=F.below E;replace X:=X.below E;replace k:=aa R.g4 (aa F.k3 X.g4);replace c:=Keep.below E;replace f:=f.keep c;replace i:=i.keep c;replace a:=aC a E;by_cases T:Nat.gcd (aM n) (aM d)=1
    ·have G:decide (((Nat.gcd (aM n) (aM d):Nat):Int)=1)=true:=by rw[decide_eq_true_iff];omega
     obtain⟨al,am⟩:=EA U T ah ai;have j:=I.out;rw[if_pos T] at j;have o:=aB j;rw[G];clear G j I;go_wp2_with fail;have z:=R.lt;have H:=F.lt;have O:=X.lt;have A:=a.size;obtain⟨W6,p,R,a,c,g⟩:=R.put4 a (by omega) (.bool s3) (.slice L Y P) (.bool s5) (.slice M Z Q) rfl rfl;replace F:=g F (by omega);replace X:=g X (by omega);replace f:=f.keep c;replace i:=i.keep c;rw[p];clear p;replace k:=aa R.k4 (aa F.k3 X.k4);exact aK (v:= .tuple #[.agg #[.bool s3,.slice L Y P,.bool s5,.slice M Z Q],.bool true]) (by simp[results,Tryz.results78,go_sem,R.k4]) rfl ⟨_,by rw[o.out];rfl,by rw[o.out];exact RatAt.of f i al am,a⟩
    ·have G:decide (((Nat.gcd (aM n) (aM d):Nat):Int)=1)=false:=by rw[decide_eq_false_iff_not];omega
     have j:=I.out;rw[if_neg T] at j;have o:=aB j;rw[G];clear G j I;go_wp2_with fail;have z:=R.lt;have H:=F.lt;have O:=X.lt;have A:=a.size;obtain⟨W6,p,R,a,c,g⟩:=R.put4 a (by omega) (.bool false) (.slice none 0 0) (.bool false) (.slice none 0 0) rfl rfl;replace F:=g F (by omega);replace X:=g X (by omega);rw[p];clear p;replace k:=aa R.k4 (aa F.k3 X.k4);exact aK (v:= .tuple #[.agg #[.bool false,.slice none 0 0,.bool false,.slice none 0 0],.bool false]) (by simp[results,Tryz.results78,go_sem,R.k4]) rfl ⟨_,by rw[o.out];rfl,by rw[o.out];exact RatAt.of (IntAt.zero _) (IntAt.zero _) rfl rfl,a⟩
  |true=>
   have f:IntAt q _ ((aM n:Nat):Int):=f;have af:dO true (aM n)= -((aM n:Nat):Int):=rfl;rw[af] at S U;go_wp2_with fail;have z:=R.lt;have H:=F.lt;have A:=a.size;obtain⟨w4,K,m,X⟩:=bB q [.bool s3,.slice L Y P,.bool false,.slice none 0 0] 66;replace R:=R.below m;replace F:=F.below m;replace c:=Keep.below m;replace a:=aC a m;replace f:=f.keep c;rw[K];clear K;replace k:=aa R.g4 (aa F.k3 X.g4);refine(oO _ _ _ f (by simp;omega)).mono ?_;rintro e7 w7 ⟨v7,rfl,B,ae⟩;obtain⟨s7,A7,k7,c7,rfl⟩:=B.form;replace R:=R.below ae;replace F:=F.below ae;replace X:=X.below ae;replace k:=aa R.g4 (aa F.k3 X.g4);replace a:=aC a ae;generalize hx: -((aM n:Nat):Int)=x at *;by_cases y:d=[]
   ·have q1:(d==[])=true:=by rw[y];rfl
    have o:=aB (S _ _ y B);clear S V ac N t hx af;go_wp2_with fail;have z:=R.lt;have H:=F.lt;have O:=X.lt;have A:=a.size;obtain⟨U0,r,X,a,c,g⟩:=X.put1 a (by omega) 0 (.bool s7) rfl;replace R:=g R (by omega);replace F:=g F (by omega);replace B:=B.keep c;obtain⟨U1,an,X,a,c,g⟩:=X.put1 a (by omega) 1 (.slice A7 k7 c7) rfl;replace R:=g R (by omega);replace F:=g F (by omega);replace B:=B.keep c;obtain⟨W6,p,R,a,c,g⟩:=R.put4 a (by omega) (.bool s7) (.slice A7 k7 c7) (.bool false) (.slice none 0 0) rfl rfl;replace F:=g F (by omega);replace X:=g X (by omega);replace B:=B.keep c;rw[r,an,p];clear r an p;replace k:=aa R.k4 (aa F.k3 X.k4);exact aK (v:= .tuple #[.agg #[.bool s7,.slice A7 k7 c7,.bool false,.slice none 0 0],.bool true]) (by simp[results,Tryz.results78,go_sem,R.k4]) rfl ⟨_,by rw[o.out];rfl,by rw[o.out];exact RatAt.of B (IntAt.zero _) rfl rfl,a⟩
   ·have q1:(d==[])=false:=by simpa using y
    have j:=E9 N.out y;rw[af] at j;have ah:=tE t.out.d_digs y t.out.d_head;have ai:aM d≠1:=fun e=>t.out.d_one (by rw[<-mU t.out.d_digs y (.inr t.out.d_head),e,decDigits_one]);have I:=aB j;clear S ac N t j hx af f;go_wp2_with fail;have f:=B;clear B;have z:=R.lt;have H:=F.lt;have O:=X.lt;have A:=a.size;obtain⟨U0,r,X,a,c,g⟩:=X.put1 a (by omega) 0 (.bool s7) rfl;replace R:=g R (by omega);replace F:=g F (by omega);replace f:=f.keep c;obtain⟨w4,K,X,a,c,g⟩:=X.put1 a (by omega) 1 (.slice A7 k7 c7) rfl;replace R:=g R (by omega);replace F:=g F (by omega);replace f:=f.keep c;rw[r,K];clear r K;replace k:=aa R.g4 (aa F.k3 X.g4);refine(V _).mono ?_;rintro e5 w5 ⟨v5,rfl,i,C⟩;obtain⟨s5,M,Z,Q,rfl⟩:=i.form;replace R:=R.below C;replace F:=F.below C;replace X:=X.below C;replace k:=aa R.g4 (aa F.k3 X.g4);replace c:=Keep.below C;replace f:=f.keep c;replace a:=aC a C;have J:=fun W v u hG h1 h2=>pW x ((aM d:Nat):Int) v u W hG h1 h2 1073741824 (by rw[U];omega) (by rw[cI];omega) (by decide);rw[U,cI] at J;unfold dB at J;clear V;go_wp2_with fail;have z:=R.lt;have H:=F.lt;have O:=X.lt;have A:=a.size;obtain⟨U0,r,X,a,c,g⟩:=X.put1 a (by omega) 2 (.bool s5) rfl;replace R:=g R (by omega);replace F:=g F (by omega);replace f:=f.keep c;replace i:=i.keep c;obtain⟨w6,ad,X,a,c,g⟩:=X.put1 a (by omega) 3 (.slice M Z Q) rfl;replace R:=g R (by omega);replace F:=g F (by omega);replace f:=f.keep c;replace i:=i.keep c;rw[r,ad];clear r ad;replace k:=aa R.g4 (aa F.k3 X.g4);refine(J _ _ _ (hG.below a) f i).mono ?_;rintro e8 w8 ⟨v8,rfl,h8,D⟩;obtain⟨s8,A8,k8,c8,rfl⟩:=h8.form;replace R:=R.below D;replace F:=F.below D;replace X:=X.below D;replace k:=aa R.g4 (aa F.k3 X.g4);replace c:=Keep.below D;replace f:=f.keep c;replace i:=i.keep c;replace a:=aC a D;clear J;have a1:nl (Nat.gcd (aM n) (aM d))<=1073741824:=by
     refine aG (bX (Nat.le_of_dvd (by omega) (Nat.gcd_dvd_right _ _))) (by omega)
    go_wp2_with fail;refine(l7 _ _ _ h8 (by rw[cI];omega)).mono ?_;rintro e9 w9 ⟨rfl,E⟩;replace R:=R.below E;replace F:=F.below E;replace X:=X.below E;replace k:=aa R.g4 (aa F.k3 X.g4);replace c:=Keep.below E;replace f:=f.keep c;replace i:=i.keep c;replace a:=aC a E;by_cases T:Nat.gcd (aM n) (aM d)=1
    ·have G:decide (((Nat.gcd (aM n) (aM d):Nat):Int)=1)=true:=by rw[decide_eq_true_iff];omega
     obtain⟨al,am⟩:=EA U T ah ai;have j:=I.out;rw[if_pos T] at j;have o:=aB j;rw[G];clear G j I;go_wp2_with fail;have z:=R.lt;have H:=F.lt;have O:=X.lt;have A:=a.size;obtain⟨W6,p,R,a,c,g⟩:=R.put4 a (by omega) (.bool s7) (.slice A7 k7 c7) (.bool s5) (.slice M Z Q) rfl rfl;replace F:=g F (by omega);replace X:=g X (by omega);replace f:=f.keep c;replace i:=i.keep c;rw[p];clear p;replace k:=aa R.k4 (aa F.k3 X.k4);exact aK (v:= .tuple #[.agg #[.bool s7,.slice A7 k7 c7,.bool s5,.slice M Z Q],.bool true]) (by simp[results,Tryz.results78,go_sem,R.k4]) rfl ⟨_,by rw[o.out];rfl,by rw[o.out];exact RatAt.of f i al am,a⟩
    ·have G:decide (((Nat.gcd (aM n) (aM d):Nat):Int)=1)=false:=by rw[decide_eq_false_iff_not];omega
     have j:=I.out;rw[if_neg T] at j;have o:=aB j;rw[G];clear G j I;go_wp2_with fail;have z:=R.lt;have H:=F.lt;have O:=X.lt;have A:=a.size;obtain⟨W6,p,R,a,c,g⟩:=R.put4 a (by omega) (.bool false) (.slice none 0 0) (.bool false) (.slice none 0 0) rfl rfl;replace F:=g F (by omega);replace X:=g X (by omega);rw[p];clear p;replace k:=aa R.k4 (aa F.k3 X.k4);exact aK (v:= .tuple #[.agg #[.bool false,.slice none 0 0,.bool false,.slice none 0 0],.bool false]) (by simp[results,Tryz.results78,go_sem,R.k4]) rfl ⟨_,by rw[o.out];rfl,by rw[o.out];exact RatAt.of (IntAt.zero _) (IntAt.zero _) rfl rfl,a⟩
section
variable {w w' w1 w2:World} {g g':Nat} {m n n':Int} {s:Bool} {A:Option Addr} {l c:Nat}
theorem ua {o:Obj} (h:Below w.heap.size w w'):Below w.heap.size w (w'.alloc o):=h.alloc h.size o
theorem ud (h:Below w.heap.size w w'):Below w.heap.size w w'.drew:=h.drew
theorem ut (h:Below w.heap.size w w1) (k:Below w1.heap.size w1 w2):Below w.heap.size w w2:=aC h k
theorem us {o:Nat} {v:Value} (h:Below w.heap.size w w') (a:w.heap.size<=g):Below w.heap.size w (w'.setCell ⟨g,o,none⟩ v):=h.setCell (p:=⟨g,o,none⟩) a v
theorem ET (h:IntAt w (.agg #[.bool s,.slice A l c]) n) (a:w.heap.size=g):IntBx (w.alloc (.cells #[.bool s,.slice A l c] 59)) g n:=
 ⟨_,_,_,_,Bx.newAt w [.bool s,.slice A l c] 59 g a,h.keep (Keep.alloc _ _)⟩
theorem xP (h:IntAt w (.agg #[.bool s,.slice A l c]) n):IntBx (w.alloc (.cells #[.bool s,.slice A l c] 59)) w.heap.size n:=ET h rfl
theorem QD {o:Obj} (h:IntAt (w.alloc o) (.agg #[.bool s,.slice A l c]) n):IntBx ((w.alloc o).alloc (.cells #[.bool s,.slice A l c] 59)) (w.heap.size+1) n:=ET h (World.size_alloc _ _)
theorem tP {o:Obj} (h:IntBx w g n):IntBx (w.alloc o) g n:=h.below ((aH _ _).alloc aE _)
theorem xQ (h:IntBx w g m) (hn:IntAt w (.agg #[.bool s,.slice A l c]) n):IntBx ((w.setCell ⟨g,0,none⟩ (.bool s)).setCell ⟨g,1,none⟩ (.slice A l c)) g n:=(h.stored hn).1
theorem xR (a:IntBx w g' m) (hn:IntAt w (.agg #[.bool s,.slice A l c]) n') (b:g≠g') (h:IntBx w g n):IntBx ((w.setCell ⟨g',0,none⟩ (.bool s)).setCell ⟨g',1,none⟩ (.slice A l c)) g n:=h.step (a.stored hn).2 b
theorem zb (D:Bx w g [.bool false,.slice none 0 0] 59):IntBx w g 0:=⟨_,_,_,_,D,IntAt.zero _⟩
theorem QE {v:Value} (a:IntBx w g' m) (hn:IntAt w (.agg #[.bool s,.slice A l c]) n') (h:IntAt w v n):IntAt ((w.setCell ⟨g',0,none⟩ (.bool s)).setCell ⟨g',1,none⟩ (.slice A l c)) v n:=h.keep (a.stored hn).2.1
theorem tR {d:World} {t:Int} {j:Bool} {f:Option Addr} {i c':Nat} (I:IntBx w g m) (J:IntBx w g' t) (h:IntAt w (.agg #[.bool s,.slice A l c]) n) (k:IntAt w (.agg #[.bool j,.slice f i c']) n') (q:g≠g') (r:Below d.heap.size d w) (o:d.heap.size<=g) (p:d.heap.size<=g'):
  IntBx ((((w.setCell ⟨g,0,none⟩ (.bool s)).setCell ⟨g,1,none⟩ (.slice A l c)).setCell ⟨g',0,none⟩ (.bool j)).setCell ⟨g',1,none⟩ (.slice f i c')) g n∧
  IntBx ((((w.setCell ⟨g,0,none⟩ (.bool s)).setCell ⟨g,1,none⟩ (.slice A l c)).setCell ⟨g',0,none⟩ (.bool j)).setCell ⟨g',1,none⟩ (.slice f i c')) g' n'∧
  Below d.heap.size d ((((w.setCell ⟨g,0,none⟩ (.bool s)).setCell ⟨g,1,none⟩ (.slice A l c)).setCell ⟨g',0,none⟩ (.bool j)).setCell ⟨g',1,none⟩ (.slice f i c')):=by
 have a:=xQ I h;have b:=xR I h (fun e=>q e.symm) J;have c:=QE I h k;exact⟨xR b c q a,xQ b c,us (us (us (us r o) o) p) p⟩
theorem tS {b:World} {e:Bool} {a:Option Addr} {d c':Nat} (h:IntAt w (.agg #[.bool s,.slice A l c]) n) (k:IntAt w (.agg #[.bool e,.slice a d c']) n') (f:Below b.heap.size b w):
  IntBx ((w.alloc (.cells #[.bool s,.slice A l c] 59)).alloc (.cells #[.bool e,.slice a d c'] 59)) w.heap.size n∧
  IntBx ((w.alloc (.cells #[.bool s,.slice A l c] 59)).alloc (.cells #[.bool e,.slice a d c'] 59)) (w.heap.size+1) n'∧
  Below b.heap.size b ((w.alloc (.cells #[.bool s,.slice A l c] 59)).alloc (.cells #[.bool e,.slice a d c'] 59)):=
 ⟨tP (xP h),QD (k.keep (Keep.alloc _ _)),ua (ua f)⟩
theorem xS {e:World} {i:Bool} {d:Option Addr} {f c':Nat} (h:IntAt w (.agg #[.bool s,.slice A l c]) n) (k:IntAt w (.agg #[.bool i,.slice d f c']) n') (j:Below e.heap.size e w):
  IntBx ((w.alloc (.cells #[.bool i,.slice d f c'] 59)).alloc (.cells #[.bool s,.slice A l c] 59)) (w.heap.size+1) n∧
  IntBx ((w.alloc (.cells #[.bool i,.slice d f c'] 59)).alloc (.cells #[.bool s,.slice A l c] 59)) w.heap.size n'∧
  Below e.heap.size e ((w.alloc (.cells #[.bool i,.slice d f c'] 59)).alloc (.cells #[.bool s,.slice A l c] 59)):=by
 obtain⟨a,b,c⟩:=tS k h j;exact⟨b,a,c⟩
theorem xT {a:World} {e:Bool} {b:Option Addr} {d c':Nat} (h:IntAt w (.agg #[.bool s,.slice A l c]) n) (k:IntAt w (.agg #[.bool e,.slice b d c']) n') (J:IntBx w g' m) (i:Below a.heap.size a w) (f:a.heap.size<=g'):
  IntBx (((w.alloc (.cells #[.bool s,.slice A l c] 59)).setCell ⟨g',0,none⟩ (.bool e)).setCell ⟨g',1,none⟩ (.slice b d c')) w.heap.size n∧
  IntBx (((w.alloc (.cells #[.bool s,.slice A l c] 59)).setCell ⟨g',0,none⟩ (.bool e)).setCell ⟨g',1,none⟩ (.slice b d c')) g' n'∧
  Below a.heap.size a (((w.alloc (.cells #[.bool s,.slice A l c] 59)).setCell ⟨g',0,none⟩ (.bool e)).setCell ⟨g',1,none⟩ (.slice b d c')):=
 ⟨xR (tP J) (k.keep (Keep.alloc _ _)) (by have:=J.lt;omega) (xP h),xQ (tP J) (k.keep (Keep.alloc _ _)),us (us (ua i) f) f⟩
theorem xU {a:World} {e:Bool} {b:Option Addr} {d c':Nat} (I:IntBx w g m) (h:IntAt w (.agg #[.bool s,.slice A l c]) n) (k:IntAt w (.agg #[.bool e,.slice b d c']) n') (f:Below a.heap.size a w) (i:a.heap.size<=g):
  IntBx (((((w.alloc (.cells #[.bool false,.slice none 0 0] 59)).setCell ⟨g,0,none⟩ (.bool s)).setCell ⟨g,1,none⟩ (.slice A l c)).setCell ⟨w.heap.size,0,none⟩ (.bool e)).setCell ⟨w.heap.size,1,none⟩ (.slice b d c')) g n∧
  IntBx (((((w.alloc (.cells #[.bool false,.slice none 0 0] 59)).setCell ⟨g,0,none⟩ (.bool s)).setCell ⟨g,1,none⟩ (.slice A l c)).setCell ⟨w.heap.size,0,none⟩ (.bool e)).setCell ⟨w.heap.size,1,none⟩ (.slice b d c')) w.heap.size n'∧
  Below a.heap.size a (((((w.alloc (.cells #[.bool false,.slice none 0 0] 59)).setCell ⟨g,0,none⟩ (.bool s)).setCell ⟨g,1,none⟩ (.slice A l c)).setCell ⟨w.heap.size,0,none⟩ (.bool e)).setCell ⟨w.heap.size,1,none⟩ (.slice b d c')):=
 tR (tP I) (xP (IntAt.zero _)) (h.keep (Keep.alloc _ _)) (k.keep (Keep.alloc _ _)) (by have:=I.lt;omega) (ua f) i f.size
end
def RI (w:World) (l:List UInt8) (e:Ending) (w':World):Prop:=∃v z,e= .returned (.tuple #[v,.bool (decide (l≠[]∧l.all bC=true))])∧NI w' v z∧(l.all bC=true->z=(aM l:Int))∧Below w.heap.size w w'
theorem Mg.one {w:World} {b f:Nat} (h:Bx w b [.int .u32 (f:Int)] 211) (e:f≠0) (i:f<4294967296):Mg w (.slice (some ⟨b,0,none⟩) 1 1) f:=
 ⟨[f],Ds.own (es:=[]) h (fun d g=>by rw[List.mem_singleton.1 g];exact i) 1 aE,fun a c=>by simp at c;rw[<-c];exact e,by simp[nv]⟩
theorem F4 (l:List UInt8) (w:World) (hl:l.length<=1073741824):Calls Tryz.prog 154 #[.string ⟨l.toArray⟩] w (RI w l):=by
 have az:(⟨l.toArray⟩:ByteArray).size=l.length:=by simp[ByteArray.size]
 obtain⟨W,Y,a,R⟩:=bB w [.bool false,.slice none 0 0] 79;have r:=R.g2;go_enter Tryz.func154,Tryz.ntmps154;go_wp2_with fail;(try rw[Y]);clear Y;go_loopg [4,5] l.length (fun g s4 O wr=>∃(m i:Nat),Hid (i+g=l.length)∧O= .int .i64 (i:Int)∧Mg wr s4 m∧Hid (m=aM (l.take i))∧Hid ((l.take i).all bC=true)∧Bx wr w.heap.size [.bool false,.slice none 0 0] 79∧Below w.heap.size w wr)
 case atStart=>exact⟨0,0,by unfold Hid;omega,rfl,Mg.zero _ _ _,rfl,rfl,R,a⟩
 case round=>
  clear R a r;obtain⟨m,i,J,rfl,F,q,s,R,a⟩:=hrel;generalize wr=wx at *;have a3:(0:Int)<=(i:Int):=by omega
  have r:=R.g2;cases gk with
  |zero=>
   have hi:i=l.length:=J.out;subst hi;have av:¬(l.length:Int)<(l.length:Int):=by omega
   rw[List.take_length] at q s;obtain⟨A,k,c,rfl⟩:=F.form;have al:nl m<=1099511627776:=by rw[q.out];exact aG (m5 (tZ s.out)) (by omega)
   go_wp2_with fail;refine(oI false _ m (m:Int) _ F al rfl).mono ?_;rintro e3 w3 ⟨v3,rfl,n,u⟩;obtain⟨H,y,G,C,rfl⟩:=n.form;replace R:=R.below u;replace r:=R.g2;replace a:=aC a u;have hq:decide (l≠[]∧l.all bC=true)=decide (l≠[]):=by simp[s.out]
   have B:=aB hq;clear hq;by_cases p:l=[]
   ·have q0:(l != [])=false:=by simp[p]
    have t:Hid (decide (l≠[]∧l.all bC=true)=false):=by unfold Hid;rw[B.out];simp[p]
    have I:=aB p;clear p B;go_wp2_with fail;obtain⟨X,o,R,a,E,Z⟩:=R.mut2 a (by omega) (.bool H) (.slice y G C) rfl rfl;replace n:=n.keep E;rw[o];clear o;replace r:=R.k2;exact aK (v:= .tuple #[.agg #[.bool H,.slice y G C],.bool false]) (by simp[results,Tryz.results154,go_sem,R.k2];exact I.out) rfl ⟨_,_,by rw[t.out],n,fun _=>by rw[q.out],a⟩
   ·have q0:(l != [])=true:=by simp[p]
    have t:Hid (decide (l≠[]∧l.all bC=true)=true):=by unfold Hid;rw[B.out];simp[p]
    have I:=aB p;clear p B;go_wp2_with fail;obtain⟨X,o,R,a,E,Z⟩:=R.mut2 a (by omega) (.bool H) (.slice y G C) rfl rfl;replace n:=n.keep E;rw[o];clear o;replace r:=R.k2;exact aK (v:= .tuple #[.agg #[.bool H,.slice y G C],.bool true]) (by simp[results,Tryz.results154,go_sem,R.k2];exact I.out) rfl ⟨_,_,by rw[t.out],n,fun _=>by rw[q.out],a⟩
  |succ g=>
   have av:i<l.length:=by have:=J.out;omega
   go_wp2_with fail;go_loopg [5,6,7,8] 9 (fun b O s6 s7 s8 wy=>∃(v j:Nat),Hid (j+b=9)∧O= .int .i64 ((i+j:Nat):Int)∧i+j<=l.length∧s6= .int .u32 (v:Int)∧s7= .int .u32 ((10^j:Nat):Int)∧s8= .int .i64 (j:Int)∧Hid (v=aM ((l.drop i).take j))∧Hid (((l.drop i).take j).all bC=true)∧v<10^j∧wx=wy)
   case atStart=>exact⟨0,0,by unfold Hid;omega,rfl,by omega,rfl,rfl,rfl,rfl,rfl,by decide,rfl⟩
   case round=>
    obtain⟨v,j,z,rfl,a4,rfl,rfl,rfl,U,P,hv,rfl⟩:=hrel;have a5:(0:Int)<=(j:Int):=by omega
    by_cases aj:j<9∧i+j<l.length
    ·obtain⟨a7,ai⟩:=aj;have r1:(j:Int)<9:=by omega
     have r2:((i+j:Nat):Int)<(l.length:Int):=by omega
     obtain⟨e,a1,L⟩:∃e,({ data:=l.toArray }:ByteArray)[i+j]'(by rw[az];exact ai)=e∧l[i+j]? =some e:=⟨_,rfl,by rw[aL ai];rfl⟩;have ag:(l.drop i)[j]? =some e:=by rw[List.getElem?_drop];exact L
     have ao:(l.drop i).take (j+1)=(l.drop i).take j++[e]:=by rw[List.take_add_one,ag];rfl
     have aq:=aB L;have S:=aB ao;clear L ag ao;have c0:e.toNat<256:=e.toNat_lt;by_cases x:48<=e.toNat∧e.toNat<=57
     ·obtain⟨d1,d2⟩:=x;have s1:decide ((e.toNat:Int)<48)=false:=by rw[decide_eq_false_iff_not];omega
      have s2:decide ((57:Int)<(e.toNat:Int))=false:=by rw[decide_eq_false_iff_not];omega
      have ah:10^j<=10^8:=cE (by decide) (by omega);replace ah:10^j<=100000000:=ah;have a2:0<10^j:=Nat.pow_pos (by decide);have an:10^(j+1)=10^j*10:=cU _ _;have Q:=aB an;have hw:v*10+(e.toNat-48)=aM ((l.drop i).take (j+1)):=by rw[S.out,m6,<-U.out,dD]
      have ab:((l.drop i).take (j+1)).all bC=true:=by rw[S.out,List.all_append,P.out];simp[bC];omega
      have V:=aB (And.intro hw ab);obtain⟨b,rfl⟩:∃b,gk=b+1:=⟨gk-1,by have:=z.out;omega⟩;clear hw ab an;generalize 10^j=f at *;go_wp2_with fail;go_roundg b
      case rel=>exact⟨v*10+(e.toNat-48),j+1,by have:=z.out;unfold Hid;omega,by go_num,by omega,n8 (by omega),n8 (by rw[Q.out];omega),by go_num,V.out.1,V.out.2,by rw[Q.out];omega,rfl⟩
      case measure=>omega
     ·have M:¬(l.all bC=true):=fun h=>x (by
       have:=List.all_eq_true.1 h e (cH aq.out);simpa [bC] using this)
      have ar:=aB M;have t:Hid (decide (l≠[]∧l.all bC=true)=false):=by unfold Hid;rw[decide_eq_false_iff_not];exact fun h=>M h.2
      have N:decide ((e.toNat:Int)<48)=true∨decide ((e.toNat:Int)<48)=false∧decide ((57:Int)<(e.toNat:Int))=true:=by
       rcases Nat.lt_or_ge e.toNat 48 with h|h
       ·exact .inl (by rw[decide_eq_true_iff];omega)
       ·exact .inr ⟨by rw[decide_eq_false_iff_not];omega,by rw[decide_eq_true_iff];omega⟩
      clear M x;rcases N with s1|⟨s1,s2⟩
      all_goals (
       go_wp2_with fail;obtain⟨X,o,R,a,E,Z⟩:=R.mut2 a (by omega) (.bool false) (.slice none 0 0) rfl rfl;rw[o];clear o;replace r:=R.k2;exact aK (v:= .tuple #[.agg #[.bool false,.slice none 0 0],.bool false]) (by simp[results,Tryz.results154,go_sem,R.k2]) rfl ⟨_,0,by rw[t.out],NI.zero _,fun h=>absurd h ar.out,a⟩)
    ·have N:j=9∨j<9∧i+j=l.length:=by have:=z.out;omega
     have am:10^j<=10^9:=cE (by decide) (by have:=z.out;omega);have bb:0<10^j:=Nat.pow_pos (by decide);have a6:1<=j:=by omega
     clear aj;obtain⟨A,k,c,rfl⟩:=F.form;have al:nl m<=1073741824:=by rw[q.out];exact aG (m5 (tZ s.out)) (by rw[aZ];omega)
     have ap:aM (l.take (i+j))=m*10^j+v:=by
      rw[List.take_add,mT,<-q.out,<-U.out,aZ,List.length_drop,Nat.min_eq_left (by omega)]
     have ac:(l.take (i+j)).all bC=true:=by rw[List.take_add,List.all_append,s.out,P.out];rfl
     have T:=aB (And.intro ap ac);clear ap ac;have a0:10^j<=1000000000:=am;clear am;generalize 10^j=f at *;obtain⟨wa,ea,D,FB⟩:=bB wx [.int .u32 (f:Int)] 211;have ax:=Mg.one FB (by omega) (by omega);have aw:=F.below D;have bc:f<=4294967295:=by omega
     have bf:v<=4294967295:=by omega
     have ay:¬(j:Int)<9∨(j:Int)<9∧¬((i+j:Nat):Int)<(l.length:Int):=by omega
     have a9:nl f<=1:=bW (by unfold BN;omega);have a8:=dJ m f;have ak:Hid (l.length-(i+j)<g+1∧i+j+(l.length-(i+j))=l.length):=by have:=J.out;unfold Hid;omega
     clear N;rcases ay with r1|⟨r1,r2⟩
     all_goals (
      go_wp2_with fail;refine(AS m f _ _ _ aw ax (by omega) (by omega)).mono ?_;rintro e1 w1 ⟨v1,rfl,h1,ad⟩;obtain⟨A1,k1,c1,rfl⟩:=h1.form;obtain⟨wb,eb,K,FV⟩:=bB w1 [.int .u32 (v:Int)] 211;have ht:=mI [v] w1.heap.size v 1 wb FV (fun d x=>by rw[List.mem_singleton.1 x];unfold aD;omega) (by simp[nv]) aE (by simp);simp only[List.length_singleton] at ht;have au:=h1.below K;have ba:nl v<=1:=bW (by unfold BN;omega);have ae:=(((aC a D).trans (ad.mono (aC a D).size)));have af:=aC ae K;go_wp2_with fail;refine ht.mono ?_;rintro e2 w2 ⟨v2,rfl,h2,rfl⟩;go_wp2_with fail;refine(AV _ _ _ _ _ au h2 (by omega) (by omega)).mono ?_;rintro e3 w3 ⟨v3,rfl,n,u⟩;go_wp2_with fail;go_roundg (l.length-(i+j))
      case rel=>exact⟨m*f+v,i+j,ak.out.2,by first|rfl|go_num,n,T.out.1.symm,T.out.2,(((R.below D).below ad).below K).below u,aC af u⟩
      case measure=>exact ak.out.1)
