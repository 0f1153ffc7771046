/- Laws. -/
import Derived.Test.YtjgbleapffgbcaaGreatDoorW22
set_option linter.all false
set_option maxHeartbeats 8000000
set_option maxRecDepth 99999
namespace Go.Proofs.YtjgbleapffgbcaaGreatDoor
open Go.RowKit Sos Tryz
variable{a b w:World}{d e u:Value}{x y:Rat}{K T:Nat}
def UW(x y:Rat)(a b:Value)(w:World)(i:Glob w)(g:RatAt w a x)(h:RatAt w b y)(K:Nat)(e:RL K x)(d:RL K y)(j:20*K+60<=aJ):
  Calls prog 63 #[a,b] w (iF w (x+y)):=by
 by_cases f:x.den=1
 ·by_cases c:y.den=1
  ·exact J7 x y a b w g h f c K e d (by omega)
  ·exact UZ x y a b w g h f c K e d (by omega)
 ·by_cases c:y.den=1
  ·exact J8 x y a b w g h f c K e d (by omega)
  ·exact UY x y a b w i g h f c K e d j
def bqZ(x:Rat)(y:Value)(w:World)(k:RatAt w y x)(A:nl x.num.natAbs<=17592186044416):Calls prog 111 #[y] w (iF w (-x)):=by
 obtain⟨t,l,r,n,i,d,h,e,rfl⟩:=k.form;obtain⟨W,p,a,X,R⟩:=eL w [.bool t,.slice l r n,.bool i,.slice d h e] 76 [.bool false,.slice none 0 0,.bool false,.slice none 0 0] 76;have j:=aa X.g4 R.g4;go_enter func111,ntmps111;go_wp2_with fail;(try rw[p]);clear p;have hn:=(k.be a).num;have b:=(k.be a).den;replace hn:=hn.drew;replace b:=b.drew;replace X:=X.drew;replace R:=R.drew;replace a:=a.drew;replace j:=aa X.k4 R.g4;have B:w.1.size+1≠w.1.size:=by omega
 go_region_held3 (fun C=>C4 C w.1.size (.bool t) (.slice l r n) (.bool i) (.slice d h e))
  (first|(with_reducible exact X.k4)|((repeat (first|with_reducible exact X.k4|with_reducible refine kK B ?_))))
  (first
   |(go_at_call 88;refine(sQ _ _ _ hn A).mono ?_;rintro E G ⟨F,rfl,f,g⟩;obtain⟨u,m,s,o,rfl⟩:=f.form;replace X:=X.be g;replace R:=R.be g;replace j:=aa X.k4 R.g4;replace c:=Keep.be g;replace hn:=hn.ke c;replace b:=b.ke c;replace a:=aC a g))
 all_goals (
  go_wp2_with fail;obtain⟨D,q,R,a,c,z⟩:=R.put4 a (by omega) (.bool u) (.slice m s o) (.bool i) (.slice d h e) rfl rfl;replace X:=z X (by omega);replace f:=f.ke c;replace b:=b.ke c;rw[q];clear q;replace j:=aa X.k4 R.k4;exact aM (v:= .agg #[.bool u,.slice m s o,.bool i,.slice d h e]) (by simp[results,results111,go_sem,R.k4]) rfl ⟨_,rfl,RatAt.of f b rfl rfl,a⟩
 )
def cx0(x y:Rat)(V Z:Value)(w:World)(k:Glob w)(b:RatAt w V x)(c:RatAt w Z y)(K:Nat)(bx:RL K x)(r:RL K y)(G:20*K+60<=aJ):
  Calls prog 65 #[V,Z] w (iF w (x-y)):=by
 obtain⟨O,l,H,s,P,m,I,t,rfl⟩:=b.form;obtain⟨Q,n,J,z,S,o,L,A,rfl⟩:=c.form;rw[Rat.sub_eq_add_neg];have ad:=fun W u h=>bqZ y u W h (by have:=r.1;unfold aJ at G;omega);have ac:=fun W u v k h1 h2=>UW x (-y) u v W k h1 h2 K bx (C7 r) G;obtain⟨W,D,a,X,Y,R⟩:=gE w [.bool O,.slice l H s,.bool P,.slice m I t] 76 [.bool Q,.slice n J z,.bool S,.slice o L A] 76 [.bool false,.slice none 0 0,.bool false,.slice none 0 0] 76;have i:=aa X.g4 (aa Y.g4 R.g4);go_enter func65,ntmps65;go_wp2_with fail;(try rw[D]);clear D;replace b:=b.be a;replace c:=c.be a;replace b:=b.drew;replace c:=c.drew;replace X:=X.drew;replace Y:=Y.drew;replace R:=R.drew;replace a:=a.drew;replace i:=aa X.k4 (aa Y.k4 R.g4);have ae:w.1.size+1+1≠w.1.size:=by omega
 have af:w.1.size+1+1≠w.1.size+1:=by omega
 go_region_held3 (fun w'=>C4 w' w.1.size (.bool O) (.slice l H s) (.bool P) (.slice m I t)∧C4 w' (w.1.size+1) (.bool Q) (.slice n J z) (.bool S) (.slice o L A))
  (first|(with_reducible exact⟨X.k4,Y.k4⟩)|(refine⟨?_,?_⟩<;>(repeat (first|with_reducible exact X.k4|with_reducible exact Y.k4|with_reducible refine kK ae ?_|with_reducible refine kK af ?_))))
  (first
   |(go_at_call 111;refine(ad _ _ c).mono ?_;rintro e5 w5 ⟨v5,rfl,j,f⟩;obtain⟨s5,A5,k5,c5,s6,A6,k6,c6,rfl⟩:=j.form;replace X:=X.be f;replace Y:=Y.be f;replace R:=R.be f;replace i:=aa X.k4 (aa Y.k4 R.g4);replace d:=Keep.be f;replace b:=b.ke d;replace c:=c.ke d;(try replace e:=e.ke d);replace a:=aC a f)
   |(go_at_call 63;refine(ac _ _ _ (k.be a) b j).mono ?_;rintro e7 w7 ⟨v7,rfl,e,g⟩;obtain⟨T,p,M,B,U,q,N,C,rfl⟩:=e.form;replace X:=X.be g;replace Y:=Y.be g;replace R:=R.be g;replace i:=aa X.k4 (aa Y.k4 R.g4);replace d:=Keep.be g;replace b:=b.ke d;replace c:=c.ke d;(try replace j:=j.ke d);replace a:=aC a g))
 all_goals (
  go_wp2_with fail;obtain⟨W6,E,R,a,d,F⟩:=R.put4 a (by omega) (.bool T) (.slice p M B) (.bool U) (.slice q N C) rfl rfl;replace X:=F X (by omega);replace Y:=F Y (by omega);replace e:=e.ke d;rw[E];clear E;replace i:=aa X.k4 (aa Y.k4 R.k4);exact aM (v:= .agg #[.bool T,.slice p M B,.bool U,.slice q N C]) (by simp[results,results65,go_sem,R.k4]) rfl ⟨_,rfl,e,a⟩
 )
def UR(x y:Rat)(g h:Nat)(a:g=Nat.gcd x.num.natAbs y.den)(b:h=Nat.gcd y.num.natAbs x.den):
  (x*y).num=x.num.tdiv (g:Int)*y.num.tdiv (h:Int)∧((x*y).den:Int)=(x.den:Int).tdiv (h:Int)*(y.den:Int).tdiv (g:Int):=by
 subst a b;show(Rat.mul x y).num=_∧((Rat.mul x y).den:Int)=_
 unfold Rat.mul;refine⟨?_,?_⟩
 ·simp only[Int.divExact_eq_tdiv]
 ·simp only[Nat.divExact_eq_div];rw[<-Int.ofNat_tdiv,<-Int.ofNat_tdiv];simp
def US(w:World)(a b:Int)(e:Ending)(w':World):Prop:=∃v u,e= .returned (.tuple #[v,u])∧IntAt w' v a∧IntAt w' u b∧Below w.1.size w w'
def J6(n d:Int)(vn vd:Value)(w:World)(hG:Glob w)(hn:IntAt w vn n)(c:IntAt w vd d)(av:n≠0)(g:Nat)(A:g=Nat.gcd n.natAbs d.natAbs)(K:Nat)(U:nl n.natAbs<=K)(bd:nl d.natAbs<=K)(hK:10*K+10<=aJ):
  Calls prog 99 #[vn,vd] w (US w (n.tdiv g) (d.tdiv g)):=by
 obtain⟨D,r,B,t,rfl⟩:=hn.form;obtain⟨E,s,C,u,rfl⟩:=c.form;have N:(g:Int)≠0:=by
  have:=bzV d.natAbs (show 0<n.natAbs by omega);omega
 have au:nl g<=K:=by rw[A];exact wQ _ _ _ (by omega) U
 unfold aJ at hK;obtain⟨W,eW,a,X,Y,R,S⟩:=BL w [.bool D,.slice r B t] 60 [.bool E,.slice s C u] 60 [.bool false,.slice none 0 0] 60 [.bool false,.slice none 0 0] 60;have i:=aa X.g2 (aa Y.g2 (aa R.g2 S.g2));go_enter func99,ntmps99;go_wp2_with fail;(try rw[eW]);clear eW;replace hn:=hn.be a;replace c:=c.be a;refine(n6 d _ _ c (by omega)).mono ?_;rintro e3 w3 ⟨rfl,p⟩;replace X:=X.be p;replace Y:=Y.be p;replace R:=R.be p;replace S:=S.be p;replace i:=aa X.k2 (aa Y.k2 (aa R.g2 S.g2));replace b:=Keep.be p;replace hn:=hn.ke b;replace c:=c.ke b;replace a:=aC a p;by_cases h:d=1
 ·have z:decide (d=1)=true:=decide_eq_true h;have ad:g=1:=by rw[A,h];simp
  have T:Hid (n.tdiv g=n∧d.tdiv g=d):=by unfold Hid;rw[ad];exact⟨Int.tdiv_one n,Int.tdiv_one d⟩
  rw[z];clear z ad A N h;go_wp2_with fail;go_region
  all_goals (
   go_wp2_with fail;obtain⟨U0,x,R,a,b,e⟩:=R.put2 a (by omega) (.bool D) (.slice r B t) rfl rfl;replace X:=e X (by omega);replace Y:=e Y (by omega);replace S:=e S (by omega);replace hn:=hn.ke b;replace c:=c.ke b;obtain⟨W6,y,S,a,b,e⟩:=S.put2 a (by omega) (.bool E) (.slice s C u) rfl rfl;replace X:=e X (by omega);replace Y:=e Y (by omega);replace R:=e R (by omega);replace hn:=hn.ke b;replace c:=c.ke b;rw[x,y];clear x y;replace i:=aa X.k2 (aa Y.k2 (aa R.k2 S.k2));exact aM (v:= .tuple #[.agg #[.bool D,.slice r B t],.agg #[.bool E,.slice s C u]]) (by simp[results,results99,go_sem,R.k2,S.k2]) rfl ⟨_,_,rfl,by rw[T.out.1];exact hn,by rw[T.out.2];exact c,a.drew⟩
  )
 ·have z:decide (d=1)=false:=decide_eq_false h;rw[z];clear z h;go_wp2_with fail;refine(qF n d _ _ _ (hG.be a) hn c K U bd (by unfold aJ;omega)).mono ?_;rintro e4 L ⟨v4,rfl,f,q⟩;obtain⟨J,F,I,H,rfl⟩:=f.form;replace X:=X.be q;replace Y:=Y.be q;replace R:=R.be q;replace S:=S.be q;replace i:=aa X.k2 (aa Y.k2 (aa R.g2 S.g2));replace b:=Keep.be q;replace hn:=hn.ke b;replace c:=c.ke b;replace a:=aC a q;rw[<-A] at f;clear A;go_wp2_with fail;have ag:=X.lt;have ah:=Y.lt;have ae:=R.lt;have af:=S.lt;have ak:=a.size;obtain⟨w5,ac,o,G⟩:=bI L [.bool J,.slice F I H] 60;replace X:=X.be o;replace Y:=Y.be o;replace R:=R.be o;replace S:=S.be o;replace b:=Keep.be o;replace a:=aC a o;replace f:=f.ke b;replace hn:=hn.ke b;replace c:=c.ke b;rw[ac];clear ac;replace i:=aa X.k2 (aa Y.k2 (aa R.g2 (aa S.g2 G.k2)));have ai:=fun W h M=>mZ n g (.agg #[.bool D,.slice r B t]) (.agg #[.bool J,.slice F I H]) W h M N (by show nl n.natAbs+4*nl g+4<=_;omega);have aj:=fun W h M=>mZ d g (.agg #[.bool E,.slice s C u]) (.agg #[.bool J,.slice F I H]) W h M N (by show nl d.natAbs+4*nl g+4<=_;omega);replace hn:=hn.drew;replace c:=c.drew;replace f:=f.drew;replace X:=X.drew;replace Y:=Y.drew;replace R:=R.drew;replace S:=S.drew;replace G:=G.drew;replace a:=a.drew;replace i:=aa X.k2 (aa Y.k2 (aa R.g2 (aa S.g2 G.k2)));have am:w.1.size+1+1≠w.1.size:=by omega
  have an:w.1.size+1+1≠w.1.size+1:=by omega
  have al:w.1.size+1+1≠L.1.size:=by omega
  have ap:w.1.size+1+1+1≠w.1.size:=by omega
  have aq:w.1.size+1+1+1≠w.1.size+1:=by omega
  have ao:w.1.size+1+1+1≠L.1.size:=by omega
  go_region_held3 (fun O=>C2 O w.1.size (.bool D) (.slice r B t)∧C2 O (w.1.size+1) (.bool E) (.slice s C u)∧C2 O L.1.size (.bool J) (.slice F I H))
   (first|(with_reducible exact⟨X.k2,Y.k2,G.k2⟩)|(refine⟨?_,?_,?_⟩<;>(repeat (first|with_reducible exact X.k2|with_reducible exact Y.k2|with_reducible exact G.k2|with_reducible refine fQ am ?_|with_reducible refine fQ an ?_|with_reducible refine fQ al ?_|with_reducible refine fQ ap ?_|with_reducible refine fQ aq ?_|with_reducible refine fQ ao ?_))))
   (first
    |(go_at_call 89;(with_reducible refine(ai _ hn f).mono ?_);rintro e7 w7 ⟨v7,rfl,j,l⟩;obtain⟨s7,P,k7,V,rfl⟩:=j.form;replace X:=X.be l;replace Y:=Y.be l;replace R:=R.be l;replace S:=S.be l;replace G:=G.be l;replace i:=aa X.k2 (aa Y.k2 (aa R.g2 (aa S.g2 G.k2)));replace b:=Keep.be l;replace hn:=hn.ke b;replace c:=c.ke b;replace f:=f.ke b;(try replace k:=k.ke b);replace a:=aC a l)
    |(go_at_call 89;(with_reducible refine(aj _ c f).mono ?_);rintro e8 w8 ⟨v8,rfl,k,m⟩;obtain⟨s8,Q,k8,Z,rfl⟩:=k.form;replace X:=X.be m;replace Y:=Y.be m;replace R:=R.be m;replace S:=S.be m;replace G:=G.be m;replace i:=aa X.k2 (aa Y.k2 (aa R.g2 (aa S.g2 G.k2)));replace b:=Keep.be m;replace hn:=hn.ke b;replace c:=c.ke b;replace f:=f.ke b;(try replace j:=j.ke b);replace a:=aC a m))
  all_goals (
   go_wp2_with fail;have ag:=X.lt;have ah:=Y.lt;have ae:=R.lt;have af:=S.lt;have ar:=G.lt;have ak:=a.size;obtain⟨U0,x,R,a,b,e⟩:=R.put2 a (by omega) (.bool s7) (.slice P k7 V) rfl rfl;replace X:=e X (by omega);replace Y:=e Y (by omega);replace S:=e S (by omega);replace G:=e G (by omega);replace j:=j.ke b;replace k:=k.ke b;obtain⟨W6,y,S,a,b,e⟩:=S.put2 a (by omega) (.bool s8) (.slice Q k8 Z) rfl rfl;replace X:=e X (by omega);replace Y:=e Y (by omega);replace R:=e R (by omega);replace G:=e G (by omega);replace j:=j.ke b;replace k:=k.ke b;rw[x,y];clear x y;replace i:=aa X.k2 (aa Y.k2 (aa R.k2 (aa S.k2 G.k2)));exact aM (v:= .tuple #[.agg #[.bool s7,.slice P k7 V],.agg #[.bool s8,.slice Q k8 Z]]) (by simp[results,results99,go_sem,R.k2,S.k2]) rfl ⟨_,_,rfl,j,k,a⟩
  )
def UT(x y:Rat)(vx vy:Value)(w:World)(hG:Glob w)(hx:RatAt w vx x)(hy:RatAt w vy y)(j:¬(x.den=1∧y.den=1))(ap:y.num≠0)(K:Nat)(bx:RL K x)(bY:RL K y)(hK:10*K+20<=aJ):
  Calls prog 45 #[vx,vy] w (iF w (x*y)):=by
 obtain⟨P,B,N,F,s2,U,k2,c2,rfl⟩:=hx.form;obtain⟨Q,C,O,G,s4,V,k4,c4,rfl⟩:=hy.form;unfold aJ at hK;obtain⟨g,hg⟩:∃g,g=Nat.gcd x.num.natAbs y.den:=⟨_,rfl⟩;obtain⟨h,hh⟩:∃h,h=Nat.gcd y.num.natAbs x.den:=⟨_,rfl⟩;have HP:=aB (UR x y g h hg hh);have⟨ar,au⟩:=bx;have⟨av,aw⟩:=bY;have a8:=fun W h=>pD x (.agg #[.bool P,.slice B N F,.bool s2,.slice U k2 c2]) W h (by omega);have a9:=fun W h=>pD y (.agg #[.bool Q,.slice C O G,.bool s4,.slice V k4 c4]) W h (by omega);have a6:=fun W u hG j n an=>J6 x.num y.den (.agg #[.bool P,.slice B N F]) u W hG j n an g hg K ar aw (by unfold aJ;omega);have a7:=fun W u hG j n an=>J6 y.num x.den (.agg #[.bool Q,.slice C O G]) u W hG j n an h hh K av au (by unfold aJ;omega);have cm:=jN x.num g K ar;have cn:=jN y.num h K av;have bm:=jN (y.den:Int) g K aw;have bn:=jN (x.den:Int) h K au;have cq:=mY x;have cr:=mY y;have aj:bS x=0->bS y≠0:=fun e1 e2=>j ⟨fV.1 e1,fV.1 e2⟩;have bf:x.num=0->x*y=0:=fun h=>by rw[Rat.num_eq_zero.1 h,aqQ]
 have HZ:=aB bf;clear bf j hg hh;obtain⟨W,eW,c,X,Y,R⟩:=gE w [.bool P,.slice B N F,.bool s2,.slice U k2 c2] 76 [.bool Q,.slice C O G,.bool s4,.slice V k4 c4] 76 [.bool false,.slice none 0 0,.bool false,.slice none 0 0] 76;have l:=aa X.g4 (aa Y.g4 R.g4);go_enter func45,ntmps45;go_wp2_with fail;(try rw[eW]);clear eW;have o:=(hx.be c).num;have p:=(hy.be c).num;generalize x.num.tdiv g=a1 at *;generalize y.num.tdiv h=a2 at *;generalize (y.den:Int).tdiv g=b1 at *;generalize (x.den:Int).tdiv h=b2 at *;refine(g9 x.num _ _ o (by omega)).mono ?_;rintro e5 w5 ⟨rfl,ae⟩;replace X:=X.be ae;replace Y:=Y.be ae;replace R:=R.be ae;replace l:=aa X.k4 (aa Y.k4 R.g4);replace f:=Keep.be ae;replace o:=o.ke f;replace p:=p.ke f;replace c:=aC c ae;by_cases J:x.num=0
 ·have HQ:=aB (HZ.out J);rw[show decide (x.num=0)=true from decide_eq_true J];clear J;go_wp2_with fail;obtain⟨W6,ad,R,c,f,ff⟩:=R.put4 c (by omega) (.bool false) (.slice none 0 0) (.bool false) (.slice none 0 0) rfl rfl;replace X:=ff X (by omega);replace Y:=ff Y (by omega);rw[ad];clear ad;replace l:=aa X.k4 (aa Y.k4 R.k4);exact aM (v:= .agg #[.bool false,.slice none 0 0,.bool false,.slice none 0 0]) (by simp[results,results45,go_sem,R.k4]) rfl ⟨_,rfl,RatAt.of (IntAt.zero _) (IntAt.zero _) (by rw[HQ.out];rfl) (by rw[HQ.out];rfl),c⟩
 ·rw[show decide (x.num=0)=false from decide_eq_false J];go_wp2_with fail;refine(g9 y.num _ _ p (by omega)).mono ?_;rintro e6 w6 ⟨rfl,af⟩;replace X:=X.be af;replace Y:=Y.be af;replace R:=R.be af;replace l:=aa X.k4 (aa Y.k4 R.g4);replace f:=Keep.be af;replace o:=o.ke f;replace p:=p.ke f;replace c:=aC c af;rw[show decide (y.num=0)=false from decide_eq_false ap];have bj:Hid (x.num≠0):=J;have bk:Hid (y.num≠0):=ap;have L:=(hx.be c).den;have M:=(hy.be c).den;clear J ap o p;generalize bS x=dx at *;generalize bS y=dy at *;go_upto_region 3 with fail;go_cut [25] (fun b7 k=>b7= .bool false∧Bx k w.1.size [.bool P,.slice B N F,.bool s2,.slice U k2 c2] 76∧Bx k (w.1.size+1) [.bool Q,.slice C O G,.bool s4,.slice V k4 c4] 76∧Bx k (w.1.size+1+1) [.bool false,.slice none 0 0,.bool false,.slice none 0 0] 76∧Below w.1.size w k)
  case first=>
   go_wp2_with fail;refine(g9 dx _ _ L (by omega)).mono ?_;rintro e7 w7 ⟨rfl,ag⟩;replace X:=X.be ag;replace Y:=Y.be ag;replace R:=R.be ag;replace l:=aa X.k4 (aa Y.k4 R.g4);replace f:=Keep.be ag;replace L:=L.ke f;replace M:=M.ke f;replace c:=aC c ag;by_cases e:dx=0
   ·rw[show decide (dx=0)=true from decide_eq_true e];have bb:=aj e;clear e aj;go_wp2_with fail;refine(g9 dy _ _ M (by omega)).mono ?_;rintro e8 w8 ⟨rfl,ah⟩;replace X:=X.be ah;replace Y:=Y.be ah;replace R:=R.be ah;replace l:=aa X.k4 (aa Y.k4 R.g4);replace f:=Keep.be ah;replace L:=L.ke f;replace M:=M.ke f;replace c:=aC c ah;rw[show decide (dy=0)=false from decide_eq_false bb];clear bb;go_wp2;go_meet;exact⟨rfl,X,Y,R,c⟩
   ·rw[show decide (dx=0)=false from decide_eq_false e];clear e aj;go_wp2;go_meet;exact⟨rfl,X,Y,R,c⟩
  case rest=>
   clear X Y R c L M aj l;obtain⟨rfl,X,Y,R,c⟩:=hcut;generalize wc=q at *;have ao:=hx.be c;have aq:=hy.be c;have am:=hG.be c;have o:=ao.num;have p:=aq.num;have l:=True.intro;replace l:=aa X.k4 (aa Y.k4 R.g4);go_wp2_with fail;have ci:=X.lt;have ck:=Y.lt;go_cut [5,6] (fun s5 s6 k=>∃s t,s5= .pointer (some ⟨s,0,none⟩)∧s6= .pointer (some ⟨t,0,none⟩)∧q.1.size<=s∧q.1.size<=t∧s≠t∧IntBx k s (a1)∧IntBx k t (b1)∧Below q.1.size q k)
   case first=>
    go_region_held3 (fun m=>C4 m w.1.size (.bool P) (.slice B N F) (.bool s2) (.slice U k2 c2)∧C4 m (w.1.size+1) (.bool Q) (.slice C O G) (.bool s4) (.slice V k4 c4))
     (with_reducible exact⟨X.up.k4,Y.up.k4⟩)
     (first
      |(go_at_call 54;refine(a9 _ aq.up).mono ?_;rintro cy bg ⟨ea,rfl,ak,a0⟩;have b3:=a0.size;(try simp at b3);have:=St.mk a0;obtain⟨d4,b8,dt,cs,rfl⟩:=ak.form)
      |(go_at_call 99;refine(a6 _ _ am.up o.up ak.up bj.out).mono ?_;rintro cz S ⟨eb,u14,rfl,i,H,a3⟩;have b4:=a3.size;(try simp at b4);have:=St.mk a3;have D:=Up.out (a:=q) (b:=S);have d2:=D.size;have de:=ak.up (b:=S);(try have⟨_,_,_,_,_⟩:=nG q S);(try have⟨_,_,_,_,_⟩:=pH q S);(try have⟨_,_,_,_,_⟩:=nG bg S);(try have⟨_,_,_,_,_⟩:=pH bg S);obtain⟨sp,Ap,kp,cp,rfl⟩:=i.form;obtain⟨d5,b9,du,ct,rfl⟩:=H.form))
    all_goals (
     go_wp2;go_meet;refine⟨_,_,rfl,rfl,by omega,by omega,by omega,?_⟩
     first
      |(with_reducible exact tR i H D)
      |(with_reducible exact xF i H D)
      |(with_reducible exact xG i H (zb ‹_›) D (by omega))
      |(with_reducible exact xH (zb ‹_›) i H D (by omega))
      |(with_reducible exact x3 (zb ‹_›) (zb ‹_›) i H (by omega) D (by omega) (by omega)))
   case rest=>
    obtain⟨s,t,rfl,rfl,dh,di,dm,I5,I6,d⟩:=hcut;generalize wc=r at *;have X8:=X.be d;have Y8:=Y.be d;have R8:=R.be d;have ba:=ao.be d;have az:=am.be d;have bc:=p.be d;replace c:=aC c d;have ds:=d.size;have dq:=X.lt;have dr:=Y.lt;have dp:=R.lt;obtain⟨s5,A5,k5,c5,Z,i5⟩:=I5;obtain⟨s6,A6,k6,c6,P6,i6⟩:=I6;clear X Y R ao aq am o p d a6 a9 l;go_wp2_with fail;have cj:=Y8.lt;have ch:=X8.lt;go_cut [7,8] (fun s7 s8 k=>∃z A,s7= .pointer (some ⟨z,0,none⟩)∧s8= .pointer (some ⟨A,0,none⟩)∧r.1.size<=z∧r.1.size<=A∧z≠A∧IntBx k z (a2)∧IntBx k A (b2)∧Below r.1.size r k)
    case first=>
     go_region_held3 (fun m=>C4 m (w.1.size+1) (.bool Q) (.slice C O G) (.bool s4) (.slice V k4 c4)∧C4 m w.1.size (.bool P) (.slice B N F) (.bool s2) (.slice U k2 c2))
      (with_reducible exact⟨Y8.up.k4,X8.up.k4⟩)
      (first
       |(go_at_call 54;refine(a8 _ ba.up).mono ?_;rintro c0 bh ⟨ec,rfl,al,a4⟩;have b5:=a4.size;(try simp at b5);have:=St.mk a4;obtain⟨d6,cc,dv,cu,rfl⟩:=al.form)
       |(go_at_call 99;refine(a7 _ _ az.up bc.up al.up bk.out).mono ?_;rintro c9 T ⟨ed,u16,rfl,i,I,a5⟩;have b6:=a5.size;(try simp at b6);have:=St.mk a5;have E:=Up.out (a:=r) (b:=T);have d3:=E.size;have df:=al.up (b:=T);(try have⟨_,_,_,_,_⟩:=nG r T);(try have⟨_,_,_,_,_⟩:=pH r T);(try have⟨_,_,_,_,_⟩:=nG bh T);(try have⟨_,_,_,_,_⟩:=pH bh T);obtain⟨sp,Ap,kp,cp,rfl⟩:=i.form;obtain⟨d7,cd,dw,cv,rfl⟩:=I.form))
     all_goals (
      go_wp2;go_meet;refine⟨_,_,rfl,rfl,by omega,by omega,by omega,?_⟩
      first
       |(with_reducible exact tR i I E)
       |(with_reducible exact xF i I E)
       |(with_reducible exact xG i I (zb ‹_›) E (by omega))
       |(with_reducible exact xH (zb ‹_›) i I E (by omega))
       |(with_reducible exact x3 (zb ‹_›) (zb ‹_›) i I (by omega) E (by omega) (by omega)))
    case rest=>
     obtain⟨z,A,rfl,rfl,dj,dk,dn,I7,I8,d⟩:=hcut;generalize wc=W9 at *;replace Z:=Z.be d;replace P6:=P6.be d;have R9:=R8.be d;replace i5:=i5.be d;replace i6:=i6.be d;have dl:=Z.lt;replace c:=aC c d;obtain⟨s7,A7,k7,c7,P7,i7⟩:=I7;obtain⟨s8,A8,k8,c8,P8,i8⟩:=I8;clear X8 Y8 R8 ba az bc a7 a8 d;have bz:=fun W j n=>jB a1 a2 (.agg #[.bool s5,.slice A5 k5 c5]) (.agg #[.bool s7,.slice A7 k7 c7]) W j n (by omega);have b0:=fun W j n=>jB b2 b1 (.agg #[.bool s8,.slice A8 k8 c8]) (.agg #[.bool s6,.slice A6 k6 c6]) W j n (by omega);have co:=gT b2 b1 K K bn bm;have bw:=fun W u v j n=>vK (x*y) (a1*a2) (b2*b1) u v W j n HP.out.1 HP.out.2 (by omega);go_wp2_with fail;have bo:w.1.size+1+1≠s:=by omega
     have bp:w.1.size+1+1≠t:=by omega
     have bq:w.1.size+1+1≠z:=by omega
     have br:w.1.size+1+1≠A:=by omega
     go_region_held3 (fun m=>C2 m s (.bool s5) (.slice A5 k5 c5)∧C2 m t (.bool s6) (.slice A6 k6 c6)∧C2 m z (.bool s7) (.slice A7 k7 c7)∧C2 m A (.bool s8) (.slice A8 k8 c8))
      (first|(with_reducible exact⟨Z.up.k2,P6.up.k2,P7.up.k2,P8.up.k2⟩)|(with_reducible exact⟨(Z.up.far4 bo).k2,(P6.up.far4 bp).k2,(P7.up.far4 bq).k2,(P8.up.far4 br).k2⟩))
      (first
       |(go_at_call 34;(with_reducible refine(bz _ i5.up i7.up).mono ?_);rintro da eh ⟨ee,rfl,ax,bt⟩;have:=St.mk bt;obtain⟨d8,ce,d0,cw,rfl⟩:=ax.form)
       |(go_at_call 34;(with_reducible refine(b0 _ i8.up i6.up).mono ?_);rintro db ei ⟨ef,rfl,ay,bu⟩;have:=St.mk bu;obtain⟨d9,cg,d1,cx,rfl⟩:=ay.form)
       |(go_at_call 90;refine(bw _ _ _ ax.up ay.up).mono ?_;rintro dc bi ⟨eg,rfl,ai,bv⟩;have:=St.mk bv;have bs:=Up.out (a:=W9) (b:=bi);have ac:=R9.up (b:=bi);have cl:=ac.g4;obtain⟨sa,Aa,ka,ca,sb,Ab,kb,cb,rfl⟩:=ai.form))
     all_goals (
      go_wp2_with fail;replace c:=aC c bs;obtain⟨W6,ad,ac,c,f,ff⟩:=ac.put4 c (by omega) (.bool sa) (.slice Aa ka ca) (.bool sb) (.slice Ab kb cb) rfl rfl;replace ai:=ai.ke f;rw[ad];clear ad;replace l:=ac.k4;exact aM (v:= .agg #[.bool sa,.slice Aa ka ca,.bool sb,.slice Ab kb cb]) (by simp[results,results45,go_sem,ac.k4]) rfl ⟨_,rfl,ai,c⟩
     )
def cqZ(x y:Rat)(o p:Value)(w:World)(m:RatAt w o x)(n:RatAt w p y)(k:y.num=0)(I:nl x.num.natAbs<=17592186044416):Calls prog 45 #[o,p] w (iF w (x*y)):=by
 obtain⟨K,q,E,z,L,r,F,A,rfl⟩:=m.form;obtain⟨M,s,G,B,N,t,H,C,rfl⟩:=n.form;have i:=aB (show x*y=0 by rw[Rat.num_eq_zero.1 k,dU]);have J:nl y.num.natAbs<=17592186044416:=by rw[k];exact tO
 obtain⟨W,l,a,X,Y,R⟩:=gE w [.bool K,.slice q E z,.bool L,.slice r F A] 76 [.bool M,.slice s G B,.bool N,.slice t H C] 76 [.bool false,.slice none 0 0,.bool false,.slice none 0 0] 76;have j:=aa X.g4 (aa Y.g4 R.g4);go_enter func45,ntmps45;go_wp2_with fail;(try rw[l]);clear l;have g:=(m.be a).num;have h:=(n.be a).num;have D:decide (y.num=0)=true:=decide_eq_true k;clear k;refine(g9 x.num _ _ g I).mono ?_;rintro O Q ⟨rfl,e⟩;replace X:=X.be e;replace Y:=Y.be e;replace R:=R.be e;replace j:=aa X.k4 (aa Y.k4 R.g4);replace b:=Keep.be e;replace g:=g.ke b;replace h:=h.ke b;replace a:=aC a e;cases hd:decide (x.num=0) with
 |true=>
  go_wp2_with fail;obtain⟨u,c,R,a,b,d⟩:=R.put4 a (by omega) (.bool false) (.slice none 0 0) (.bool false) (.slice none 0 0) rfl rfl;replace X:=d X (by omega);replace Y:=d Y (by omega);rw[c];clear c;replace j:=aa X.k4 (aa Y.k4 R.k4);exact aM (v:= .agg #[.bool false,.slice none 0 0,.bool false,.slice none 0 0]) (by simp[results,results45,go_sem,R.k4]) rfl ⟨_,rfl,RatAt.of (IntAt.zero _) (IntAt.zero _) (by rw[i.out];rfl) (by rw[i.out];rfl),a⟩
 |false=>
  go_wp2_with fail;refine(g9 y.num _ _ h J).mono ?_;rintro P S ⟨rfl,f⟩;replace X:=X.be f;replace Y:=Y.be f;replace R:=R.be f;replace j:=aa X.k4 (aa Y.k4 R.g4);replace b:=Keep.be f;replace g:=g.ke b;replace h:=h.ke b;replace a:=aC a f;rw[D];go_wp2_with fail;obtain⟨u,c,R,a,b,d⟩:=R.put4 a (by omega) (.bool false) (.slice none 0 0) (.bool false) (.slice none 0 0) rfl rfl;replace X:=d X (by omega);replace Y:=d Y (by omega);rw[c];clear c;replace j:=aa X.k4 (aa Y.k4 R.k4);exact aM (v:= .agg #[.bool false,.slice none 0 0,.bool false,.slice none 0 0]) (by simp[results,results45,go_sem,R.k4]) rfl ⟨_,rfl,RatAt.of (IntAt.zero _) (IntAt.zero _) (by rw[i.out];rfl) (by rw[i.out];rfl),a⟩
def dx0(x y:Rat)(a b:Value)(w:World)(l:Glob w)(f:RatAt w a x)(g:RatAt w b y)(K:Nat)(c:RL K x)(h:RL K y)(e:10*K+20<=aJ):
  Calls prog 45 #[a,b] w (iF w (x*y)):=by
 by_cases d:x.den=1∧y.den=1
 ·have i:x=(x.num:Rat):=Rat.ext (by simp) (by simp[d.1]);have j:y=(y.num:Rat):=Rat.ext (by simp) (by simp[d.2]);have:=cqY x.num y.num a b w (by rw[<-i];exact f) (by rw[<-j];exact g) (by have:=c.1;have:=h.1;unfold aJ at e;omega);rwa [eJ,<-i,<-j] at this
 ·by_cases k:y.num=0
  ·exact cqZ x y a b w f g k (by have:=c.1;unfold aJ at e;omega)
  ·exact UT x y a b w l f g d k K c h e
def IntAt.abs{s:Bool}{n:Int}(h:IntAt w (.agg #[.bool s,u]) n):IntAt w (.agg #[.bool false,u]) (n.natAbs:Int):=by
 obtain⟨b,e,h⟩:=h;injection e with e;have a:=congrArg Array.toList e;simp only[List.cons.injEq] at a;obtain⟨-,rfl, -⟩:=a;exact⟨u,by rw[show decide (((n.natAbs:Nat):Int)<0)=false by simp],by rw[dD];exact h⟩
def J3(x:Int)(i:Value)(w:World)(h:IntAt w i x):Calls prog 38 #[i] w (dW w (x.natAbs:Int)):=by
 obtain⟨m,c,e,d,rfl⟩:=h.form;have a:=h.abs;obtain⟨W,f,b,X,R⟩:=eL w [.bool m,.slice c e d] 60 [.bool false,.slice none 0 0] 60;have j:=aa X.g2 R.g2;go_enter func38,ntmps38;go_wp2_with fail;(try rw[f]);clear f;replace a:=a.be b;obtain⟨n,g,R,b,l,k⟩:=R.put2 b (by omega) (.bool false) (.slice c e d) rfl rfl;replace X:=k X (by omega);replace a:=a.ke l;rw[g];clear g;replace j:=aa X.k2 R.k2;exact aM (v:= .agg #[.bool false,.slice c e d]) (by simp[results,results38,go_sem,R.k2]) rfl ⟨_,rfl,a,b⟩
def UN(x y:Int):(x<0->y<0->bZ (y.natAbs:Int) (x.natAbs:Int)=bZ x y)∧(x<0->¬y<0->bZ x y= -1)∧(¬x<0->y<0->bZ x y=1)∧(¬x<0->¬y<0->bZ (x.natAbs:Int) (y.natAbs:Int)=bZ x y):=by
 refine⟨fun h k=> ?_,fun h k=>jL (by omega),fun h k=>mO (by omega),fun h k=> ?_⟩
 ·have a:=kJ (y.natAbs:Int) (x.natAbs:Int);have b:=kJ x y;omega
 ·rw[show((x.natAbs:Nat):Int)=x by omega,show((y.natAbs:Nat):Int)=y by omega]
def BX(x y:Int)(D E:Value)(w:World)(G:IntAt w D x)(H:IntAt w E y)(B:nl x.natAbs<=17592186044416)(A:nl y.natAbs<=17592186044416):
  Calls prog 96 #[D,E] w (eO w (bZ x y)):=by
 obtain⟨K,rfl,v⟩:=G;obtain⟨L,rfl,z⟩:=H;obtain⟨l,p2,m,n⟩:=UN x y;obtain⟨I,f⟩:∃s,decide (x<0)=s:=⟨_,rfl⟩;obtain⟨C,d⟩:∃s,decide (y<0)=s:=⟨_,rfl⟩;rw[f,d];obtain⟨g,j,rfl, -⟩:=id v;obtain⟨i,k,rfl, -⟩:=id z;obtain⟨R,o⟩:∃R,bZ x y=R:=⟨_,rfl⟩;rw[o] at l p2 m n⊢;have p:=fun W h t=>hO y.natAbs x.natAbs (.slice i (nl y.natAbs) k) (.slice g (nl x.natAbs) j) W h t A B;have q:=fun W h t=>hO x.natAbs y.natAbs (.slice g (nl x.natAbs) j) (.slice i (nl y.natAbs) k) W h t B A;cases I with
 |true=>
  have e:x<0:=of_decide_eq_true f;cases C with
  |true=>
   have c:y<0:=of_decide_eq_true d;rw[l e c] at p;clear l p2 m n q f d o e c;obtain⟨W,b,a,X,Y⟩:=eL w [.bool true,.slice g (nl x.natAbs) j] 60 [.bool true,.slice i (nl y.natAbs) k] 60;have r:=aa X.g2 Y.g2;go_enter func96,ntmps96;go_wp2_with fail;(try rw[b]);clear b;refine(p _ (z.be a) (v.be a)).mono ?_;rintro F J ⟨rfl,u⟩;go_wp2;go_ret;exact⟨rfl,aC a u⟩
  |false=>
   have c:¬y<0:=of_decide_eq_false d;obtain rfl:=p2 e c;clear l p2 m n p q f d o e c;obtain⟨W,b,a,X,Y⟩:=eL w [.bool true,.slice g (nl x.natAbs) j] 60 [.bool false,.slice i (nl y.natAbs) k] 60;have r:=aa X.g2 Y.g2;go_enter func96,ntmps96;go_wp2_with fail;(try rw[b]);clear b;go_ret;exact⟨rfl,a⟩
 |false=>
  have e:¬x<0:=of_decide_eq_false f;cases C with
  |true=>
   have c:y<0:=of_decide_eq_true d;obtain rfl:=m e c;clear l p2 m n p q f d o e c;obtain⟨W,b,a,X,Y⟩:=eL w [.bool false,.slice g (nl x.natAbs) j] 60 [.bool true,.slice i (nl y.natAbs) k] 60;have r:=aa X.g2 Y.g2;go_enter func96,ntmps96;go_wp2_with fail;(try rw[b]);clear b;go_ret;exact⟨rfl,a⟩
  |false=>
   have c:¬y<0:=of_decide_eq_false d;rw[n e c] at q;clear l p2 m n p f d o e c;obtain⟨W,b,a,X,Y⟩:=eL w [.bool false,.slice g (nl x.natAbs) j] 60 [.bool false,.slice i (nl y.natAbs) k] 60;have r:=aa X.g2 Y.g2;go_enter func96,ntmps96;go_wp2_with fail;(try rw[b]);clear b;refine(q _ (v.be a) (z.be a)).mono ?_;rintro F J ⟨rfl,u⟩;go_wp2;go_ret;exact⟨rfl,aC a u⟩
def J4(x:Rat)(d:Value)(w:World)(c:RatAt w d x)(g:nl x.num.natAbs<=17592186044416):
  Calls prog 101 #[d] w (eO w x.num.sign):=by
 obtain⟨m,e,k,h,n,f,l,i,rfl⟩:=c.form;obtain⟨W,b,a,X⟩:=bI w [.bool m,.slice e k h,.bool n,.slice f l i] 76;have o:=X.g4;go_enter func101,ntmps101;go_wp2_with fail;(try rw[b]);clear b;have hn:=(c.be a).num;refine(qG _ _ _ hn g).mono ?_;rintro p q ⟨rfl,j⟩;go_wp2;go_ret;exact⟨rfl,aC a j⟩
def J5(x y:Rat):bZ (x.num*y.den) (y.num*x.den)=(x-y).num.sign:=by
 rcases iY (x-y) with h|h|h
 ·have:x<y:=by grind
  rw[(fS _).2 h,jL ((Rat.lt_iff x y).1 this)]
 ·have:x=y:=by grind
  rw[h,this,wE];rfl
 ·have:y<x:=by grind
  rw[(fS _).1 h,mO ((Rat.lt_iff y x).1 this)]
def UO(a:x.den=1)(b:y.den=1):bZ x.num y.num=(x-y).num.sign:=by
 have:=J5 x y;rwa [a,b,show((1:Nat):Int)=1 from rfl,bx7,bx7] at this
def xB(h:x<0):x.num<0:=by have:=pK (show 0< -x by grind);rw[Rat.neg_num] at this;omega
def UP(h:x.num.sign≠y.num.sign):bZ x.num y.num=(x-y).num.sign:=by
 rcases iY x with a|a|a<;>rcases iY y with b|b|b
 ·rw[(fS x).2 a,(fS y).2 b] at h;exact absurd rfl h
 ·rw[b] at *;rw[show Rat.num 0=0 from rfl];rw[(fS _).2 (show x-0<0 by grind),jL (xB a)]
 ·have:=xB a;have:=pK b
  rw[(fS _).2 (show x-y<0 by grind),jL (by omega)]
 ·rw[a] at *;rw[show Rat.num 0=0 from rfl];rw[(fS _).1 (show 0<0-y by grind),mO (xB b)]
 ·rw[a,b] at h;exact absurd rfl h
 ·rw[a] at *;rw[show Rat.num 0=0 from rfl];rw[(fS _).2 (show 0-y<0 by grind),jL (pK b)]
 ·have:=pK a;have:=xB b
  rw[(fS _).1 (show 0<x-y by grind),mO (by omega)]
 ·rw[b] at *;rw[show Rat.num 0=0 from rfl];rw[(fS _).1 (show 0<x-0 by grind),mO (pK a)]
 ·rw[(fS x).1 a,(fS y).1 b] at h;exact absurd rfl h
def BY(x y:Rat)(vx vy:Value)(w:World)(d:RatAt w vx x)(e:RatAt w vy y)(K:Nat)(bx:RL K x)(bY:RL K y)(hK:4*K+8<=17592186044416):
  Calls prog 48 #[vx,vy] w (eO w (x-y).num.sign):=by
 obtain⟨I,l,G,n,Z,L,S,N,rfl⟩:=d.form;obtain⟨J,m,H,o,s4,M,T,O,rfl⟩:=e.form;have⟨ap,aq⟩:=bx;have⟨ar,au⟩:=bY;have C:=d.den;have E:=e.den;have D:=d.num;have F:=e.num;have av:=mY x;have aw:=mY y;have m1:=gT x.num (y.den:Int) _ _ ap (show nl (y.den:Int).natAbs<=K from au);have m2:=gT y.num (x.den:Int) _ _ ar (show nl (x.den:Int).natAbs<=K from aq);have zx:=fun W h=>g9 (bS x) (.agg #[.bool Z,.slice L S N]) W h (by omega);have k:=fun W h=>g9 (bS y) (.agg #[.bool s4,.slice M T O]) W h (by omega);have t:=fun W h=>J4 x (.agg #[.bool I,.slice l G n,.bool Z,.slice L S N]) W h (by omega);have z:=fun W h=>J4 y (.agg #[.bool J,.slice m H o,.bool s4,.slice M T O]) W h (by omega);have P:=fun W h=>pD x (.agg #[.bool I,.slice l G n,.bool Z,.slice L S N]) W h (by omega);have Q:=fun W h=>pD y (.agg #[.bool J,.slice m H o,.bool s4,.slice M T O]) W h (by omega);have U:=fun W u h A=>jB x.num (y.den:Int) (.agg #[.bool I,.slice l G n]) u W h A (by show nl x.num.natAbs+nl y.den<=_;omega);have V:=fun W u h A=>jB y.num (x.den:Int) (.agg #[.bool J,.slice m H o]) u W h A (by show nl y.num.natAbs+nl x.den<=_;omega);have s:=fun W u v h A=>BX (x.num*y.den) (y.num*x.den) u v W h A (by omega) (by omega);have g:=fun W h A=>BX x.num y.num (.agg #[.bool I,.slice l G n]) (.agg #[.bool J,.slice m H o]) W h A (by omega) (by omega);rw[J5] at s;obtain⟨p,hp⟩:∃p,decide (bS x=0)=p:=⟨_,rfl⟩;obtain⟨q,hq⟩:∃q,decide (bS y=0)=q:=⟨_,rfl⟩;rw[hp] at zx;rw[hq] at k;have hI:p=true->q=true->bZ x.num y.num=(x-y).num.sign:=fun h1 h2=>UO (fV.1 (of_decide_eq_true (hp.trans h1))) (fV.1 (of_decide_eq_true (hq.trans h2)));have hS:x.num.sign≠y.num.sign->bZ x.num y.num=(x-y).num.sign:=UP;obtain⟨r,hr⟩:∃r,(x.num.sign != y.num.sign)=r:=⟨_,rfl⟩;have B:r=true->bZ x.num y.num=(x-y).num.sign:=fun h=>hS (by rw[h] at hr;simpa using hr);unfold dW at P Q U V;unfold eO at t z s g;generalize (x-y).num.sign=R at *;generalize x.num.sign=sx at *;generalize y.num.sign=sy at *;clear hS bx bY ap aq ar au av aw m1 m2 hp hq;obtain⟨W,eW,f,X,Y⟩:=eL w [.bool I,.slice l G n,.bool Z,.slice L S N] 76 [.bool J,.slice m H o,.bool s4,.slice M T O] 76;have cM:=aa X.g4 Y.g4;go_enter func48,ntmps48;go_wp2_with fail;(try rw[eW]);clear eW;replace d:=d.be f;replace e:=e.be f;replace C:=C.be f;replace E:=E.be f;replace D:=D.be f;replace F:=F.be f;cases p with
 |false=>
  clear hI;cases r with
  |true=>
   rw[B rfl] at g;clear B k P Q U V s;have cX:=X.k4;have cY:=Y.k4
   first
    |(go_region_with (first
      |(go_at_call 50;(first|(with_reducible refine(zx _ C.up).mono ?_)|(with_reducible refine(k _ E.up).mono ?_));rintro e5 a ⟨rfl,i⟩;have:=St.mk i;have ad:=(X.up (b:=a)).k4;have af:=(Y.up (b:=a)).k4)
      |(go_at_call 101;(first|(with_reducible refine(t _ d.up).mono ?_)|(with_reducible refine(z _ e.up).mono ?_));rintro e6 c ⟨rfl,j⟩;have:=St.mk j;have ae:=(X.up (b:=c)).k4;have ag:=(Y.up (b:=c)).k4)))
    |fail
   all_goals (
    go_wp2_with fail;refine(g _ D.up F.up).mono ?_;rintro e7 w7 ⟨rfl,ac⟩;have:=St.mk ac;go_wp2;go_ret;exact⟨rfl,bJ (b:=w7) f⟩)
  |false=>
   clear B k g;have cX:=X.k4;have cY:=Y.k4
   first
    |(go_region_with (first
      |(go_at_call 50;(first|(with_reducible refine(zx _ C.up).mono ?_)|(with_reducible refine(k _ E.up).mono ?_));rintro e5 a ⟨rfl,i⟩;have:=St.mk i;have ad:=(X.up (b:=a)).k4;have af:=(Y.up (b:=a)).k4)
      |(go_at_call 101;(first|(with_reducible refine(t _ d.up).mono ?_)|(with_reducible refine(z _ e.up).mono ?_));rintro e6 c ⟨rfl,j⟩;have:=St.mk j;have ae:=(X.up (b:=c)).k4;have ag:=(Y.up (b:=c)).k4)))
    |fail
   all_goals (
    go_wp2_with fail
    go_region_held3 (fun w'=>C4 w' w.1.size (.bool I) (.slice l G n) (.bool Z) (.slice L S N)∧C4 w' (w.1.size+1) (.bool J) (.slice m H o) (.bool s4) (.slice M T O)) (with_reducible exact⟨X.up.k4,Y.up.k4⟩)
     (first
      |(go_at_call 54;first|(with_reducible refine(Q _ e.up).mono ?_;rintro e8 w8 ⟨v8,rfl,h8,am⟩;have:=St.mk am)|(with_reducible refine(P _ d.up).mono ?_;rintro e9 w9 ⟨v9,rfl,h9,an⟩;have:=St.mk an))
      |(go_at_call 34;first|(with_reducible refine(U _ _ D.up h8.up).mono ?_;rintro ax a2 ⟨a0,rfl,ah,aj⟩;have:=St.mk aj)|(with_reducible refine(V _ _ F.up h9.up).mono ?_;rintro ay a3 ⟨a1,rfl,ai,ak⟩;have:=St.mk ak))
      |(go_at_call 96;refine(s _ _ _ ah.up ai.up).mono ?_;rintro az ao ⟨rfl,al⟩;have:=St.mk al))
    all_goals (
     go_wp2;go_ret;exact⟨rfl,bJ (b:=ao) f⟩))
 |true=>
  cases q with
  |false=>
   clear hI;cases r with
   |true=>
    rw[B rfl] at g;clear B P Q U V s;have cX:=X.k4;have cY:=Y.k4
    first
     |(go_region_with (first
       |(go_at_call 50;(first|(with_reducible refine(zx _ C.up).mono ?_)|(with_reducible refine(k _ E.up).mono ?_));rintro e5 a ⟨rfl,i⟩;have:=St.mk i;have ad:=(X.up (b:=a)).k4;have af:=(Y.up (b:=a)).k4)
       |(go_at_call 101;(first|(with_reducible refine(t _ d.up).mono ?_)|(with_reducible refine(z _ e.up).mono ?_));rintro e6 c ⟨rfl,j⟩;have:=St.mk j;have ae:=(X.up (b:=c)).k4;have ag:=(Y.up (b:=c)).k4)))
     |fail
    all_goals (
     go_wp2_with fail;refine(g _ D.up F.up).mono ?_;rintro e7 w7 ⟨rfl,ac⟩;have:=St.mk ac;go_wp2;go_ret;exact⟨rfl,bJ (b:=w7) f⟩)
   |false=>
    clear B g;have cX:=X.k4;have cY:=Y.k4
    first
     |(go_region_with (first
       |(go_at_call 50;(first|(with_reducible refine(zx _ C.up).mono ?_)|(with_reducible refine(k _ E.up).mono ?_));rintro e5 a ⟨rfl,i⟩;have:=St.mk i;have ad:=(X.up (b:=a)).k4;have af:=(Y.up (b:=a)).k4)
       |(go_at_call 101;(first|(with_reducible refine(t _ d.up).mono ?_)|(with_reducible refine(z _ e.up).mono ?_));rintro e6 c ⟨rfl,j⟩;have:=St.mk j;have ae:=(X.up (b:=c)).k4;have ag:=(Y.up (b:=c)).k4)))
     |fail
    all_goals (
     go_wp2_with fail
     go_region_held3 (fun w'=>C4 w' w.1.size (.bool I) (.slice l G n) (.bool Z) (.slice L S N)∧C4 w' (w.1.size+1) (.bool J) (.slice m H o) (.bool s4) (.slice M T O)) (with_reducible exact⟨X.up.k4,Y.up.k4⟩)
      (first
       |(go_at_call 54;first|(with_reducible refine(Q _ e.up).mono ?_;rintro e8 w8 ⟨v8,rfl,h8,am⟩;have:=St.mk am)|(with_reducible refine(P _ d.up).mono ?_;rintro e9 w9 ⟨v9,rfl,h9,an⟩;have:=St.mk an))
       |(go_at_call 34;first|(with_reducible refine(U _ _ D.up h8.up).mono ?_;rintro ax a2 ⟨a0,rfl,ah,aj⟩;have:=St.mk aj)|(with_reducible refine(V _ _ F.up h9.up).mono ?_;rintro ay a3 ⟨a1,rfl,ai,ak⟩;have:=St.mk ak))
       |(go_at_call 96;refine(s _ _ _ ah.up ai.up).mono ?_;rintro az ao ⟨rfl,al⟩;have:=St.mk al))
     all_goals (
      go_wp2;go_ret;exact⟨rfl,bJ (b:=ao) f⟩))
  |true=>
   rw[hI rfl rfl] at g;clear B hI P Q U V s t z;have cX:=X.k4;have cY:=Y.k4
   first
    |(go_region_with (first
      |(go_at_call 50;(first|(with_reducible refine(zx _ C.up).mono ?_)|(with_reducible refine(k _ E.up).mono ?_));rintro e5 a ⟨rfl,i⟩;have:=St.mk i;have ad:=(X.up (b:=a)).k4;have af:=(Y.up (b:=a)).k4)
      |(go_at_call 101;(first|(with_reducible refine(t _ d.up).mono ?_)|(with_reducible refine(z _ e.up).mono ?_));rintro e6 c ⟨rfl,j⟩;have:=St.mk j;have ae:=(X.up (b:=c)).k4;have ag:=(Y.up (b:=c)).k4)))
    |fail
   all_goals (
    go_wp2_with fail;refine(g _ D.up F.up).mono ?_;rintro e7 w7 ⟨rfl,ac⟩;have:=St.mk ac;go_wp2;go_ret;exact⟨rfl,bJ (b:=w7) f⟩)
def UQ(n:Int)(w:World)(k: -9223372036854775808<=n)(a:n<=9223372036854775807):Calls prog 97 #[.int .i64 n] w (iF w (n:Rat)):=by
 obtain⟨W,f,b,R⟩:=bI w [.bool false,.slice none 0 0,.bool false,.slice none 0 0] 76;have e:=R.g4;go_enter func97,ntmps97;go_wp2_with fail;(try rw[f]);clear f;refine(lL n _ k a).mono ?_;rintro o r ⟨q,rfl,a,h⟩;obtain⟨j,c,i,d,rfl⟩:=a.form;replace R:=R.be h;replace b:=aC b h;have e:=R.g4;go_wp2_with fail;obtain⟨m,g,R,b,l,p⟩:=R.put4 b (by omega) (.bool j) (.slice c i d) (.bool false) (.slice none 0 0) rfl rfl;replace a:=a.ke l;rw[g];clear g;replace e:=R.k4;exact aM (v:= .agg #[.bool j,.slice c i d,.bool false,.slice none 0 0]) (by simp[results,results97,go_sem,R.k4]) rfl ⟨_,rfl,RatAt.int a (IntAt.zero _),b⟩
abbrev R2(w:World)(b o:Nat)(a c:Value):Prop:=w.cell? ⟨b,o,none⟩=some a∧w.cell? ⟨b,o+1,none⟩=some c
def R2.up[u:Up a b]{g o:Nat}(h:R2 a g o d e)(c:g<a.1.size):R2 b g o d e:=⟨(u.out.cell (p:=⟨g,o,none⟩) c).trans h.1,(u.out.cell (p:=⟨g,o+1,none⟩) c).trans h.2⟩
def xK{ns:List Int}{a b:Int}(hn:∀n∈ns,n.natAbs<=T)(j:a.natAbs<=T)(k:b.natAbs<=T):(fE ns a b).natAbs<=ns.length*T^ns.length∧(iZ ns a b).natAbs<=T^ns.length:=by
 induction ns with
 |nil=>exact⟨by show(0:Int).natAbs<=_;simp,by show(1:Int).natAbs<=_;simp⟩
 |cons c ns o=>
  obtain⟨i,d⟩:=o (fun n m=>hn n (j8 _ m));have g:fE (c :: ns) a b=fE ns a b*a+c*iZ ns a b:=rfl;have h:iZ (c :: ns) a b=iZ ns a b*b:=rfl;have l:=hn c (iC ..);have e:=aqK i j;have f:=aqK l d;have p:=aqK d k;rw[g,h,eG];constructor
  ·refine aH (bz2 _ _) ?_;rw[fL,fL,aq2,dH];rw[iW] at e;rw[dN T] at f;exact by5 e f
  ·rw[fL,dH];exact p
def xL{t:Nat}(h:t<=65):t*(BN^K)^t<BN^(K*t+1)∧(BN^K)^t<BN^(K*t+1):=by
 rw[<-azL,dH,dN _ BN];have a:0<BN^(K*t):=d7 (by decide);exact⟨bxF (jI h (by decide)) a,by have:=bxF (show 1<BN by decide) a;rwa [aqD] at this⟩
def mS{n:Nat}(h:nl n<=K):n<=BN^K:=iE (aZ (cyD n) (cO (by decide) h))
def CB(ns:List Int)(x:Rat)(v vx:Value)(w:World)(hv:WholeAt w v ns)(F:RatAt w vx x)(K:Nat)(hK:∀n∈ns,nl n.natAbs<=K)(G:RL K x)(hl:ns.length<=65)(bg:140*K+10<=17592186044416):
  Calls prog 49 #[v,vx] w (dW w (fE ns x.num x.den)):=by
 obtain⟨A,c,rfl,hc⟩:=hv.form;obtain⟨s1,A1,k1,c1,s2,H,k2,I,rfl⟩:=F.form;have ai:=fun W h=>UU x (.agg #[.bool s1,.slice A1 k1 c1,.bool s2,.slice H k2 I]) W h;have ag:=fun W h=>pD x (.agg #[.bool s1,.slice A1 k1 c1,.bool s2,.slice H k2 I]) W h (aH G.2 (by omega));unfold dW at ai ag;have ka:=G.1;have kb:nl (x.den:Int).natAbs<=K:=G.2;obtain⟨W,eW,d,X,R,V⟩:=gE w [.bool s1,.slice A1 k1 c1,.bool s2,.slice H k2 I] 76 [.bool false,.slice none 0 0] 60 [.bool false,.slice none 0 0] 60;have q:=aa X.g4 (aa R.g2 V.g2);go_enter func49,ntmps49;go_wp2_with fail;(try rw[eW]);clear eW;replace F:=F.be d;generalize x.num=a at *;generalize (x.den:Int)=b at *;clear G;have bf:=X.lt;go_cut [6,7] (fun s6 s7 p=>∃g6 g7,s6= .pointer (some ⟨g6,0,none⟩)∧s7= .pointer (some ⟨g7,0,none⟩)∧W.1.size<=g6∧W.1.size<=g7∧g6≠g7∧IntBx p g6 (a)∧IntBx p g7 (b)∧Below W.1.size W p)
 case first=>
  go_region_held3 (fun w'=>C4 w' w.1.size (.bool s1) (.slice A1 k1 c1) (.bool s2) (.slice H k2 I))
   (with_reducible exact X.up.k4)
   (first
    |(go_at_call 102;refine(ai _ F.up).mono ?_;rintro e2 w2 ⟨v2,rfl,h2,ac⟩;have l2:=ac.size;(try simp at l2);have:=St.mk ac;obtain⟨s2,H,k2,I,rfl⟩:=h2.form)
    |(go_at_call 54;refine(ag _ F.up).mono ?_;rintro e3 j ⟨v3,rfl,l,ad⟩;have l3:=ad.size;(try simp at l3);have:=St.mk ad;have y:=Up.out (a:=W) (b:=j);have bo:=y.size;have S:=h2.up (b:=j);(try have⟨_,_,_,_,_⟩:=nG W j);(try have⟨_,_,_,_,_⟩:=pH W j);(try have⟨_,_,_,_,_⟩:=nG w2 j);(try have⟨_,_,_,_,_⟩:=pH w2 j);obtain⟨s3,A3,k3,c3,rfl⟩:=l.form))
  all_goals (
   go_wp2;go_meet;refine⟨_,_,rfl,rfl,by omega,by omega,by omega,?_⟩
   first
    |(with_reducible exact tR S l y)
    |(with_reducible exact xF S l y)
    |(with_reducible exact xG S l (zb ‹_›) y (by omega))
    |(with_reducible exact xH (zb ‹_›) S l y (by omega))
    |(with_reducible exact x3 (zb ‹_›) (zb ‹_›) S l (by omega) y (by omega) (by omega)))
 case rest=>
  obtain⟨gn,gd,rfl,rfl,a9,a8,bi,e,f,E⟩:=hcut;have a6:w.1.size+1+1<W.1.size:=V.lt;replace R:=R.be E;replace V:=V.be E;replace d:=aC d E;have bc:=e.lt;have a7:=f.lt;clear ai ag F E X q;have q:=aa R.g2 V.g2;go_wp2_with fail;refine(lL 1 _ (by decide) (by decide)).mono ?_;rintro e4 w4 ⟨v4,rfl,U,s⟩;obtain⟨s4,A4,k4,c4,rfl⟩:=U.form;obtain⟨W5,ar,m,P⟩:=bI w4 [.bool s4,.slice A4 k4 c4] 60;have bb:=s.size;replace R:=(R.be s).be m;replace V:=(V.be s).be m;replace e:=(e.be s).be m;replace f:=(f.be s).be m;replace U:=U.be m;replace d:=(aC d s).trans (m.mono (aC d s).size);replace q:=aa R.g2 (aa V.g2 P.g2);go_wp2_with fail;(try rw[ar]);clear ar;generalize w4.1.size=L at *;have n1:gn≠L:=by omega
  have n2:gd≠L:=by omega
  have n3:w.1.size+1+1<gn:=by omega
  have n4:w.1.size+1+1<gd:=by omega
  have n5:w.1.size+1+1<L:=by omega
  clear bb bc a7 a9 a8 a6 s m;go_loopg [9] ns.length (fun k i wr=>∃z:Int,Hid (z=(k:Int)-1)∧i= .int .i64 z∧k<=ns.length∧Bx wr (w.1.size+1) [.bool false,.slice none 0 0] 60∧IntBx wr (w.1.size+1+1) (fE (ns.drop k) a b)∧IntBx wr gn a∧IntBx wr gd b∧IntBx wr L (iZ (ns.drop k) a b)∧Below w.1.size w wr)
  case atStart=>exact⟨(ns.length:Int)-1,rfl,rfl,aE,R,⟨_,_,_,_,V,by rw[azY];exact IntAt.zero _⟩,e,f,⟨_,_,_,_,P,by rw[azY];exact U⟩,d⟩
  case round=>
   clear R V P e f U d q;obtain⟨z,HZ,rfl,g,R,⟨s5,A5,k5,c5,V,C⟩,⟨s6,A6,k6,c6,N,e⟩,⟨s7,A7,k7,c7,D,f⟩,⟨s8,A8,k8,c8,P,r⟩,d⟩:=hrel;generalize wr=p at *;have q:=aa R.g2 (aa V.g2 (aa N.k2 (aa D.k2 P.g2)));cases gk with
   |zero=>
    have hz:z<0:=by have:=HZ.out;omega
    have bn:¬0<=z:=by omega
    rw[azZ] at C;clear r HZ;go_wp2_with fail;have ao:=R.lt;have ap:=V.lt;have am:=N.lt;have al:=D.lt;have an:=P.lt;have a0:=d.size;obtain⟨W6,J,R,d,g,o⟩:=R.put2 d (by omega) (.bool s5) (.slice A5 k5 c5) rfl rfl;replace V:=o V (by omega);replace N:=o N (by omega);replace D:=o D (by omega);replace P:=o P (by omega);replace C:=C.ke g;rw[J];clear J;replace q:=aa R.k2 (aa V.k2 (aa N.k2 (aa D.k2 P.k2)));exact aM (v:= .agg #[.bool s5,.slice A5 k5 c5]) (by simp[results,results49,go_sem,R.k2]) rfl ⟨_,rfl,C,d⟩
   |succ k=>
    obtain rfl:z=(k:Int):=by have:=HZ.out;omega
    obtain⟨n,hn⟩:∃n,ns[k]? =some n:=⟨_,aR (by omega)⟩;obtain⟨B,s9,A9,k9,c9,rfl,aw,g0,g1,hi⟩:=(hv.be d).at_ hn;have bk:(k:Int)<(ns.length:Int):=by omega
    have bj:(0:Int)<=(k:Int):=by omega
    obtain⟨a2,a3⟩:=WP a b hn;have ae:=xK (ns:=ns.drop (k+1)) (a:=a) (b:=b) (T:=BN^K) (fun n h=>mS (hK n (bxD h))) (mS ka) (mS kb);have bm:=hK n (dG hn);obtain⟨t,ht⟩:∃t,(ns.drop (k+1)).length=t:=⟨_,rfl⟩;have a1:t<=65:=by rw[<-ht,eP];omega
    rw[ht] at ae;obtain⟨a4,a5⟩:=xL (K:=K) a1;have ba:K*t<=65*K:=by rw[dN];exact dK _ a1
    have HV:Hid (0+fE (ns.drop (k+1)) a b*a+n*iZ (ns.drop (k+1)) a b=fE (ns.drop k) a b):=by unfold Hid;rw[a2,bxA]
    have HP:=aB a3;obtain⟨Y',hY⟩:∃Y',fE (ns.drop k) a b=Y':=⟨_,rfl⟩;rw[hY] at HV;have HY:=aB hY;clear a2 a3 ht hn hY;generalize fE (ns.drop (k+1)) a b=Y at *;generalize iZ (ns.drop (k+1)) a b=Q at *;have lY:nl Y.natAbs<=K*t+1:=cJ (jI ae.1 a4);have lQ:nl Q.natAbs<=K*t+1:=cJ (jI ae.2 a5);have m1:Y.natAbs*a.natAbs<BN^(K*t+1+K):=by
     have O:=cyD (Y.natAbs*a.natAbs);exact aZ O (cO (by decide) (aH (fI _ _) (by5 lY ka)))
    have m2:n.natAbs*Q.natAbs<BN^(K*t+1+K):=by
     have O:=cyD (n.natAbs*Q.natAbs);exact aZ O (cO (by decide) (aH (fI _ _) (by omega)))
    have m3:BN^(K*t+1+K)*BN<=BN^(67*K+3):=by rw[<-dH];exact cO (by decide) (by omega)
    have m4:2*BN^(K*t+1+K)<=BN^(K*t+1+K)*BN:=by rw[dN];exact eV _ (by decide)
    obtain⟨ws,es,ax, -⟩:=bI p [.slice none 0 0,.slice none 0 0] 124;have af:=(SumAt.new p (67*K+3)).now;have ay:p.alloc (.cells #[.slice none 0 0,.slice none 0 0] 124)=ws:=es;rw[ay] at af;have:=St.mk ax;have az:=vP p.1.size ws.1.size (67*K+3) 0 0 Y a s5 A5 k5 c5 s6 A6 k6 c6 ws af C.up e.up C.blk e.blk (by omega) (by unfold aJ;omega) (by omega);have aj:=fun W Z h O h2=>vP p.1.size Z (67*K+3) (0+Y.natAbs*a.natAbs) (0+Y*a) n Q s9 A9 k9 c9 s8 A8 k8 c8 W h O h2 hi.blk r.blk (by omega) (by unfold aJ;omega) (by omega);have ak:=fun W Z M h=>AB p.1.size Z (67*K+3) M Y' W h (by unfold aJ;omega);have ah:=fun W v u h h'=>jB Q b v u W h h' (by omega);rw[HV.out] at aj;unfold dW at ak ah;have gr:R2 p B (k*2) (.bool s9) (.slice A9 k9 c9):=⟨g0,g1⟩;clear af ae a4 a5 m1 m2 m3 m4 lY lQ ba ay g0 g1;have cX:=aa (V.up (b:=ws)).k2 (N.up (b:=ws)).k2;go_wp2_with fail;(try rw[es]);clear es;refine az.mono ?_;rintro e1 w1 ⟨rfl,au,E, -⟩;have:=St.mk (ax.trans E);have bh:=aw;clear az;go_wp2_with fail
    go_region_held3 (fun w'=>R2 w' B (k*2) (.bool s9) (.slice A9 k9 c9)∧C2 w' L (.bool s8) (.slice A8 k8 c8)) (with_reducible exact⟨gr.up aw,P.up.k2⟩)
     (first
      |(go_at_call 79;refine(aj _ _ (au.be Up.out) hi.up r.up).mono ?_;rintro e2 w2 ⟨rfl,av,ac, -⟩;have:=St.mk ((Up.out (a:=p)).trans ac)))
    all_goals (
     clear aj au cX;go_wp2_with fail;refine(ak _ _ _ av).mono ?_;rintro e3 j ⟨v3,rfl,l,ad⟩;obtain⟨s3,A3,k3,c3,rfl⟩:=l.form;have:=St.mk ad;replace R:=R.up (b:=j);replace V:=V.up (b:=j);replace N:=N.up (b:=j);replace D:=D.up (b:=j);replace P:=P.up (b:=j);replace e:=e.up (b:=j);replace f:=f.up (b:=j);replace r:=r.up (b:=j);replace d:=bJ (b:=j) d;replace q:=aa R.g2 (aa V.g2 (aa N.k2 (aa D.k2 P.g2)));clear ak av;go_wp2_with fail;have ao:=R.lt;have ap:=V.lt;have am:=N.lt;have al:=D.lt;have an:=P.lt;have a0:=d.size;obtain⟨W4,aq,V,d,g,o⟩:=V.put2 d (by omega) (.bool s3) (.slice A3 k3 c3) rfl rfl;replace R:=o R (by omega);replace N:=o N (by omega);replace D:=o D (by omega);replace P:=o P (by omega);replace l:=l.ke g;replace e:=e.ke g;replace f:=f.ke g;replace r:=r.ke g;rw[aq];clear aq;replace q:=aa R.g2 (aa V.g2 (aa N.k2 (aa D.k2 P.g2)));refine(ah _ _ _ r f).mono ?_;rintro e5 w5 ⟨v5,rfl,h5,m⟩;obtain⟨sx,Ax,G,cx,rfl⟩:=h5.form;replace R:=R.be m;replace V:=V.be m;replace N:=N.be m;replace D:=D.be m;replace P:=P.be m;replace q:=aa R.g2 (aa V.g2 (aa N.k2 (aa D.k2 P.g2)));replace g:=Keep.be m;replace l:=l.ke g;replace e:=e.ke g;replace f:=f.ke g;replace d:=aC d m;clear ah;go_wp2_with fail;have ao:=R.lt;have ap:=V.lt;have am:=N.lt;have al:=D.lt;have an:=P.lt;have a0:=d.size;obtain⟨W6,J,P,d,g,o⟩:=P.put2 d (by omega) (.bool sx) (.slice Ax G cx) rfl rfl;replace R:=o R (by omega);replace V:=o V (by omega);replace N:=o N (by omega);replace D:=o D (by omega);replace h5:=h5.ke g;replace l:=l.ke g;replace e:=e.ke g;replace f:=f.ke g;rw[J];clear J;replace q:=aa R.k2 (aa V.k2 (aa N.k2 (aa D.k2 P.k2)));go_roundg k
     case rel=>exact⟨(k:Int)-1,rfl,by first|rfl|go_num,by omega,R,⟨_,_,_,_,V,by rw[HY.out];exact l⟩,⟨_,_,_,_,N,e⟩,⟨_,_,_,_,D,f⟩,⟨_,_,_,_,P,by rw[HP.out];exact h5⟩,d⟩
     case measure=>omega)
def J1(w:World)(l:List UInt8)(d:Int)(e:Ending)(w':World):Prop:=∃v,e= .returned (.tuple #[v,.bool (nJ l)])∧EndAt w' v (lC l d) (m5 l)∧Below w.1.size w w'
def BW(w:World):RatAt w (.agg #[.bool false,.slice none 0 0,.bool false,.slice none 0 0]) 0:=RatAt.of (IntAt.zero _) (IntAt.zero _) rfl rfl
def J2(l:List UInt8)(d:Int)(w:World)(r:Glob w)(C:l.length<=1073741824):Calls prog 67 #[.string ⟨l.toArray⟩,.int .i64 d] w (J1 w l d):=by
 have D:=fun W r=>wU l W r C;by_cases g:l=[]
 ·have c:Hid (lC l d=d∧m5 l=0∧nJ l=true):=by unfold Hid lC m5 nJ;simp[g]
  subst g;obtain⟨W,f,b,R⟩:=bI w [.bool false,.slice none 0 0,.bool false,.slice none 0 0,.int .i64 0] 107;have u:=R.g5;go_enter func67,ntmps67;go_wp2_with fail;(try rw[f]);clear f;obtain⟨A,e,R,b,z,B⟩:=R.put5 b (by omega) (.bool false) (.slice none 0 0) (.bool false) (.slice none 0 0) (.int .i64 d) rfl rfl;rw[e];clear e;refine aM (v:= .tuple #[.agg #[.bool false,.slice none 0 0,.bool false,.slice none 0 0,.int .i64 d],.bool true]) (by simp[results,results67,go_sem,R.k5]) rfl ⟨.agg #[.bool false,.slice none 0 0,.bool false,.slice none 0 0,.int .i64 d],by rw[c.out.2.2],by rw[c.out.1,c.out.2.1];exact EndAt.of (BW _),b⟩
 ·have c:Hid (lC l d=0∧m5 l=(cL l).getD 0∧nJ l=(cL l).isSome):=by unfold Hid lC m5 nJ;simp[g];rfl
  have G:l.isEmpty=false:=by cases l with
   |nil=>exact absurd rfl g
   |cons a t=>rfl
  clear g;obtain⟨W,f,b,R⟩:=bI w [.bool false,.slice none 0 0,.bool false,.slice none 0 0,.int .i64 0] 107;have u:=R.g5;go_enter func67,ntmps67;go_wp2_with fail;(try rw[f]);clear f;refine(D _ (r.be b)).mono ?_;rintro F E ⟨I,rfl,m,y⟩;obtain⟨p,h,n,j,q,i,o,k,rfl⟩:=m.form;replace R:=R.be y;have H:=R.lt;replace b:=aC b y;obtain⟨J,x,s,P⟩:=bI E [.bool p,.slice h n j,.bool q,.slice i o k] 76;replace R:=R.be s;replace m:=m.be s;replace b:=aC b s;have u:=aa R.g5 P.k4;go_wp2_with fail;(try rw[x]);clear x;obtain⟨A,e,R,b,z,B⟩:=R.put5 b (by omega) (.bool p) (.slice h n j) (.bool q) (.slice i o k) (.int .i64 0) rfl rfl;rw[e];clear e;refine aM (v:= .tuple #[.agg #[.bool p,.slice h n j,.bool q,.slice i o k,.int .i64 0],.bool (cL l).isSome]) (by simp[results,results67,go_sem,R.k5]) rfl ⟨.agg #[.bool p,.slice h n j,.bool q,.slice i o k,.int .i64 0],by rw[c.out.2.2],by rw[c.out.1,c.out.2.1];exact EndAt.of (m.ke z),b⟩
def UL(i j:Int)(x y:Rat)(v u:Value)(w:World)(s:EndAt w v i x)(t:EndAt w u j y)(hi: -1<=i∧i<=1)(R: -1<=j∧j<=1)(K:Nat)(N:RL K x)(O:RL K y)(L:4*K+8<=17592186044416):
  Calls prog 146 #[v,u] w fun e w'=>e= .returned (.bool (jO i x j y))∧Below w.1.size w w':=by
 obtain⟨D,f,z,m,E,g,A,n,rfl⟩:=s.form;obtain⟨F,k,B,o,G,l,C,p,rfl⟩:=t.form;replace s:=s.rat;replace t:=t.rat;have d:=fun W h J=>BY x y (.agg #[.bool D,.slice f z m,.bool E,.slice g A n]) (.agg #[.bool F,.slice k B o,.bool G,.slice l C p]) W h J K N O L;by_cases r:i=j
 ·subst r;have T:(i != i)=false:=by simp
  by_cases q:i=0
  ·subst q;have c:Hid (jO 0 x 0 y=decide ((x-y).num.sign<0)):=by
    unfold Hid jO;rw[if_neg (by simp)];rcases iY (x-y) with h|h|h
    ·rw[(fS _).2 h,decide_eq_true (show x<y by grind)];rfl
    ·rw[h,decide_eq_false (show¬x<y by grind)];rfl
    ·rw[(fS _).1 h,decide_eq_false (show¬x<y by grind)];rfl
   obtain⟨S,I⟩:∃S,(x-y).num.sign=S:=⟨_,rfl⟩;rw[I] at d c;unfold eO at d;clear I;obtain⟨W,b,a,X,Y⟩:=eL w [.bool D,.slice f z m,.bool E,.slice g A n,.int .i64 0] 107 [.bool F,.slice k B o,.bool G,.slice l C p,.int .i64 0] 107;have H:=aa X.g5 Y.g5;go_enter func146,ntmps146;go_wp2_with fail;(try rw[b]);clear b;refine(d _ (s.be a) (t.be a)).mono ?_;rintro Q V ⟨rfl,M⟩;replace a:=aC a M;go_wp2;go_ret;exact⟨by rw[c.out];rfl,a⟩
  ·have c:Hid (jO i x i y=false):=by unfold Hid jO;rw[if_pos (.inr q)];simp
   have P:(i != 0)=true:=by simpa using q
   have U:¬i<i:=by omega
   clear q d;obtain⟨W,b,a,X,Y⟩:=eL w [.bool D,.slice f z m,.bool E,.slice g A n,.int .i64 i] 107 [.bool F,.slice k B o,.bool G,.slice l C p,.int .i64 i] 107;have H:=aa X.g5 Y.g5;go_enter func146,ntmps146;go_wp2_with fail;(try rw[b]);clear b;go_ret;exact⟨by rw[c.out];simp,a⟩
 ·have c:Hid (jO i x j y=decide (i<j)):=by unfold Hid jO;rw[if_pos (.inl r)]
  have P:(i != j)=true:=by simpa using r
  clear r d;obtain⟨W,b,a,X,Y⟩:=eL w [.bool D,.slice f z m,.bool E,.slice g A n,.int .i64 i] 107 [.bool F,.slice k B o,.bool G,.slice l C p,.int .i64 j] 107;have H:=aa X.g5 Y.g5;go_enter func146,ntmps146;go_wp2_with fail;(try rw[b]);clear b;go_ret;exact⟨by rw[c.out];rfl,a⟩
def UM(i:Int)(x:Rat)(a:List Int)(v u:Value)(w:World)(I:EndAt w v i x)(s:WholeAt w u a)(hi: -1<=i∧i<=1)(f:a≠[])(hl:a.length<=65)(K:Nat)(O:∀n∈a,nl n.natAbs<=K)(J:RL K x)(ad:140*K+10<=17592186044416):
  Calls prog 114 #[v,u] w (eO w (aP a i x)):=by
 obtain⟨E,o,C,q,F,p,D,r,rfl⟩:=I.form;obtain⟨A,c,rfl,hc⟩:=s.form;replace I:=I.rat;have t:=fun W h h'=>CB a x (.slice A a.length c) (.agg #[.bool E,.slice o C q,.bool F,.slice p D r]) W h h' K O J hl ad;have Y:=xK (ns:=a) (a:=x.num) (b:=x.den) (T:=BN^K) (fun n h=>mS (O n h)) (mS J.1) (mS J.2);have ac:nl (fE a x.num x.den).natAbs<=K*65+1:=by
  refine cJ (jI Y.1 (aZ (xL (by omega)).1 (cO (by decide) ?_)));have:=eV K (show a.length<=65 by omega);omega
 have z:=fun W u h=>qG (fE a x.num x.den) u W h (by omega);have y:=fun W h=>wS a (.slice A a.length c) W h f (by omega);have af:=List.length_pos_iff.2 f;have bl:=iU O (a.length-1);have B:=fun W u h=>qG (cf a (a.length-1)) u W h (by omega);have G:=fun W=>JO a.length c A W (by omega);unfold dW at t y;unfold eO;have S1:=qU (cf a (a.length-1));obtain⟨S,P⟩:∃S,(cf a (a.length-1)).sign=S:=⟨_,rfl⟩;obtain⟨T,Q⟩:∃T,(fE a x.num x.den).sign=T:=⟨_,rfl⟩;have k:Hid (aP a i x=if i=0 then T else if i<0∧a.length%2=0 then -S else S):=by unfold Hid aP;rw[P,Q]
 rw[P] at S1 B;rw[Q] at z;clear Y ac bl P Q f J;generalize fE a x.num x.den=hv at *;generalize cf a (a.length-1)=cl at *;by_cases f:i=0
 ·subst f;have l:Hid (aP a 0 x=T):=by unfold Hid;rw[k.out,if_pos rfl]
  clear y B G k;obtain⟨W,e,d,X⟩:=bI w [.bool E,.slice o C q,.bool F,.slice p D r,.int .i64 0] 107;have L:=X.g5;go_enter func114,ntmps114;go_wp2_with fail;(try rw[e]);clear e;refine(t _ (s.be d) (I.be d)).mono ?_;rintro M U ⟨R,rfl,m,g⟩;replace d:=aC d g;go_wp2_with fail;refine(z _ _ m).mono ?_;rintro N V ⟨rfl,j⟩;go_wp2;go_ret;exact⟨by rw[l.out];rfl,aC d j⟩
 ·have ae:i= -1∨i=1:=by omega
  rcases ae with rfl|rfl
  ·by_cases H:a.length%2=0
   ·have l:Hid (aP a (-1) x= -S):=by unfold Hid;rw[k.out,if_neg f,if_pos ⟨by decide,H⟩]
    have r0:((a.length:Int)-1).tmod 2=1:=by rw[bz3 (by omega)];omega
    clear t z k H f;obtain⟨W,e,d,X⟩:=bI w [.bool E,.slice o C q,.bool F,.slice p D r,.int .i64 (-1)] 107;have L:=X.g5;go_enter func114,ntmps114;go_wp2_with fail;(try rw[e]);clear e;refine(y _ (s.be d)).mono ?_;rintro M U ⟨R,rfl,m,g⟩;replace X:=X.be g;replace d:=aC d g;go_wp2_with fail;refine(B _ _ m).mono ?_;rintro N V ⟨rfl,j⟩;replace X:=X.be j;replace d:=aC d j;have Z:=X.k5;go_wp2_with fail;refine(G _).mono ?_;rintro e3 w3 ⟨rfl,rfl⟩;go_wp2;go_ret;exact⟨by rw[l.out];rfl,d⟩
   ·have l:Hid (aP a (-1) x=S):=by unfold Hid;rw[k.out,if_neg f,if_neg (fun h=>H h.2)]
    have r0:((a.length:Int)-1).tmod 2=0:=by rw[bz3 (by omega)];omega
    clear t z k H f;obtain⟨W,e,d,X⟩:=bI w [.bool E,.slice o C q,.bool F,.slice p D r,.int .i64 (-1)] 107;have L:=X.g5;go_enter func114,ntmps114;go_wp2_with fail;(try rw[e]);clear e;refine(y _ (s.be d)).mono ?_;rintro M U ⟨R,rfl,m,g⟩;replace X:=X.be g;replace d:=aC d g;go_wp2_with fail;refine(B _ _ m).mono ?_;rintro N V ⟨rfl,j⟩;replace X:=X.be j;replace d:=aC d j;have Z:=X.k5;go_wp2_with fail;refine(G _).mono ?_;rintro e3 w3 ⟨rfl,rfl⟩;go_wp2;go_ret;exact⟨by rw[l.out];rfl,d⟩
  ·have l:Hid (aP a 1 x=S):=by unfold Hid;rw[k.out,if_neg f,if_neg (fun h=>absurd h.1 (by decide))]
   clear t z G k f;obtain⟨W,e,d,X⟩:=bI w [.bool E,.slice o C q,.bool F,.slice p D r,.int .i64 1] 107;have L:=X.g5;go_enter func114,ntmps114;go_wp2_with fail;(try rw[e]);clear e;refine(y _ (s.be d)).mono ?_;rintro M U ⟨R,rfl,m,g⟩;replace X:=X.be g;replace d:=aC d g;go_wp2_with fail;refine(B _ _ m).mono ?_;rintro N V ⟨rfl,j⟩;replace X:=X.be j;replace d:=aC d j;have Z:=X.k5;go_wp2;go_ret;exact⟨by rw[l.out];rfl,d⟩
end Go.Proofs.YtjgbleapffgbcaaGreatDoor
namespace Go.Proofs.YtjgbleapffgbcaaGreatDoor
open Sos
variable{g s w:List Int}
def cyF:List Int->Int->Int
 |[],_=>0
 |a :: l,k=>a+k*cyF l k
def bzZ(l:List Int)(k:Int):aX l (k:Rat)=((cyF l k:Int):Rat):=by
 unfold aX;induction l with
 |nil=>rfl
 |cons a l b=>
  show aI (aT 1 l) k*k+1*(a:Rat)=((a+k*cyF l k:Int):Rat)
  rw[b,aqE,eJ];grind
def azX:List Int->Int->List Int
 |[],_=>[]
 |[_],_=>[]
 |_ :: b :: l,k=>cyF (b :: l) k :: azX (b :: l) k
def bq9:∀(l:List Int) (k:Int),(azX l k).length=l.length-1
 |[],_=>rfl
 |[_],_=>rfl
 |_ :: b :: l,k=>by
  show(azX (b :: l) k).length+1=_
  rw[bq9 (b :: l) k];simp
def bqA:∀(l:List Int) (k x:Int),cyF l x=cyF l k+(x-k)*cyF (azX l k) x
 |[],_,_=>by show(0:Int)=0+_*0;omega
 |[a],k,x=>by show a+x*0=(a+k*0)+(x-k)*0;omega
 |a :: b :: l,k,x=>by
  have h:=bqA (b :: l) k x;show a+x*cyF (b :: l) x=(a+k*cyF (b :: l) k)+(x-k)*(cyF (b :: l) k+x*cyF (azX (b :: l) k) x)
  rw[h];grind
def bqB:∀(l:List Int) (k:Int) (j:Nat),cf l j=(if j=0 then cyF l k else cf (azX l k) (j-1))-k*cf (azX l k) j
 |[],k,j=>by
  rw[show azX [] k=[] from rfl,eR,eR];show(0:Int)=(if j=0 then 0 else cf [] (j-1))-k*0
  rw[eR];split<;>omega
 |[a],k,j=>by
  rw[show azX [a] k=[] from rfl,eR,eR];cases j with
  |zero=>show a=(if 0=0 then a+k*0 else 0)-k*0;rw[if_pos rfl];omega
  |succ j=>rw[if_neg (by omega),bV (l:=[a]) (by show 1<=j+1;omega)];omega
 |a :: b :: l,k,j=>by
  have h:=bqB (b :: l) k;cases j with
  |zero=>
   show a=(if 0=0 then a+k*cyF (b :: l) k else _)-k*cyF (b :: l) k
   rw[if_pos rfl];omega
  |succ j=>
   rw[if_neg (by omega)];show cf (b :: l) j=cf (cyF (b :: l) k :: azX (b :: l) k) j-k*cf (azX (b :: l) k) j
   rw[h j];cases j with
   |zero=>rfl
   |succ j=>rfl
def cx6:∀(m R V:Nat) (f:List Int),f.length<=m+1->(∀i,i<=m->(cyF f ((R+i:Nat):Int)).natAbs<=V)->∀j,(cf f j).natAbs<=V*(2*(R+m+2))^m:=by
 intro m;induction m with
 |zero=>
  intro R V f g hv j;rw[bx0,az9];have k:=hv 0 (mC 0);match f,g with
  |[],_=>rw[eR];exact dC _
  |[a],_=>
   cases j with
   |zero=>show a.natAbs<=V;have e:cyF [a] ((R+0:Nat):Int)=a:=by show a+_*0=a;omega
          rwa [e] at k
   |succ j=>rw[bV (by show 1<=j+1;omega)];exact dC _
 |succ m s=>
  intro R V f g hv j
  have c:=s (R+1) (2*V) (azX f (R:Int)) (by rw[bq9];omega) (fun i v=>by
   have l:=hv 0 (by omega);have t:=hv (i+1) (by omega);have e:=bqA f (R:Int) ((R+(i+1):Nat):Int);rw[gQ] at l;have h:(((R+(i+1):Nat):Int)-(R:Int))=((i+1:Nat):Int):=by omega
   rw[h] at e;rw[show R+1+i=R+(i+1) by omega];generalize cyF (azX f (R:Int)) ((R+(i+1):Nat):Int)=q at *;have d:(((i+1:Nat):Int)*q).natAbs<=2*V:=by omega
   rw[fL,dD] at d;have:=byT q.natAbs (show 0<i+1 by omega);omega)
  obtain⟨P,b⟩:∃P,(2*(R+1+m+2))^m=P:=⟨_,rfl⟩;have n:1<=P:=by rw[<-b];exact d7 (by omega)
  rw[b] at c;have u:V<=2*V*P:=by
   have:=by7 (2*V) n;omega
  have o:=hv 0 (by omega);rw[gQ] at o;have r:=c j;have p:V*(2*(R+(m+1)+2))^(m+1)=(R+m+3)*(2*V*P):=by
   rw[dH,show R+(m+1)+2=R+1+m+2 by omega,b];rw[show R+1+m+2=R+m+3 by omega];grind
  rw[p,bqB f (R:Int) j];have w:((R:Int)*cf (azX f (R:Int)) j).natAbs<=R*(2*V*P):=by
   rw[fL,dD];exact eV _ r
  have x:(R+m+3)*(2*V*P)=R*(2*V*P)+(m+3)*(2*V*P):=by rw[show R+m+3=R+(m+3) by omega,aqA]
  have d:2*V*P<=(m+3)*(2*V*P):=byT _ (by omega);split
  ·omega
  ·have:=c (j-1);omega
def bqC(H k:Nat):∀l:List Int,(∀n∈l,n.natAbs<=H)->(cyF l (k:Int)).natAbs<=H*(1+k)^l.length
 |[],_=>by show(0:Int).natAbs<=_;exact dC _
 |a :: l,h=>by
  have c:=bqC H k l (fun n hn=>h n (j8 _ hn));have g:=h a iC;show(a+(k:Int)*cyF l k).natAbs<=H*(1+k)^(l.length+1)
  have d:((k:Int)*cyF l k).natAbs<=k*(H*(1+k)^l.length):=by rw[fL,dD];exact eV _ c
  have b:1<=(1+k)^l.length:=d7 (by omega);have f:H*1<=H*(1+k)^l.length:=eV _ b;have e:H*(1+k)^(l.length+1)=H*(1+k)^l.length+k*(H*(1+k)^l.length):=by rw[dH];grind
  rw[e];omega
def bqD(H k:Nat)(c:H<k):∀l:List Int,l≠[]->aN l->(∀n∈l,n.natAbs<=H)->1<=(cyF l (k:Int)).natAbs
 |[],h,_,_=>absurd rfl h
 |[a],_,t,_=>by
  have:=t a rfl;have e:cyF [a] (k:Int)=a:=by show a+_*0=a;omega
  rw[e];omega
 |a :: b :: l,_,t,h=>by
  have f:=bqD H k c (b :: l) (by simp) (fun x d=>t x (by rw[bxY];exact d)) (fun n hn=>h n (j8 _ hn));have i:=h a iC;show 1<=(a+(k:Int)*cyF (b :: l) k).natAbs
  have g:k*1<=((k:Int)*cyF (b :: l) k).natAbs:=by rw[fL,dD];exact eV _ f
  omega
def cx7{H:Nat}(c:w≠[])(l:aN w)(b:∀n∈w,n.natAbs<=H)(f:∀i,cf w i=conv (cf s) (cf g) i)(p:s.length<=w.length)(j:Nat):(cf s j).natAbs<=H*(H+w.length+2)^w.length*(2*(H+w.length+3))^w.length:=by
 have q:=List.length_pos_iff.2 c;refine aH (cx6 w.length (H+1) (H*(H+w.length+2)^w.length) s (by omega) (fun i o=> ?_) j) (eV _ (aqN (by omega) _));have d:=bqC H (H+1+i) w b;have a:=bqD H (H+1+i) (by omega) w c l b;have r:H*(1+(H+1+i))^w.length<=H*(H+w.length+2)^w.length:=eV _ (aqN (by omega) _);have k:cyF w ((H+1+i:Nat):Int)=cyF s ((H+1+i:Nat):Int)*cyF g ((H+1+i:Nat):Int):=by
  have:=sH (A:=w) (Q:=s) (B:=g) (C:=[]) (m:=1) (fun i=>by rw[eR,az5,f];omega) ((((H+1+i:Nat):Int)):Rat);rw[bxS,DS,bzZ,bzZ,bzZ,<-eJ,bx3,azF] at this;exact Rat.intCast_inj.1 this
 rw[k,fL] at d a;have e:1<=(cyF g ((H+1+i:Nat):Int)).natAbs:=by
  rcases iB (cyF g ((H+1+i:Nat):Int)).natAbs with h|h
  ·rw[h,azP] at a;omega
  ·exact h
 have:=by7 (cyF s ((H+1+i:Nat):Int)).natAbs e;omega
def cx8{K N:Nat}(m:w≠[])(o:aN w)(d:∀n∈w,nl n.natAbs<=K)(e:∀i,cf w i=conv (cf s) (cf g) i)(k:s.length<=w.length)(a:w.length<=N)(p:N<=1000):∀n∈s,nl n.natAbs<=K+2*N*(K+1)+1:=fun n hn=>by
 obtain⟨j,f,rfl⟩:=List.mem_iff_getElem.1 hn;have h:=cx7 m o (H:=BN^K) (fun n hn=>iE (aZ (cyD n.natAbs) (cO (by unfold BN;decide) (d n hn)))) e k j;rw[fZ f] at h;refine cJ (jI h ?_);have q:1<=BN^K:=d7 (by unfold BN;decide);have l:2*(BN^K+w.length+3)<=BN^(K+1):=by
  rw[dH];have:BN^K*4000<=BN^K*BN:=eV _ (by unfold BN;decide);omega
 have b:(BN^K+w.length+2)^w.length<=BN^((K+1)*N):=by
  rw[azL];exact aH (aqN (by omega) _) (cO (d7 (by unfold BN;decide)) a)
 have c:(2*(BN^K+w.length+3))^w.length<=BN^((K+1)*N):=by
  rw[azL];exact aH (aqN l _) (cO (d7 (by unfold BN;decide)) a)
 refine jI (aqK (eV _ b) c) ?_;rw[<-KF,<-KF];exact by9 (by unfold BN;decide) (by rw[iW,dN N (K+1)];omega)
end Go.Proofs.YtjgbleapffgbcaaGreatDoor
namespace Go.Proofs.YtjgbleapffgbcaaGreatDoor
open Go.RowKit Sos Tryz
variable{P g l p s:List Int}{a b w:World}{B:Nat}
def cx5(l:p≠[])(o:aN p)(m:aN g)(d:g≠[])(b:∀n∈p,nl n.natAbs<=9)(a:∀i,cf p i=conv (cf s) (cf g) i)(r:s.length+g.length=p.length+1)(j:p.length<=7):Sz s:=by
 have q:=List.length_pos_iff.2 d;refine⟨by omega,?_⟩;by_cases c:g.length=1
 ·obtain⟨y,rfl⟩:=List.length_eq_one_iff.1 c;have t:=m y rfl;refine .inl (fun n hn=> ?_);obtain⟨i,f,rfl⟩:=List.mem_iff_getElem.1 hn;have h:∀k,cf [y] k=if k=0 then y else 0:=fun k=>by
   cases k with
   |zero=>rfl
   |succ k=>rw[bV (by simp)];rfl
  have e:=a i;rw[sO,gL h (fun _=>rfl),qE,if_pos (dC _),byA,fZ f] at e;have k:=iU b i;rw[e,fL] at k;exact aH (cK (byT s[i].natAbs (show 0<y.natAbs by omega))) k
 ·refine .inr ⟨by omega,fun n hn=> ?_⟩;exact aH (cx8 l o b a (by omega) j (by decide) n hn) (by decide)
def dxZ(b:List Int)(K:Nat)(v:Value)(w:World)(q:Glob w)(hv:WholeAt w v b)(t:aN b)(B:b≠[])(hl:b.length<=7)(O:∀n∈b,nl n.natAbs<=K)(ag:K<=1048576)(m:∀n∈aS b,nl n.natAbs<=9):
  Calls prog 36 #[v] w fun e w'=>∃Z s,e= .returned Z∧WholeAt w' Z s∧Sqp 24057 (aS b) s∧Sz s∧Below w.1.size w w':=by
 obtain⟨A,c,rfl,hc⟩:=hv.form;have X:=qQ b _ w q hv t K O (by unfold aJ;omega) (by omega);have V:=dF b;have l:=Q5 t;have E:=xZ (nI t B);have r:aS b≠[]:=fun e=>B (bX (by rw[<-V,e];rfl));generalize aS b=p at *;have ae:p.length<=7:=by omega
 have R:=fun W v h=>JN p v W h 9 m (by unfold aJ;decide) (by omega);have D:=pL m (by omega);have ad:=lZ p;have F:=lE l;have Y:11*(p.length-(bB p).length+2)*3^(bB p).length<=24057:=by
  have a:=List.length_pos_iff.2 r;have f:∀x,x<=6->11*3*3^x<=24057:=by decide
  rw[show p.length-(bB p).length+2=3 by omega];exact f _ (by omega)
 have T:=fun W v u q a f=>XV p (bB p) v u W q a f l F 10 24057 (fun n hn=>aH (m n hn) (by decide)) D (by decide) (fun h=>absurd h (by omega)) (fun _=>Y) (by unfold aJ;decide) (by omega) (by omega);have S:∀g,pO 24057 p (bB p) g->∃s,Sqp 24057 p s∧Sz s∧g≠[]∧aN g∧(∀n∈g,nl n.natAbs<=24057)∧g.length<=8∧∀i,cf p i=conv (cf s) (cf g) i:=fun g k=>by
  unfold pO at k;rw[if_neg (by omega),XC E] at k;obtain⟨y,o2,o3⟩:=y5 k (by decide) l (Q5 F) (fun n hn=>aH (m n hn) (by decide)) (gU (fun n hn=>aH (D n hn) (by decide)));rw[dF] at o3;obtain⟨I,o,s,J,L,M,z⟩:=XD r l E k y;exact⟨s,⟨⟨g,k,o,y,I,M,z⟩,J,L⟩,cx5 r l y o m z M ae,o,y,o2,by omega,z⟩
 clear D ad F Y E r O B t V;generalize bB p=d at *;go_enter func36,ntmps36;go_wp2_with fail;refine X.mono ?_;rintro I w1 ⟨v1,rfl,a,j⟩;obtain⟨A1,c1,rfl,ah⟩:=a.form;clear X;go_wp2_with fail;refine(R _ _ a).mono ?_;rintro o w2 ⟨v2,rfl,f,P⟩;obtain⟨A2,c2,rfl,ai⟩:=f.form;replace a:=a.be P;replace j:=aC j P;clear R;go_wp2_with fail;refine(T _ _ _ (q.be j) a f).mono ?_;rintro J w3 ⟨v3,g,rfl,N,k,Q⟩;obtain⟨A3,c3,rfl,aj⟩:=N.form;replace a:=a.be Q;replace j:=aC j Q;obtain⟨s,C,G,g0,tg,kg,lg,U⟩:=S g k;have af:=fun W a f=>YI s p g (.slice A1 p.length c1) (.slice A3 g.length c3) W a f g0 C.ts l tg U 24057 (fun n hn=>aH (G.nums n hn) (by decide)) kg (by unfold aJ;decide) (by omega) (by omega);have H:=aB (And.intro C G);clear k S T f C G U l m;go_wp2_with fail;refine(af _ a N).mono ?_;rintro L w4 ⟨v4,rfl,h4,ac⟩;go_wp2;go_ret;exact⟨_,s,rfl,h4,H.out.1,H.out.2,aC j ac⟩
def CZ(a:List Int)(v:Value)(w:World)(f:Glob w)(hv:WholeAt w v a)(h:aN a)(d:a≠[])(g:a.length<=7)(b:∀n∈a,nl n.natAbs<=9):
  Calls prog 36 #[v] w fun e w'=>∃c s,e= .returned c∧WholeAt w' c s∧Sqp 24057 (aS a) s∧Sz s∧Below w.1.size w w':=dxZ a 9 v w f hv h d g b (by decide) (gU b)
def WsAt.one{A:Option Addr}{k c:Nat}(h:WholeAt w (.slice A k c) l)(d:B<=w.1.size):WsAt (w.alloc (.cells #[.slice A k c] 64)) B 64 (.slice (some ⟨w.1.size,0,none⟩) 1 1) [l]:=by
 refine⟨[.slice A k c],.inr ⟨w.1.size,1,#[.slice A k c],rfl,d,heap_alloc_new w _,aE,by decide,rfl,rfl,fun u a=> ?_⟩,rfl,fun i u e a b=> ?_⟩
 ·exact⟨A,k,c,by simpa using a⟩
 ·cases i with
  |zero=>
   injection a with a;injection b with b;subst a b;exact h.be ((aG _ _).alloc aE _)
  |succ i=>simp at a
def y6(w:World)(s:List Int)(e:Ending)(w':World):Prop:=∃a c,e= .returned a∧WsAt w' w.1.size 64 a (s :: c)∧StT 110079 s (aS (bB s)) c∧Below w.1.size w w'
def YX(h:aN P):aW aV (P.map (·*(-1)))=P.map (·*(-1)):=oZ (jS _) (xM (by decide) h) (fun i=>iS _ i)
def KE(s:List Int)(v:Value)(w:World)(N:Glob w)(hv:WholeAt w v s)(ts:aN s)(y:s≠[])(hs:Sz s):
  Calls prog 93 #[v] w (y6 w s):=by
 obtain⟨A,c,rfl,hc⟩:=hv.form;obtain⟨K,hK,b2,b3,a6⟩:=hs.ex;have hl:=hs.1;have R:=List.length_pos_iff.2 y;have bb:=fun W h=>JN s (.slice A s.length c) W h K hK (by unfold aJ;omega) (by omega);have td:=lE ts;have kd:=pL hK (by omega);have ld:=lZ s;have ae:=fun W u N h=>qQ (bB s) u W N h td (K+1) kd (by unfold aJ;omega) (by omega);have tp:=Q5 td;have kp:=gU kd;have lp:=dF (bB s);have ks:∀n∈s,nl n.natAbs<=K+1:=fun n hn=>aH (hK n hn) (Nat.le_succ _);unfold y6;generalize aS (bB s)=d at *;generalize bB s=ds at *;have bu:d.length=s.length-1:=by omega
 have a8:d.length≠0->(K+1+1)*(s.length-d.length+2)*3^(d.length-1)<=110079:=fun h=>by
  rw[show s.length-d.length+2=3 by omega,show d.length-1=s.length-2 by omega];exact a6
 have a1:=aB a8;obtain⟨w0,e0,g,X⟩:=bI w [.slice A s.length c] 64;have i:=WsAt.one hv aE;have ar:w.alloc (.cells #[.slice A s.length c] 64)=w0:=e0;rw[ar] at i;replace hv:=hv.be g;have bc:d.length<=s.length:=by omega
 have bv:d.length+1<=8:=by omega
 clear a8 a6 hs y X hK kd ld lp bu;go_enter func93,ntmps93;go_wp2_with fail;(try rw[ar]);clear e0 ar;refine(bb _ hv).mono ?_;rintro e1 w1 ⟨v1,rfl,h1,av⟩;obtain⟨A1,c1,rfl,bs⟩:=h1.form;replace hv:=hv.be av;replace i:=i.be av;replace g:=aC g av;clear bb;go_wp2_with fail;refine(ae _ _ (N.be g) h1).mono ?_;rintro e2 w2 ⟨v2,rfl,h2,aw⟩;obtain⟨A2,c2,rfl,bt⟩:=h2.form;replace hv:=hv.be aw;replace i:=i.be aw;replace g:=aC g aw;clear ae h1;go_wp2_with fail
 go_loopg [3,4,5] d.length (fun k vc vb vl wr=>∃a b Aa ca p x o B,Hid (b.length=k)∧vb= .slice Aa a.length ca∧vl= .slice p b.length x∧WholeAt wr (.slice Aa a.length ca) a∧WholeAt wr (.slice p b.length x) b∧WsAt wr w.1.size 64 vc B∧Hid (aN a)∧Hid (aN b)∧Hid (∃C,B=s :: C∧∀c,StT 110079 a b c->StT 110079 s d (C++c))∧
  (∀n∈a,nl n.natAbs<=o)∧(∀n∈b,nl n.natAbs<=o)∧1<=o∧b.length<=a.length∧a.length<=7∧B.length+b.length<=8∧Hid (b.length≠0->(o+1)*(a.length-b.length+2)*3^(b.length-1)<=110079)∧Below w.1.size w wr)
 case atStart=>exact⟨s,d,A,c,A2,c2,K+1,[s],rfl,rfl,rfl,hv,h2,i,ts,tp,⟨[],rfl,fun c h=>h⟩,ks,kp,by omega,bc,hl,by rw[iJ];omega,a1,g⟩
 case round=>
  clear h2 hv i g a1 tp kp ks ts R hl hc bs bt bc bv;obtain⟨a,b,Aa,ca,p,x,o,B,HL,rfl,rfl,O,H,i,bq,aq,HE,ka,kb,a5,a9,cc,cd,HP,g⟩:=hrel;generalize wr=T at *;obtain⟨Af,b1,rfl,b8⟩:=i.form;by_cases y:b.length=0
  ·have q0:¬(0:Int)<(b.length:Int):=by omega
   have Q:b=[]:=bX y;obtain⟨C,R,E⟩:=HE.out;have E:=E [] (by rw[Q];exact .done a);rw[fH] at E;have J:=aB (And.intro R E);clear Q y E R;go_wp2;go_ret
   first
    |exact⟨_,C,rfl,by rw[J.out.1] at i;rw[J.out.1];exact i,J.out.2,g⟩
    |exact⟨_,rfl,C,by rw[J.out.1] at i;rw[J.out.1];exact i,J.out.2,g⟩
  ·have q0:(0:Int)<(b.length:Int):=by omega
   have Q:b≠[]:=fun e=>y (by rw[e];rfl);have b4:=YV (HP.out y) a9;have pq:=fun W O H=>BU a b (.slice Aa a.length ca) (.slice p b.length x) W O H Q bq.out aq.out o _ ka kb a5 aE (by unfold aJ;omega) (by omega) (by omega);unfold wZ at pq;have Z:Below T.1.size T (T.alloc (.cells #[.slice p b.length x] 64)):=(aG _ _).alloc aE _;have X:=Bx.new T [.slice p b.length x] 64;replace O:=O.be Z;replace H:=H.be Z;replace i:=i.be Z;have ce:w.1.size<=T.1.size:=g.size;replace g:=aC g Z;have a2:=X.cell 0 rfl;obtain⟨b0,S,ao,bo⟩:=id i;go_wp2_with (at_builtin;refine K4 rfl rfl 64 24 underlying129 Y3 w.1.size _ b0 rfl S T.1.size (.slice p b.length x) rfl a2 ⟨_,_,_,rfl⟩ (by rw[ao];omega) (by rw[ao];unfold maxLen;omega) g.size ?_;intro v8 w8 bj al ac);have l:=WsAt.push S ao bo H bj al ac;have za:=O.grown S al ac;have f:=K5 g ac S aE;have j:=H.grown S al ac;obtain⟨A8,c8,rfl,b6⟩:=l.form;have a3:∃U,B++[b]=s :: U∧∀q r m c,PQRes a b 110079 m q r->StT 110079 b (if 0<m then (aS r).map (·*(-1)) else aS r) c->StT 110079 s d (U++c):=by
    obtain⟨C,R,E⟩:=HE.out;exact⟨C++[b],by rw[R];rfl,fun q r m c h t=>by rw[eK];exact E _ (.step Q h t)⟩
   have az:=aB a3;have a7:(B++[b]).length=B.length+1:=by rw[dA];rfl
   have a0:=aB a7;clear a7 a3 O H i X a2 Z bj al ac S ao bo g HE;generalize B++[b]=LS at *;go_wp2_with fail;refine(pq _ za j).mono ?_;rintro e3 w3 ⟨vq,vr,vm,q,r,m,rfl,hq,hr,I,z,ax⟩;obtain⟨Aq,cq,rfl, -⟩:=hq.form;obtain⟨Ar,cr,rfl,b9⟩:=hr.form;obtain⟨s3,A3,k3,c3,rfl⟩:=I.form;have bx:=z.r_lt;have ae:=fun W N h=>qQ r (.slice Ar r.length cr) W N h z.r_trim _ z.br (by unfold aJ;omega) (by omega);have bn:=fun W h=>qG m (.agg #[.bool s3,.slice A3 k3 c3]) W h (aH z.bm (by omega));have an:=Q5 z.r_trim;have am:=gU z.br;have bf:=dF r;have bg:=z.m0;have ai:=az.out;obtain⟨U,ba,ai⟩:=ai;have a4:=fun c=>ai q r m c (z.mono (by omega));have bi:r.length≠0->(o+(a.length+1-b.length)*(o+1)+1)*(b.length-r.length+2)*3^(r.length-1)<=110079:=fun h=>YU (HP.out y) bx a9 h;have bp:∀n∈b,nl n.natAbs<=o+(a.length+1-b.length)*(o+1):=fun n hn=>aH (kb n hn) (byR _ _);have au:1<=o+(a.length+1-b.length)*(o+1):=aH a5 (byR _ _);have HH:=aB (And.intro ba bi);have ag:=aB a4;have L:=aB bf;clear ai a4 az ba bi HP Q y z pq hq za bf;generalize aS r=P at *;generalize o+(a.length+1-b.length)*(o+1)=KK at *;replace j:=j.be ax;replace l:=l.be ax;replace f:=aC f ax;obtain⟨w4,e4,V,F⟩:=bI w3 [.bool s3,.slice A3 k3 c3] 60;replace j:=j.be V;replace l:=l.be V;replace hr:=hr.be V;replace I:=I.be V;replace f:=aC f V;have cF:=F.k2;go_wp2_with fail;(try rw[e4]);clear e4;refine(ae _ (N.be f) hr).mono ?_;rintro e5 w5 ⟨v5,rfl,D,Y⟩;obtain⟨A5,c5,rfl,b5⟩:=D.form;replace j:=j.be Y;replace l:=l.be Y;replace I:=I.be Y;replace F:=F.be Y;replace f:=aC f Y;replace cF:=F.k2;clear ae hr;go_wp2_with fail;refine(bn _ I).mono ?_;rintro e6 w6 ⟨rfl,aj⟩;replace j:=j.be aj;replace l:=l.be aj;replace D:=D.be aj;replace f:=aC f aj;clear bn cF F I;by_cases ad:0<m
   ·have af:m.sign=1:=aqI ad;rw[af];have G:=ag.out;rw[if_pos ad] at G;have ap:=aB G;have bh:=YX an;have bk:=fun W u h h'=>OD P (-1) (.slice A5 P.length c5) u W h h' KK am (aH (cJ (m:=1) (by unfold BN;decide)) au) (by omega) (by have:=L.out;omega);rw[bh] at bk;have bz:=xM (show(-1:Int)≠0 by decide) an;have bw:∀n∈P.map (·*(-1)),nl n.natAbs<=KK:=fun n hn=>by
     obtain⟨k,hk,rfl⟩:=List.mem_map.1 hn;rw[fL];simpa using am k hk
    have ah:Hid ((P.map (·*(-1))).length=r.length):=by unfold Hid;rw[cH];exact L.out
    clear G ag bh an am af ad bg;generalize P.map (·*(-1))=M at *;go_wp2_with fail;refine(lL (-1) _ (by decide) (by decide)).mono ?_;rintro e7 w7 ⟨v7,rfl,h7,ak⟩;replace j:=j.be ak;replace l:=l.be ak;replace D:=D.be ak;replace f:=aC f ak;go_wp2_with fail;refine(bk _ _ D h7).mono ?_;rintro e9 w9 ⟨v9,rfl,h9,ay⟩;obtain⟨A9,c9,rfl,b7⟩:=h9.form;replace j:=j.be ay;replace l:=l.be ay;replace f:=aC f ay;go_wp2;go_roundg M.length
    case rel=>exact⟨b,M,p,x,A9,c9,KK,LS,rfl,rfl,rfl,j,h9,l,aq,bz,⟨U,HH.out.1,ap.out⟩,bp,bw,au,by have:=ah.out;omega,by omega,by have:=ah.out;have:=a0.out;omega,by rw[ah.out];exact HH.out.2,f⟩
    case measure=>have:=HL.out;have:=ah.out;omega
   ·have af:m.sign= -1:=aqT (by omega);rw[af];have G:=ag.out;rw[if_neg ad] at G;have ap:=aB G;clear G ag af ad bg;go_wp2;go_roundg P.length
    case rel=>exact⟨b,P,p,x,A5,c5,KK,LS,rfl,rfl,rfl,j,D,l,aq,an,⟨U,HH.out.1,ap.out⟩,bp,am,au,by have:=L.out;omega,by omega,by have:=L.out;have:=a0.out;omega,by rw[L.out];exact HH.out.2,f⟩
    case measure=>have:=HL.out;have:=L.out;omega
def WsAt.up[u:Up a b]{v:Value}{c:List (List Int)}(h:WsAt a B 64 v c):WsAt b B 64 v c:=h.be u.out
def BV(e:List (List Int))(B:Nat)(i:Int)(x:Rat)(v u:Value)(w:World)(hv:WsAt w B 64 v e)(U:EndAt w u i x)(hi: -1<=i∧i<=1)(ak:e.length<=1024)(K:Nat)(q:∀a∈e,a≠[]∧a.length<=65∧∀n∈a,nl n.natAbs<=K)(kx:RL K x)(ac:140*K+10<=17592186044416):
  Calls prog 142 #[v,u] w (eO w (aY 0 (e.map (fun a=>aP a i x)):Nat)):=by
 obtain⟨J,r,H,y,L,s,I,z,rfl⟩:=U.form;obtain⟨A,c,rfl,hc⟩:=hv.form;have P:=fun a W u h h' (E:a∈e)=>UM i x a (.agg #[.bool J,.slice r H y,.bool L,.slice s I z,.int .i64 i]) u W h h' hi (q a E).1 (q a E).2.1 K (q a E).2.2 kx ac;unfold eO at P;unfold eO;obtain⟨V,D⟩:∃V,aY 0 (e.map (fun a=>aP a i x))=V:=⟨_,rfl⟩;rw[D];have M:Hid (0+aY 0 ((e.drop 0).map (fun a=>aP a i x))=V):=by unfold Hid;rw[azZ,bA];exact D
 clear D q;obtain⟨W,O,d,X⟩:=bI w [.bool J,.slice r H y,.bool L,.slice s I z,.int .i64 i] 107;have cM:=X.g5;go_enter func142,ntmps142;go_wp2_with fail;(try rw[O]);clear O;go_loopg [5,6,12] e.length (fun k vc vb vi wr=>∃(j C:Nat) (b:Int),Hid (j+k=e.length)∧vc= .int .i64 C∧vb= .int .i64 b∧vi= .int .i64 j∧C<=j∧ -1<=b∧b<=1∧Hid (C+aY b ((e.drop j).map (fun a=>aP a i x))=V)∧Bx wr w.1.size [.bool J,.slice r H y,.bool L,.slice s I z,.int .i64 i] 107∧Below w.1.size w wr)
 case atStart=>exact⟨0,0,0,by unfold Hid;omega,rfl,rfl,rfl,aE,by decide,by decide,M,X,d⟩
 case round=>
  clear M X d;obtain⟨j,C,b,l,rfl,rfl,rfl,hC,ad,ae,t,X,d⟩:=hrel;generalize wr=wy at *;have ai:(0:Int)<=(j:Int):=by omega
  cases gk with
  |zero=>
   have R:j=e.length:=l.out;have HC:Hid (C=V):=by
    have:=t.out;rw[R,azY] at this;exact this
   subst R;go_wp2;go_ret;exact⟨by rw[HC.out];rfl,d⟩
  |succ k=>
   have af:j<e.length:=by have:=l.out;omega
   have aj:(j:Int)<(e.length:Int):=by omega
   obtain⟨a,p⟩:∃a,e[j]? =some a:=⟨_,aR af⟩;obtain⟨bb,u,rfl,ag,hu,Q⟩:=(hv.be d).at_ p;obtain⟨Z,cu,rfl,ah⟩:=Q.form;have T:aY b ((e.drop j).map (fun a=>aP a i x))=if aP a i x=0 then aY b ((e.drop (j+1)).map (fun a=>aP a i x)) else (if b≠0∧aP a i x≠b then 1 else 0)+aY (aP a i x) ((e.drop (j+1)).map (fun a=>aP a i x)):=KD (fun a=>aP a i x) p b;have o:=YT a i x;have G:=P a wy (.slice Z a.length cu) (U.be d) Q (dG p);have f:=t.out;rw[T] at f;clear T p t;generalize aP a i x=S at *;have cX:=X.k5;have hw:IntKind.i64.wrap (-S)= -S:=IntWalk.i64_in _ ⟨by omega,by omega⟩;by_cases m:S=0
   ·subst m;rw[if_pos rfl] at f;replace f:=aB f;go_wp2_with fail;refine G.mono ?_;rintro N Y ⟨rfl,g⟩;replace X:=X.be g;replace d:=aC d g;go_wp2;go_roundg k
    case rel=>exact⟨j+1,C,b,by have:=l.out;unfold Hid;omega,rfl,rfl,by go_num,by omega,ad,ae,f.out,X,d⟩
    case measure=>omega
   ·rw[if_neg m] at f;have q0:(S==0)=false:=by simpa using m
    by_cases F:b= -S
    ·subst F;rw[if_pos (by omega)] at f;replace f:=aB f;clear m;go_wp2_with fail;refine G.mono ?_;rintro N Y ⟨rfl,g⟩;replace X:=X.be g;replace d:=aC d g;go_wp2;go_roundg k
     case rel=>exact⟨j+1,C+1,S,by have:=l.out;unfold Hid;omega,by go_num,rfl,by go_num,by omega,o.1,o.2,by have:=f.out;unfold Hid;omega,X,d⟩
     case measure=>omega
    ·rw[if_neg (by omega),bA] at f;replace f:=aB f;have q1:(b== -S)=false:=by simpa using F
     clear m F;go_wp2_with fail;refine G.mono ?_;rintro N Y ⟨rfl,g⟩;replace X:=X.be g;replace d:=aC d g;go_wp2;go_roundg k
     case rel=>exact⟨j+1,C,S,by have:=l.out;unfold Hid;omega,rfl,rfl,by go_num,by omega,o.1,o.2,f.out,X,d⟩
     case measure=>omega
def xA(w:World)(s:List Int)(i:Int)(x:Rat)(j:Int)(y:Rat)(e:Ending)(w':World):Prop:=∃n:Int,e= .returned (.int .i64 n)∧ -1024<=n∧n<=1024∧(jO i x j y=false->n=0)∧(jO i x j y=true->∃c,StT 110079 s (aS (bB s)) c∧n=fF s c i x j y)∧Below w.1.size w w'
def J0(s:List Int)(i j:Int)(x y:Rat)(v u1 u2:Value)(w:World)(J:Glob w)(hv:WholeAt w v s)(ts:aN s)(h0:s≠[])(f:Sz s)(g:EndAt w u1 i x)(k:EndAt w u2 j y)(hi: -1<=i∧i<=1)(hj: -1<=j∧j<=1)(kx:RL 30000000 x)(ky:RL 30000000 y):
  Calls prog 110 #[v,u1,u2] w (xA w s i x j y):=by
 obtain⟨F,l,B,q,G,m,C,r,rfl⟩:=g.form;obtain⟨H,o,D,t,I,p,E,u,rfl⟩:=k.form;have z:=fun W h e=>UL i j x y (.agg #[.bool F,.slice l B q,.bool G,.slice m C r,.int .i64 i]) (.agg #[.bool H,.slice o D t,.bool I,.slice p E u,.int .i64 j]) W h e hi hj 30000000 kx ky (by omega);have A:=fun W J h=>KE s v W J h ts h0 f;have td:=Q5 (lE ts);have kd:∀n∈aS (bB s),nl n.natAbs<=110079:=fun n hn=>by
  obtain⟨K,hK,ag,ah, -⟩:=f.ex;exact aH (gU (pL hK (by have:=f.1;omega)) n hn) (by omega)
 have ld:(aS (bB s)).length=s.length-1:=by rw[dF,lZ]
 have Q:∀c,StT 110079 s (aS (bB s)) c->(s :: c).length<=8∧∀a∈s :: c,a≠[]∧a.length<=65∧∀n∈a,nl n.natAbs<=30000000:=fun c h=>by
  have h1:=h.len;have h7:=f.1;refine⟨by rw[eG];omega,fun a N=> ?_⟩;rcases List.mem_cons.1 N with rfl|N
  ·exact⟨h0,by omega,fun n hn=>aH (f.nums n hn) (by omega)⟩
  ·obtain⟨Z,e2,e3,e4⟩:=h.mem td kd a N;exact⟨Z,by omega,fun n hn=>aH (e4 n hn) (by decide)⟩
 unfold y6 at A;unfold xA;obtain⟨L,hL⟩:∃L,jO i x j y=L:=⟨_,rfl⟩;rw[hL] at z⊢;clear hL td kd ld;obtain⟨W,eW,d,X,Y⟩:=eL w [.bool F,.slice l B q,.bool G,.slice m C r,.int .i64 i] 107 [.bool H,.slice o D t,.bool I,.slice p E u,.int .i64 j] 107;have cM:=aa X.g5 Y.g5;go_enter func110,ntmps110;go_wp2_with fail;(try rw[eW]);clear eW;refine(z _ (g.be d) (k.be d)).mono ?_;rintro Z w1 ⟨rfl,O⟩;replace X:=X.be O;replace Y:=Y.be O;replace d:=aC d O;cases L with
 |false=>
  clear A Q z;go_wp2;go_ret
  first
   |exact⟨0,rfl,by decide,by decide,rfl,d⟩
   |exact⟨0,rfl,by decide,by decide,fun _=>rfl,(fun h=>absurd h (by decide)),d⟩
 |true=>
  clear z;go_wp2_with fail;refine(A _ (J.be d) (hv.be d)).mono ?_;rintro e2 w2 ⟨v2,c,rfl,h2,M,P⟩;replace X:=X.be P;replace Y:=Y.be P;replace d:=aC d P;obtain⟨ai,R⟩:=Q c M;have ac:=fun W h e=>BV (s :: c) w1.1.size i x v2 (.agg #[.bool F,.slice l B q,.bool G,.slice m C r,.int .i64 i]) W h e hi (by omega) 30000000 R kx (by omega);have ad:=fun W h e=>BV (s :: c) w1.1.size j y v2 (.agg #[.bool H,.slice o D t,.bool I,.slice p E u,.int .i64 j]) W h e hj (by omega) 30000000 R ky (by omega);have bx:=qR ((s :: c).map (fun a=>aP a i x)) 0;have bY:=qR ((s :: c).map (fun a=>aP a j y)) 0;rw[cH] at bx bY;unfold eO at ac ad;have S:Hid (fF s c i x j y=(aY 0 ((s :: c).map (fun a=>aP a i x)):Int)-(aY 0 ((s :: c).map (fun a=>aP a j y)):Int)):=rfl;have T:=aB M;clear A Q R M;generalize aY 0 ((s :: c).map (fun a=>aP a i x))=U at *;generalize aY 0 ((s :: c).map (fun a=>aP a j y))=V at *;replace g:=g.be d;replace k:=k.be d;have hw:IntKind.i64.wrap ((U:Int)-(V:Int))=(U:Int)-(V:Int):=IntWalk.i64_in _ ⟨by omega,by omega⟩;go_wp2_with fail
  go_region_held3 (fun w'=>C5 w' w.1.size (.bool F) (.slice l B q) (.bool G) (.slice m C r) (.int .i64 i)∧C5 w' (w.1.size+1) (.bool H) (.slice o D t) (.bool I) (.slice p E u) (.int .i64 j)) (with_reducible exact⟨X.up.k5,Y.up.k5⟩)
   (first
    |(go_at_call 142;first|(with_reducible refine(ac _ h2.up g.up).mono ?_;rintro e5 w5 ⟨rfl,ae⟩;have:=St.mk ae)|(with_reducible refine(ad _ h2.up k.up).mono ?_;rintro e6 w6 ⟨rfl,af⟩;have:=St.mk af)))
  all_goals (
   go_wp2;go_ret
   first
    |exact⟨_,rfl,by omega,by omega,⟨c,T.out,S.out.symm⟩,bJ (b:=w5) d⟩
    |exact⟨_,rfl,by omega,by omega,⟨c,T.out,S.out.symm⟩,bJ (b:=w6) d⟩)
def YZ(x:Int)(n:Nat)(v:Value)(w:World)(hv:IntAt w v x)(hn:n<18446744073709551616)(Q:nl x.natAbs+n/64+1<=17592186044416):Calls prog 41 #[v,.int .u64 n] w (dW w (x*2^n)):=by
 obtain⟨S,rfl,b⟩:=hv;obtain⟨k,m,rfl, -⟩:=id b;have t:(x*2^n).natAbs=x.natAbs*2^n:=by rw[fL,Int.natAbs_pow];rfl
 have A:x*2^n=if decide (x<0) then -((x.natAbs*2^n:Nat):Int) else ((x.natAbs*2^n:Nat):Int):=by
  have H:(0:Int)<2^n:=aqH (by decide);by_cases h:x<0
  ·have:=Int.mul_neg_of_neg_of_pos h H;simp only[h,decide_true,if_true];omega
  ·have:=gB (show 0<=x by omega) (show 0<=(2:Int)^n by omega);simp only[h,decide_false];simp only[Bool.false_eq_true,if_false];omega
 have E:nl (2^n)<=n/64+1:=cJ (by
  have e:BN^(n/64+1)=2^(64*(n/64+1)):=by rw[azL];rfl
  rw[e];exact by9 (by decide) (by omega))
 have G:=fI x.natAbs (2^n);have z:=fun W h=>tC x.natAbs n (.slice k (nl x.natAbs) m) W h hn (by unfold aJ;omega);have y:=fun W u h=>p7 (decide (x<0)) u (x.natAbs*2^n) (x*2^n) W h (by omega) A;have C:=aB t;obtain⟨f,q⟩:∃f,Hid (decide (x*2^n<0)=f):=⟨_,rfl⟩;rw[q.out] at y;unfold jK at z;clear t A E G;generalize decide (x<0)=B at *;generalize x.natAbs*2^n=P at *;obtain⟨W,r,a,X,R⟩:=eL w [.bool B,.slice k (nl x.natAbs) m] 60 [.bool false,.slice none 0 0] 60;have g:=aa X.g2 R.g2;go_enter func41,ntmps41;go_wp2_with fail;(try rw[r]);clear r;replace b:=b.be a;replace b:=b.drew;replace X:=X.drew;replace R:=R.drew;replace a:=a.drew;replace g:=aa X.k2 R.g2;have I:w.1.size+1≠w.1.size:=by omega
 go_region_held3 (fun J=>C2 J w.1.size (.bool B) (.slice k (nl x.natAbs) m))
  (first|(with_reducible exact X.k2)|((repeat (first|with_reducible exact X.k2|with_reducible refine fQ I ?_))))
  (first
   |(go_at_call 92;refine(z _ b).mono ?_;rintro M U ⟨T,rfl,d,O,i⟩;obtain⟨l,o,rfl, -⟩:=id d;replace X:=X.be i;replace R:=R.be i;replace g:=aa X.k2 R.g2;replace c:=Keep.be i;replace b:=b.ke c;(try replace F:=F.ke c);replace a:=aC a i)
   |(go_at_call 81;refine(y _ _ d).mono ?_;rintro N K ⟨rfl,j⟩;replace X:=X.be j;replace R:=R.be j;replace g:=aa X.k2 R.g2;replace c:=Keep.be j;replace b:=b.ke c;(try replace d:=d.ke c);replace a:=aC a j))
 all_goals (
  have p:IntAt K (.agg #[.bool f,.slice l (nl P) o]) (x*2^n):=⟨_,by rw[q.out],by rw[C.out];exact d⟩;go_wp2_with fail;obtain⟨L,s,R,a,c,D⟩:=R.put2 a (by omega) (.bool f) (.slice l (nl P) o) rfl rfl;replace X:=D X (by omega);replace p:=p.ke c;rw[s];clear s;replace g:=aa X.k2 R.k2;exact aM (v:= .agg #[.bool f,.slice l (nl P) o]) (by simp[results,results41,go_sem,R.k2]) rfl ⟨_,rfl,p,a⟩
 )
end Go.Proofs.YtjgbleapffgbcaaGreatDoor
namespace Go.Proofs.YtjgbleapffgbcaaGreatDoor
open Sos
variable{K i:Nat}{l:List Int}{D d q:Rat}
def jE(l:List Int):Int:=l.foldl (fun g c=>if g<(c.natAbs:Int) then (c.natAbs:Int) else g) 0
def iH(q:Rat):Rat:=if q.num.sign<0 then -q else q
def Y6(d:Rat)(l:List Rat):Rat:=l.foldl (fun b q=>if b<iH (q/d) then iH (q/d) else b) 0
def KG{α β:Type}(f:β->α->β)(b:β)(l:List α){a:α}(h:l[i]? =some a):(l.take (i+1)).foldl f b=f ((l.take i).foldl f b) a:=by
 rw[Q9,h,aqO,List.foldl_append];rfl
def KH{c:Int}(h:l[i]? =some c):jE (l.take (i+1))=if jE (l.take i)<(c.natAbs:Int) then (c.natAbs:Int) else jE (l.take i):=KG _ _ l h
def KI{l:List Rat}(h:l[i]? =some q):Y6 d (l.take (i+1))=if Y6 d (l.take i)<iH (q/d) then iH (q/d) else Y6 d (l.take i):=KG _ _ l h
def KJ(h:∀n∈l,nl n.natAbs<=K)(i:Nat):nl (jE (l.take i)).natAbs<=K:=by
 induction i with
 |zero=>show nl (0:Int).natAbs<=K;rw[Int.natAbs_zero,dO];omega
 |succ i b=>
  by_cases a:i<l.length
  ·rw[KH (aR a)];split
   ·rw[dD];exact h _ (aq0 a)
   ·exact b
  ·rw[cZ (by omega)];rwa [cZ (by omega)] at b
def KL(h:RL K q):RL K (iH q):=by
 unfold iH;split
 ·exact C7 h
 ·exact h
def KN{l:List Rat}{L:Nat}(h:∀q∈l,RL K q)(c:RL L d)(e:1<=K)(i:Nat):RL (K+L) (Y6 d (l.take i)):=by
 induction i with
 |zero=>show RL (K+L) 0;exact iG (by omega)
 |succ i b=>
  by_cases a:i<l.length
  ·rw[KI (aR a)];split
   ·exact KL (xS (h _ (aq0 a)) c)
   ·exact b
  ·rw[cZ (by omega)];rwa [cZ (by omega)] at b
def Z1(n:Int):((n.natAbs:Int):Rat)=iH (n:Rat):=by
 unfold iH;rw[xJ];by_cases h:n<0
 ·rw[if_pos (by rw[aqT h];decide),show((n.natAbs:Int))= -n by omega,bx4]
 ·have:¬n.sign<0:=by rcases Int.lt_or_eq_of_le (Int.not_lt.1 h) with h|h
                     ·rw[aqI h];decide
                     ·rw[<-h];decide
  rw[if_neg this,show((n.natAbs:Int))=n by omega]
def ey1(q:Rat):0<=iH q:=by
 unfold iH;rcases iY q with h|h|h
 ·rw[if_pos (by rw[(fS q).2 h];decide)];grind
 ·rw[h];decide
 ·rw[if_neg (by rw[(fS q).1 h];decide)];grind
def KO(q:Rat):iH q=q∧0<=q∨iH q= -q∧q<0:=by
 unfold iH;rcases iY q with h|h|h
 ·rw[if_pos (by rw[(fS q).2 h];decide)];exact .inr ⟨rfl,h⟩
 ·rw[h];exact .inl ⟨by decide,by decide⟩
 ·rw[if_neg (by rw[(fS q).1 h];decide)];exact .inl ⟨rfl,by grind⟩
def KP{c:Rat}(a:0<c)(q:Rat):iH (c*q)=c*iH q:=by
 unfold iH;rw[tU a];split
 ·grind
 ·rfl
def Z2{L:Int}(j:L≠0)(u:D≠0)(l:List Int):Y6 ((L:Rat)/D) (l.map (fun n:Int=>(n:Rat)/D))=((jE l:Int):Rat)/((L.natAbs:Int):Rat):=by
 have v:=gJ j;have t:0<((L.natAbs:Int):Rat):=by
  have:(0:Int)<(L.natAbs:Int):=by omega
  exact_mod_cast this
 have i:0<((L.natAbs:Int):Rat)⁻¹:=Rat.inv_pos.2 t;have e:∀n:Int,iH ((n:Rat)/D/((L:Rat)/D))=((n.natAbs:Int):Rat)/((L.natAbs:Int):Rat):=fun n=>by
  have d:(n:Rat)/D/((L:Rat)/D)=(n:Rat)/L:=by grind
  rw[d,Z1 n];rcases Int.lt_or_lt_of_ne j with h|h
  ·have a:((L.natAbs:Int):Rat)= -(L:Rat):=by rw[show(L.natAbs:Int)= -L by omega,bx4]
   have f:(n:Rat)/L=(((L.natAbs:Int):Rat)⁻¹)*(-(n:Rat)):=by rw[a];grind
   rw[f,KP i,azE,byD];congr 1;rcases KO (n:Rat) with ⟨m,o⟩|⟨m,o⟩<;>rcases KO (-(n:Rat)) with ⟨p,r⟩|⟨p,r⟩<;>grind
  ·have a:((L.natAbs:Int):Rat)=(L:Rat):=by rw[show(L.natAbs:Int)=L by omega]
   have f:(n:Rat)/L=(((L.natAbs:Int):Rat)⁻¹)*(n:Rat):=by rw[a];grind
   rw[f,KP i,azE,byD]
 unfold Y6 jE;suffices h:∀(l:List Int) (g:Int),(l.map (fun n:Int=>(n:Rat)/D)).foldl (fun b q=>if b<iH (q/((L:Rat)/D)) then iH (q/((L:Rat)/D)) else b) ((g:Rat)/((L.natAbs:Int):Rat))=((l.foldl (fun g c=>if g<(c.natAbs:Int) then (c.natAbs:Int) else g) g:Int):Rat)/((L.natAbs:Int):Rat) by
  have:=h l 0;have z:((0:Int):Rat)/((L.natAbs:Int):Rat)=0:=by rw[aq4,azE,aqQ]
  rwa [z] at this
 intro l;induction l with
 |nil=>intro g;rfl
 |cons n l k=>
  intro g;rw[fM,List.foldl_cons,List.foldl_cons,e];have d:((g:Rat)/((L.natAbs:Int):Rat)<((n.natAbs:Int):Rat)/((L.natAbs:Int):Rat))↔g<(n.natAbs:Int):=by
   rw[azE,azE];constructor
   ·intro h;have:(g:Rat)<((n.natAbs:Int):Rat):=by
     by_cases a:(g:Rat)<((n.natAbs:Int):Rat)
     ·exact a
     ·have f:((n.natAbs:Int):Rat)*(((L.natAbs:Int):Rat))⁻¹<=(g:Rat)*(((L.natAbs:Int):Rat))⁻¹:=Rat.mul_le_mul_of_nonneg_right (by grind) (az6 i);grind
    exact_mod_cast this
   ·intro h;have a:(g:Rat)<((n.natAbs:Int):Rat):=by exact_mod_cast h
    exact Rat.mul_lt_mul_of_pos_right a i
  by_cases h:g<(n.natAbs:Int)
  ·rw[if_pos (d.2 h),if_pos h];exact k _
  ·rw[if_neg (fun s=>h (d.1 s)),if_neg h];exact k _
end Go.Proofs.YtjgbleapffgbcaaGreatDoor
namespace Go.Proofs.YtjgbleapffgbcaaGreatDoor
open Go.RowKit Sos Tryz
variable{b ns:List Int}{B K a c d g:Nat}{w:World}{u v:Value}{A:Option Addr}
def rZ(ns:List Int):Rat:=((jE (ns.take (ns.length-1)):Int):Rat)/(((cf ns (ns.length-1)).natAbs:Int):Rat)+1
def IY(b:∀n∈ns,nl n.natAbs<=K)(a:1<=K):RL (2*K+2) (rZ ns)∧RL K (((jE (ns.take (ns.length-1)):Int):Rat)/(((cf ns (ns.length-1)).natAbs:Int):Rat)):=by
 have h:=pM (KJ b (ns.length-1)) (show nl (((cf ns (ns.length-1)).natAbs:Int)).natAbs<=K by rw[dD];exact iU b _) a;exact⟨bU (wW h (bU rY a)) (by omega),h⟩
def IZ(x y:Rat)(a b:Value)(w:World)(_:Glob w)(f:RatAt w a x)(g:RatAt w b y)(i:y.den=1)(K:Nat)(d:RL K x)(c:RL K y)(e:10*K+40<=aJ):Calls prog 63 #[a,b] w (iF w (x+y)):=by
 by_cases h:x.den=1
 ·exact J7 x y a b w f g h i K d c e
 ·exact J8 x y a b w f g h i K d c e
def UK(ns:List Int)(v:Value)(w:World)(o:Glob w)(hv:WholeAt w v ns)(Q:ns≠[])(ht:aN ns)(K:Nat)(y:∀n∈ns,nl n.natAbs<=K)(hl:ns.length<=65)(h1:1<=K)(ao:K<=1073741824):
  Calls prog 43 #[v] w (iF w (rZ ns)):=by
 obtain⟨A,c,rfl,hc⟩:=hv.form;have ax:=List.length_pos_iff.2 Q;obtain⟨m,hm⟩:∃m,ns.length-1=m:=⟨_,rfl⟩;have am:(ns.length:Int)-1=(m:Int):=by omega
 have Z:=fun W=>JO ns.length c A W (by omega);simp only[am] at Z;have H:=fun W h=>wS ns (.slice A ns.length c) W h Q (by omega);have bl:=iU y m;obtain⟨-,J⟩:=IY y h1;have al:cf ns m≠0:=by rw[<-hm];exact(dR Q).1 ht
 have bG:=fun j=>KJ y j;unfold rZ;rw[hm] at H J⊢;have S:=fun W v h=>J3 (cf ns m) v W h;have ac:=fun W u v o h p=>I3 (jE (ns.take m)) ((cf ns m).natAbs:Int) u v W o h p K (bG m) (by rw[dD];exact bl) (by unfold aJ;omega);have ad:=fun W=>UQ 1 W (by decide) (by decide);have U:=fun W u v o h p=>IZ (((jE (ns.take m):Int):Rat)/(((cf ns m).natAbs:Int):Rat)) ((1:Int):Rat) u v W o h p rfl K J (bU rY h1) (by unfold aJ;omega);have M:(1:Rat)=((1:Int):Rat):=rfl;rw[M];have az:(0:Int)<=(m:Int):=by omega
 have a0:(m:Int)<=(c:Int):=by omega
 unfold dW at H S;unfold iF at ac ad U;unfold iF;generalize (((jE (ns.take m):Int):Rat)/(((cf ns m).natAbs:Int):Rat))=F at *;generalize ((1:Int):Rat)=a2 at *;generalize cf ns m=cl at *;clear J bl M al;obtain⟨W,eW,a,R,G⟩:=eL w [.bool false,.slice none 0 0,.bool false,.slice none 0 0] 76 [.bool false,.slice none 0 0] 60;have cM:=aa R.g4 G.g2;go_enter func43,ntmps43;go_wp2_with fail;(try rw[eW]);clear eW;refine(Z _).mono ?_;rintro M w1 ⟨rfl,rfl⟩;have af:IntBx w1 (w.1.size+1) (jE (ns.take 0)):=⟨_,_,_,_,G,IntAt.zero _⟩;clear G;go_wp2_with fail;go_loopg [12] m (fun k i wr=>∃j,Hid (j+k=m)∧i= .int .i64 j∧IntBx wr (w.1.size+1) (jE (ns.take j))∧Bx wr w.1.size [.bool false,.slice none 0 0,.bool false,.slice none 0 0] 76∧Below w.1.size w wr)
 case atStart=>exact⟨0,by unfold Hid;omega,rfl,af,R,a⟩
 case round=>
  clear af R a;obtain⟨j,t,rfl,⟨s,B,l,d,G,f⟩,R,a⟩:=hrel;generalize wr=wy at *;have au:(0:Int)<=(j:Int):=by omega
  cases gk with
  |zero=>
   obtain rfl:j=m:=t.out;have cG:=G.g2;go_wp2_with fail
   go_region_held3 (fun w'=>C2 w' (w.1.size+1) (.bool s) (.slice B l d))
    (first|(with_reducible exact G.up.k2)|(with_reducible exact fQ (by omega) (fQ (by omega) (fQ (by omega) (fQ (by omega) G.up.k2)))))
    (first
     |(go_at_call 37;refine(H _ (hv.be a).up).mono ?_;rintro e3 w3 ⟨v3,rfl,e,z⟩;obtain⟨s3,I,k3,L,rfl⟩:=e.form;have:=St.mk z)
     |(go_at_call 38;refine(S _ _ e.up).mono ?_;rintro N w4 ⟨v4,rfl,h4,C⟩;obtain⟨s4,A4,k4,c4,rfl⟩:=h4.form;have:=St.mk C)
     |(go_at_call 39;refine(ac _ _ _ (o.be a).up f.up h4.up).mono ?_;rintro e5 w5 ⟨v5,rfl,h5,g⟩;obtain⟨s5,A5,k5,c5,s6,A6,k6,c6,rfl⟩:=h5.form;have:=St.mk g)
     |(go_at_call 97;refine(ad _).mono ?_;rintro e7 w7 ⟨v7,rfl,h7,aj⟩;obtain⟨s7,A7,k7,c7,s8,A8,k8,c8,rfl⟩:=h7.form;have:=St.mk aj)
     |(go_at_call 63;refine(U _ _ _ (o.be a).up h5.up h7.up).mono ?_;rintro e9 w9 ⟨v9,rfl,h9,ak⟩;obtain⟨s1,A1,k1,c1,s2,A2,k2,c2,rfl⟩:=h9.form;have:=St.mk ak;have R9:=R.up (b:=w9);have an:=R9.g4))
   all_goals (
    go_wp2_with fail;obtain⟨W6,x,R6,V,hk,ff⟩:=R9.put4 (bJ (b:=w9) a) aE (.bool s1) (.slice A1 k1 c1) (.bool s2) (.slice A2 k2 c2) rfl rfl;rw[x];exact aM (v:= .agg #[.bool s1,.slice A1 k1 c1,.bool s2,.slice A2 k2 c2]) (by simp[results,results43,go_sem,R6.k4]) rfl ⟨_,rfl,h9.ke hk,V⟩)
  |succ k=>
   have aw:j<m:=by have:=t.out;omega
   have av:(j:Int)<(m:Int):=by omega
   obtain⟨n,hn⟩:∃n,ns[j]? =some n:=⟨_,aR (by omega)⟩;have ag:=KH hn;have kn:=y n (dG hn);obtain⟨b,s',B',l',d',ah,ar,g0,g1,E⟩:=(hv.be a).at_ hn;subst ah;have T:=fun W v h=>J3 n v W h;have D:=fun W u v h p=>BX (n.natAbs:Int) (jE (ns.take j)) u v W h p (by rw[dD];omega) (aH (bG j) (by omega));have ae:=aB ag;unfold dW at T;unfold eO at D;obtain⟨P,hP⟩:∃P,bZ (n.natAbs:Int) (jE (ns.take j))=P:=⟨_,rfl⟩;have ai:=kJ (n.natAbs:Int) (jE (ns.take j));rw[hP] at D ai;clear ag hn H S ac ad U Z hP;generalize jE (ns.take j)=O at *;obtain⟨w2,e2,r,X⟩:=bI wy [.bool s',.slice B' l' d'] 60;replace G:=G.be r;replace R:=R.be r;replace f:=f.be r;replace E:=E.be r;replace a:=aC a r;have cX:=X.k2;go_wp2_with fail;(try rw[e2]);(try clear e2);refine(T _ _ E).mono ?_;rintro e3 w3 ⟨v3,rfl,e,z⟩;obtain⟨s3,I,k3,L,rfl⟩:=e.form;obtain⟨w4,N,C,Y⟩:=bI w3 [.bool s3,.slice I k3 L] 60;have q:=aC z C;replace G:=G.be q;replace R:=R.be q;replace f:=f.be q;replace e:=e.be C;replace a:=aC a q;have cY:=aa Y.k2 G.k2;clear cX X E g0 g1;go_wp2_with fail;(try rw[N]);(try clear N);refine(D _ _ _ e f).mono ?_;rintro e5 w5 ⟨rfl,g⟩;replace Y:=Y.be g;replace G:=G.be g;replace R:=R.be g;replace f:=f.be g;replace e:=e.be g;replace a:=aC a g;have aq:=Y.lt;have a1:=q.size;have cY:=aa Y.k2 G.g2;clear T D;by_cases ay:O<(n.natAbs:Int)
   ·obtain rfl:P=1:=by omega
    go_wp2_with fail;obtain⟨W6,x,G6,V,hk,ff⟩:=G.put2 a (by omega) (.bool s3) (.slice I k3 L) rfl rfl;rw[x];clear x;go_roundg k
    case rel=>exact⟨j+1,by have:=t.out;unfold Hid;omega,by go_num,⟨_,_,_,_,G6,by rw[ae.out,if_pos (show O<(n.natAbs:Int) by omega)];exact e.ke hk⟩,ff R (by omega),V⟩
    case measure=>omega
   ·have ap:¬(0:Int)<P:=by omega
    go_wp2;go_roundg k
    case rel=>exact⟨j+1,by have:=t.out;unfold Hid;omega,by go_num,⟨_,_,_,_,G,by rw[ae.out,if_neg (show¬O<(n.natAbs:Int) by omega)];exact f⟩,R,a⟩
    case measure=>omega
def ZA(v:Value):Prop:=∃s A k c,v= .agg #[.bool s,.slice A k c]
def ZC(w':World)(a:List (List UInt8))(E:Int)(v b:Value):Prop:=E=0->∃D,vl a=true∧a≠[]∧ComDen (aU a) D 8∧WholeAt w' v (cC (aU a) D)∧IntAt w' b D
def uK(w:World)(a:List (List UInt8))(e:Ending)(w':World):Prop:=∃A k c b,e= .returned (.tuple #[.slice A k c,b,.int .i64 (dM a)])∧ZA b∧ZC w' a (dM a) (.slice A k c) b∧Below w.1.size w w'
def NatAt.uniqI{b:Nat}(m:NatAt w u a)(n:NatAt w u b):a=b:=by
 obtain⟨A,c,rfl,_,r,_⟩:=m;obtain⟨t,v,e,_,s,_⟩:=n;simp only[Value.slice.injEq] at e;obtain⟨rfl,x,_⟩:=e;have q:dg a=dg b:=by
  refine aq6 (fun i=> ?_);by_cases f:i<nl a
  ·have j:i<nl b:=by omega
   rcases r with h|⟨g,z,rfl,_,o⟩
   ·rw[<-aK,h] at f;simp at f
   ·rcases s with h|⟨y,B,l,_,p⟩
    ·rw[<-aK,h] at j;simp at j
    ·simp only[Option.some.injEq,Addr.mk.injEq] at l;obtain⟨rfl,rfl,_⟩:=l;have k:=o i (by rw[aK];exact f);have d:=p i (by rw[aK];exact j);rw[k] at d;simp only[Option.some.injEq,Value.int.injEq,true_and] at d;rw[aR (by rw[aK];exact f),aR (by rw[aK];exact j)];rw[eE,eE,aR (by rw[aK];exact f),aR (by rw[aK];exact j)] at d;exact congrArg some d
  ·rw[fU (by rw[aK];omega),fU (by rw[aK];omega)]
 have k:=cU a;have d:=cU b;rw[q,d] at k;omega
def IntAt.uniqI{x y:Int}(c:IntAt w v x)(d:IntAt w v y):x=y:=by
 obtain⟨u,rfl,a⟩:=c;obtain⟨g,e,b⟩:=d;simp at e;obtain⟨f,rfl⟩:=e;have:=a.uniqI b;omega
def WholeAt.offI{l:Nat}{x m:Int}(h:WholeAt w (.slice A l c) (x :: ns))(q:IntBx w g m)(t:x≠m):∀b,A=some ⟨b,0,none⟩->b≠g:=fun b e p=>by
 subst p;obtain⟨v,s,B,z,d,j,_,k,o,hi⟩:=h.at_ (i:=0) (n:=x) rfl;rw[e] at j;simp only[Option.some.injEq,Addr.mk.injEq] at j;obtain⟨rfl,_⟩:=j;obtain⟨D,u,y,c',C,r⟩:=q;have a:=C.cell 0 rfl;have f:=C.cell 1 rfl;rw[azW] at k o;rw[k] at a;rw[o] at f;injection a with a;injection f with f;rw[a,f] at hi;exact t (hi.uniqI r)
def WholeAt.apart{B:Option Addr}{l k:Nat}{s:Bool}(h:WholeAt w (.slice A l c) ns)(o:ns≠[])(p:aN ns)(j:Bx w g [.bool s,.slice B k d] 60)(q:IntAt w (.agg #[.bool s,.slice B k d]) 0):∀b,A=some ⟨b,0,none⟩->b≠g:=fun b e m=>by
 subst m;cases ns with
 |nil=>exact o rfl
 |cons x ns=>
  cases ns with
  |nil=>exact h.offI ⟨_,_,_,_,j,q⟩ (p x rfl) b e rfl
  |cons y ns=>
   obtain⟨t,z,r,v,d',a,_,f,u,hi⟩:=h.at_ (i:=1) (n:=y) rfl;rw[e] at a;simp only[Option.some.injEq,Addr.mk.injEq] at a;obtain⟨rfl,_⟩:=a;rw[cell_of_row w b _ _ _ _ j] at f;simp at f
def exJ(B:Nat)(w':World)(a:List (List UInt8))(E:Int)(v b:Value):Prop:=E=0->∃D,vl a=true∧a≠[]∧ComDen (aU a) D B∧WholeAt w' v (cC (aU a) D)∧IntAt w' b D
def XS(B:Nat)(w:World)(a:List (List UInt8))(e:Ending)(w':World):Prop:=∃A k c b,e= .returned (.tuple #[.slice A k c,b,.int .i64 (dM a)])∧ZA b∧exJ B w' a (dM a) (.slice A k c) b∧Below w.1.size w w'
def dyQ(d:List (List UInt8))(K:Nat)(v:Value)(w:World)(B:Glob w)(hv:StrsAt w v d)(hl:d.length<=7)(T:∀l∈d,l.length<=1073741824)(N:∀q∈aU d,RL K q)(ae:K<=1048576):Calls prog 35 #[v] w (XS (1+7*K) w d):=by
 obtain⟨A,c,rfl,hc⟩:=hv.form;have X:=fun W B hv=>VD d (.slice A d.length c) W B hv (by omega) (fun _=>T) K (1+7*K) 7 (fun _=>N) (fun _=>hl) (by decide) aE (by unfold aJ;omega);have S:(aU d).length=d.length:=cH _;unfold XS;have P:=uL d;obtain⟨E,M⟩:∃E,dM d=E:=⟨_,rfl⟩;rw[M] at P⊢;clear M N T;obtain⟨W,J,a,R⟩:=bI w [.bool false,.slice none 0 0] 60;have cM:=R.g2;go_enter func35,ntmps35;go_wp2_with fail;(try rw[J]);clear J;refine(X _ (B.be a) (hv.be a)).mono ?_;rintro e1 w1 ⟨v1,ah,xs,D,rfl,s,t,u,O⟩;obtain⟨Z,c1,rfl,ag⟩:=s.form;obtain⟨k,g,j,i,rfl⟩:=t.form;replace R:=R.be O;replace a:=aC a O;have af:=R.lt;obtain⟨w2,n,x,F⟩:=bI w1 [.bool k,.slice g j i] 60;replace R:=R.be x;replace s:=s.be x;replace t:=t.be x;replace a:=aC a x;have cF:=F.k2;have cM:=aa R.g2 F.k2;clear X;rcases P with ⟨rfl,f,p⟩|⟨rfl,f⟩|⟨rfl,f,p⟩
 ·obtain⟨rfl,r⟩:=u f;have y:(cC (aU d) D).length=d.length:=by rw[oN,S]
  have Q:(cC (aU d) D).length≠0:=fun e=>p (bX (by omega));have V:=oO r.pos r.dvd (pJ f).2.2;have ad:=s.apart (fun e=>Q (by rw[e];rfl)) V R (IntAt.zero _);have q0:(((cC (aU d) D).length:Int)==0)=false:=by rw[beq_eq_false_iff_ne];omega
  have z:=aB (And.intro f (And.intro p r));rw[f];clear u f p r y Q V;obtain⟨H,G⟩:∃H,cC (aU d) D=H:=⟨_,rfl⟩;have ac:=aB G;rw[G] at s q0⊢;clear G;go_wp2_with fail;(try rw[n]);(try clear n);go_region
  all_goals (
   go_wp2_with fail;obtain⟨-,U⟩:=IntBx.stored (w:=w2) (b:=w.1.size) (m:=0) ⟨_,_,_,_,R,IntAt.zero _⟩ t;have Y:=s.step U ad;clear U;obtain⟨I,o,R,a,C,L⟩:=R.put2 a (by omega) (.bool k) (.slice g j i) rfl rfl;rw[o] at Y;have zD:=t.ke C;rw[o];exact aM (v:= .tuple #[.slice Z H.length c1,.agg #[.bool k,.slice g j i],.int .i64 0]) (by simp[results,results35,go_sem,R.k2]) rfl ⟨_,_,_,_,rfl,⟨_,_,_,_,rfl⟩,(fun _=>⟨D,z.out.1,z.out.2.1,z.out.2.2,by rw[ac.out];exact Y.drew,zD.drew⟩),a.drew⟩)
 ·rw[f];clear u f;go_wp2_with fail;(try rw[n]);(try clear n);go_region
  all_goals (
   go_wp2_with fail;obtain⟨I,o,R,a,C,L⟩:=R.put2 a (by omega) (.bool k) (.slice g j i) rfl rfl;rw[o];exact aM (v:= .tuple #[.slice none 0 0,.agg #[.bool k,.slice g j i],.int .i64 1]) (by simp[results,results35,go_sem,R.k2]) rfl ⟨_,_,_,_,rfl,⟨_,_,_,_,rfl⟩,(fun h=>absurd h (by decide)),a.drew⟩)
 ·obtain⟨rfl,r⟩:=u f;have y:(cC (aU d) D).length=0:=by rw[oN,S,p];rfl
  rw[f,y];clear u f p r y;go_wp2_with fail;(try rw[n]);(try clear n);go_region
  all_goals (
   go_wp2_with fail;obtain⟨I,o,R,a,C,L⟩:=R.put2 a (by omega) (.bool k) (.slice g j i) rfl rfl;rw[o];exact aM (v:= .tuple #[.slice none 0 0,.agg #[.bool k,.slice g j i],.int .i64 5]) (by simp[results,results35,go_sem,R.k2]) rfl ⟨_,_,_,_,rfl,⟨_,_,_,_,rfl⟩,(fun h=>absurd h (by decide)),a.drew⟩)
def D5(a:List (List UInt8))(v:Value)(w:World)(d:Glob w)(hv:StrsAt w v a)(b:a.length<=7)(c:∀l∈a,l.length<=6):Calls prog 35 #[v] w (uK w a):=dyQ a 1 v w d hv b (fun l h=>aH (c l h) (by decide)) (pI (fun l b=>aH (c l b) (by decide))) (by decide)
def Euc.mono{a g:List Int}(h:Euc B a b g)(e:B<=d):Euc d a b g:=by
 induction h with
 |done a=>exact .done a
 |one c=>exact .one c
 |step c h t f=>exact .step c (h.mono e) f
def Sqp.mono{w s:List Int}(h:Sqp B w s)(d:B<=a):Sqp a w s:=by
 obtain⟨g,b,c⟩:=h.out;exact⟨⟨g,b.mono d,c⟩,h.ne,h.ts⟩
def KR{l:List UInt8}(h:l.length<=18):RL 1 (m5 l):=by
 unfold m5;split
 ·exact iG (mC 1)
 ·cases hr:cL l with
  |none=>exact iG (mC 1)
  |some q=>exact lS hr h
def KT(l:List UInt8){d:Int}(h: -1<=d∧d<=1): -1<=lC l d∧lC l d<=1:=by
 unfold lC;split
 ·exact h
 ·decide
def oS(c:List (List UInt8))(a b:List UInt8):Int:=if dM c=1∨nJ a=false∨nJ b=false then 1 else dM c
def KU(A:List Rat)(i:Int)(x:Rat)(j:Int)(y:Rat)(E n:Int):Prop:=(E≠0->n=0)∧(E=0->CntR A i x j y n)
def uM(w:World)(c:List (List UInt8))(a b:List UInt8)(e:Ending)(w':World):Prop:=∃n:Int,e= .returned (.tuple #[.int .i64 n,.int .i64 (oS c a b)])∧ -1024<=n∧n<=1024∧KU (aU c) (lC a (-1)) (m5 a) (lC b 1) (m5 b) (oS c a b) n∧Below w.1.size w w'
def ZD(f:List (List UInt8))(a b:List UInt8)(v:Value)(w:World)(j:Glob w)(hv:StrsAt w v f)(y:f.length<=7)(hs:∀l∈f,l.length<=6)(ha:a.length<=12)(a1:b.length<=12):
  Calls prog 64 #[v,.string ⟨a.toArray⟩,.string ⟨b.toArray⟩] w (uM w f a b):=by
 obtain⟨A,c,rfl,hc⟩:=hv.form;have ak:=fun W j h=>D5 f (.slice A f.length c) W j h y hs;have ah:=fun W j=>J2 a (-1) W j (by omega);have ai:=fun W j=>J2 b 1 W j (by omega);have ra:=bU (KR (l:=a) (by omega)) (show 1<=30000000 by decide);have rb:=bU (KR (l:=b) (by omega)) (show 1<=30000000 by decide);have ia:=KT a (d:= -1) (by decide);have ib:=KT b (d:=1) (by decide);have ap:∀q∈aU f,RL 1 q:=pI (fun l y=>aH (hs l y) (by decide));have aw:(aU f).length=f.length:=cH _;unfold uK at ak;unfold J1 at ah ai;unfold uM;have i:oS f a b=if dM f=1∨nJ a=false∨nJ b=false then 1 else dM f:=rfl;have hR:=uL f;obtain⟨E,ao⟩:∃E,oS f a b=E:=⟨_,rfl⟩;rw[ao] at i⊢;clear ao;generalize dM f=R at *;generalize nJ a=oa at *;generalize nJ b=z at *;generalize lC a (-1)=I at *;generalize lC b 1=J at *;generalize m5 a=B at *;generalize m5 b=C at *;go_enter func64,ntmps64;go_wp2_with fail;refine(ak _ j hv).mono ?_;rintro e1 w1 ⟨A1,k1,c1,a2,rfl,⟨s2,A2,k2,c2,rfl⟩,H,g⟩;obtain⟨w2,e2,ac,F⟩:=bI w1 [.bool s2,.slice A2 k2 c2] 60;replace g:=aC g ac;replace H:R=0->∃D,vl f=true∧f≠[]∧ComDen (aU f) D 8∧WholeAt w2 (.slice A1 k1 c1) (cC (aU f) D):=fun h=>by
  obtain⟨D,U,V,m,Z,p⟩:=H h;exact⟨D,U,V,m,Z.be ac⟩
 have am:=aB H;clear H ak;have cF:=F.k2;go_wp2_with fail;(try rw[e2]);(try clear e2);refine(ah _ (j.be g)).mono ?_;rintro e3 w3 ⟨v3,rfl,m,ad⟩;obtain⟨s4,L,k4,P,s5,M,k5,Q,rfl⟩:=m.form;obtain⟨w4,e4,ae,X⟩:=bI w3 [.bool s4,.slice L k4 P,.bool s5,.slice M k5 Q,.int .i64 I] 107;replace m:=m.be ae;have G:=aC ad ae;replace g:=aC g G;have cX:=X.k5;clear ah;go_wp2_with fail;(try rw[e4]);(try clear e4);refine(ai _ (j.be g)).mono ?_;rintro e5 w5 ⟨v5,rfl,p,af⟩;obtain⟨s6,N,k6,S,s7,O,k7,T,rfl⟩:=p.form;obtain⟨w6,k,ag,Y⟩:=bI w5 [.bool s6,.slice N k6 S,.bool s7,.slice O k7 T,.int .i64 J] 107;replace p:=p.be ag;have t:=aC af ag;replace m:=m.be t;replace X:=X.be t;replace g:=aC g t;have an:=aC G t;have cX:=X.k5;have cY:=Y.k5;clear ai;rcases hR with ⟨rfl, -, -⟩|⟨rfl, -⟩|⟨rfl, -, -⟩
 ·cases oa with
  |false=>
   obtain rfl:E=1:=by rw[i];rfl
   clear i;cases z
   all_goals (
    go_wp2_with fail;all_goals (try rw[k])
    all_goals (try clear k)
    all_goals go_ret2
    all_goals exact⟨0,rfl,by decide,by decide,⟨fun _=>rfl,(fun h=>absurd h (by decide))⟩,g⟩
   )
  |true=>
   cases z with
   |false=>
    obtain rfl:E=1:=by rw[i];rfl
    clear i;go_wp2_with fail;all_goals (try rw[k])
    all_goals (try clear k)
    all_goals go_ret2
    all_goals exact⟨0,rfl,by decide,by decide,⟨fun _=>rfl,(fun h=>absurd h (by decide))⟩,g⟩
   |true=>
    obtain rfl:E=0:=by rw[i];rfl
    clear i;obtain⟨D,al,h0,x,K⟩:=am.out rfl;replace K:=K.be an;have ar:(cC (aU f) D).length=f.length:=by rw[oN,aw]
    have au:cC (aU f) D≠[]:=fun e=>h0 (bX (by rw[<-ar,e];rfl));have ax:=oO x.pos x.dvd (pJ al).2.2;have aj:=sA _ D 1 _ ap x.nl_;have av:=nM (uE x (pJ al).2.2);obtain⟨A8,c8,e8, -⟩:=K.form;simp only[Value.slice.injEq] at e8;obtain⟨rfl,rfl,rfl⟩:=e8;have a0:=fun W j h=>CZ (cC (aU f) D) (.slice A1 (cC (aU f) D).length c1) W j h ax au (by omega) aj;have aq:=fun s W u j h (o:Sqp 24057 (aS (cC (aU f) D)) s) (r:Sz s) m p=>J0 s I J B C u (.agg #[.bool s4,.slice L k4 P,.bool s5,.slice M k5 Q,.int .i64 I]) (.agg #[.bool s6,.slice N k6 S,.bool s7,.slice O k7 T,.int .i64 J]) W j h o.ts o.ne r m p ia ib ra rb;unfold xA at aq
    have HF:Hid (∀s n,Sqp 24057 (aS (cC (aU f) D)) s->Sz s->(jO I B J C=false->n=0)->(jO I B J C=true->∃c,StT 110079 s (aS (bB s)) c∧n=fF s c I B J C)->CntR (aU f) I B J C n):=fun s n o r U V=>⟨U,fun y=>by
     obtain⟨c,m,Z⟩:=V y;exact⟨_,s,c,av,⟨⟨o.mono (by decide),m⟩,o,r,by rw[dF];omega,gU aj⟩,Z⟩⟩
    clear am al h0 x ar au ax aj av ap aw G t an ac ad ae af ag;generalize cC (aU f) D=ns at *;go_wp2_with fail;(try rw[k]);(try clear k)
    go_region_held3 (fun w'=>C5 w' w3.1.size (.bool s4) (.slice L k4 P) (.bool s5) (.slice M k5 Q) (.int .i64 I)∧C5 w' w5.1.size (.bool s6) (.slice N k6 S) (.bool s7) (.slice O k7 T) (.int .i64 J)) (with_reducible exact⟨X.up.k5,Y.up.k5⟩)
     (first
      |(go_at_call 36;refine(a0 _ (j.be g).up K.up).mono ?_;rintro e7 w7 ⟨v7,s,rfl,h7,o,r,ay⟩;have:=St.mk ay)
      |(go_at_call 110;refine(aq s _ _ (j.be g).up h7.up o r m.up p.up).mono ?_;rintro e9 w9 ⟨n,rfl,n1,n2,n3,n4,az⟩;have:=St.mk az))
    all_goals (
     go_wp2;go_ret2;exact⟨n,rfl,n1,n2,⟨(fun h=>absurd rfl h),(fun _=>HF.out s n o r n3 n4)⟩,bJ (b:=w9) g⟩)
 ·obtain rfl:E=1:=by rw[i,if_pos (.inl rfl)]
  clear i;cases oa<;>cases z
  all_goals (
   go_wp2_with fail;all_goals (try rw[k])
   all_goals (try clear k)
   all_goals go_ret2
   all_goals exact⟨0,rfl,by decide,by decide,⟨fun _=>rfl,(fun h=>absurd h (by decide))⟩,g⟩
  )
 ·cases oa with
  |false=>
   obtain rfl:E=1:=by rw[i];rfl
   clear i;cases z
   all_goals (
    go_wp2_with fail;all_goals (try rw[k])
    all_goals (try clear k)
    all_goals go_ret2
    all_goals exact⟨0,rfl,by decide,by decide,⟨fun _=>rfl,(fun h=>absurd h (by decide))⟩,g⟩
   )
  |true=>
   cases z with
   |false=>
    obtain rfl:E=1:=by rw[i];rfl
    clear i;go_wp2_with fail;all_goals (try rw[k])
    all_goals (try clear k)
    all_goals go_ret2
    all_goals exact⟨0,rfl,by decide,by decide,⟨fun _=>rfl,(fun h=>absurd h (by decide))⟩,g⟩
   |true=>
    obtain rfl:E=5:=by rw[i];rfl
    clear i;go_wp2_with fail;all_goals (try rw[k])
    all_goals (try clear k)
    all_goals go_ret2
    all_goals exact⟨0,rfl,by decide,by decide,⟨fun _=>rfl,(fun h=>absurd h (by decide))⟩,g⟩
def KV(a:List (List UInt8))(v:Value)(w:World)(d:Glob w)(hv:StrsAt w v a)(e:a.length<=7)(f:∀l∈a,l.length<=6):
  Calls prog 20 #[v] w (uM w a [] []):=by
 obtain⟨A,c,rfl,i⟩:=hv.form;have h:=ZD a [] [] (.slice A a.length c) w d hv e f (by decide) (by decide);unfold uM at *;generalize oS a [] []=E at *;go_enter func20,ntmps20;go_wp2_with fail;refine h.mono ?_;rintro g j ⟨n,rfl,b⟩;go_wp2;go_ret2;exact⟨n,rfl,b⟩
end Go.Proofs.YtjgbleapffgbcaaGreatDoor
namespace Go.Proofs.YtjgbleapffgbcaaGreatDoor
open Sos
variable{a s w:List Int}
def jF(A:List Rat):Rat:=Y6 (cf A (A.length-1)) (A.take (A.length-1))+1
def czJ{A:List Rat}(h:Prp A a)(l:aN a)(i:a≠[]):rZ a=jF A:=by
 obtain⟨c,j,rfl⟩:=h.eq_smul;have f:=(dR i).1 l;have k:(1:Rat)/c≠0:=by
  intro e;have:(1:Rat)/c*c=1:=by rw[gW j]
  rw[e,aqQ] at this;exact absurd this (by decide)
 have g:=Z2 f k (a.take (a.length-1));have b:∀n:Int,(n:Rat)/(1/c)=c*(n:Rat):=fun n=>by grind
 have d:(a.take (a.length-1)).map (fun n:Int=>(n:Rat)/(1/c))=(aT c a).take (a.length-1):=by
  unfold aT;rw[<-List.map_take];exact by3 (fun n _=>b n)
 rw[b,d] at g;unfold rZ jF;rw[fX,dS,g]
def ZE:aT 1 [-2,0,1]=[-2,0,1]:=by
 unfold aT;simp only[fM,aqJ,azF];rfl
def D6:Prp [-2,0,1] [-2,0,1]:=by
 have h:=jY (c:=1) (l:=[-2,0,1]) (by decide) (oB rfl);rw[show([-2,0,1]:List Int).map (fun n:Int=>(1:Rat)*(n:Rat))=[-2,0,1] from ZE] at h;exact h
def ZF:jF [-2,0,1]=3:=by
 rw[<-czJ D6 (oB rfl) (by simp)];have a:jE (([-2,0,1]:List Int).take (([-2,0,1]:List Int).length-1))=2:=by decide
 have b:((cf ([-2,0,1]:List Int) (([-2,0,1]:List Int).length-1)).natAbs:Int)=1:=by decide
 unfold rZ;rw[a,b];have c:((2:Int):Rat)=2:=rfl;have d:((1:Int):Rat)=1:=rfl;rw[c,d];grind
def ZG:Pw 3 2:=by
 refine⟨by decide,fun m a=> ?_⟩;rcases(show m=0∨m=1 by omega) with rfl|rfl<;>decide
def ZH{c:List (List Int)}(f:Prp [-2,0,1] w)(h:Cn 110079 w s c):ExK 110079 y7 (fun x=>aY 0 ((s :: c).map (fun a=>aP a 0 x))) (fun x=>aP s 0 x) (((-((2:Int)^2):Int)):Rat) ((((2:Int)^2:Int)):Rat) [(-4,0),(0,4)]:=by
 have b:(((-((2:Int)^2):Int)):Rat)= -4:=by decide
 have d:((((2:Int)^2:Int)):Rat)=4:=by decide
 rw[b,d];have k:=fun x=>h.same KQ (by decide) (by decide) f D6 0 x;obtain⟨l,m,n⟩:=Z6;obtain⟨g,i,j⟩:=Z7;refine(Z3 ⟨?_,?_,?_⟩ ⟨fun e=> ?_,fun e=> ?_,fun e=> ?_⟩).mono (by decide)
 ·exact(k (-4)).1.trans l
 ·exact(k 0).1.trans m
 ·exact(k 4).1.trans n
 ·rw[(k (-4)).2,g] at e;exact absurd e (by decide)
 ·rw[(k 0).2,i] at e;exact absurd e (by decide)
 ·rw[(k 4).2,j] at e;exact absurd e (by decide)
end Go.Proofs.YtjgbleapffgbcaaGreatDoor
namespace Go.Proofs.YtjgbleapffgbcaaGreatDoor
open Go.RowKit Sos
variable{w w':World}{g:Nat}{f:Rat}
def RatBx(w:World)(g:Nat)(f:Rat):Prop:=∃s1 A1 k1 c1 s2 A2 k2 c2,Bx w g [.bool s1,.slice A1 k1 c1,.bool s2,.slice A2 k2 c2] 76∧RatAt w (.agg #[.bool s1,.slice A1 k1 c1,.bool s2,.slice A2 k2 c2]) f
def RatBx.be(h:RatBx w g f)(a:Below w.1.size w w'):RatBx w' g f:=by
 obtain⟨s1,A1,k1,c1,s2,A2,k2,c2,b,c⟩:=h;exact⟨s1,A1,k1,c1,s2,A2,k2,c2,b.be a,c.be a⟩
def RatBx.lt(h:RatBx w g f):g<w.1.size:=by
 obtain⟨s1,A1,k1,c1,s2,A2,k2,c2,a,b⟩:=h;exact a.lt
section
variable {W0 w:World}{g:Nat}{s1 s2:Bool}{A1 A2:Option Addr}{k1 c1 k2 c2:Nat}{f:Rat}{v:Value}{ns:List Int}
end
abbrev zR:List Value:=[.bool false,.slice none 0 0,.bool false,.slice none 0 0]
section
variable {W0 w:World}{g:Nat}{q:Rat}{s s':Bool}{A A':Option Addr}{l c l' c':Nat}
end
def KM.setRow{cur cs:Array Value}{e:TypeId}(f:w.heap[g]? =some (.cells cur e (0,0)))(hn:∀u∈cur.toList,NoInt u):KM w (w.setRow g cs):=
 ⟨by simp[World.setRow],fun p k x c=>by
  obtain⟨b,o,h⟩:=p;obtain rfl:h=none:=World.cell?_spot c;by_cases d:b=g
  ·subst d;rw[cell_of_row w b o cur e (0,0) f,<-Array.getElem?_toList] at c;exact absurd rfl (hn _ (dG c) k x)
  ·exact(World.cell?_of_block (setRow_other w g b cs d)).trans c⟩
section
variable {w:World}{ops:Array Oper}{rest:List Oper}{o:Oper}{a:Act}{Q:Exit->Act->World->Prop}
end
