/- Laws. -/
import Derived.Test.YtjgbleapffgbcaaGreatDoorV10
import Derived.Test.YtjgbleapffgbcaaGreatDoorV11
import Derived.Test.YtjgbleapffgbcaaGreatDoorV12
set_option linter.all false
set_option maxHeartbeats 8000000
set_option maxRecDepth 99999
namespace Go.Proofs.YtjgbleapffgbcaaGreatDoor
open Sos
variable{x y:Rat}
def BR(x y:Rat)(h:Nat.gcd x.den y.den=1):(x+y).num=x.num*y.den+y.num*x.den∧(x+y).den=x.den*y.den:=by
 show(Rat.add x y).num=_∧(Rat.add x y).den=_
 unfold Rat.add;simp[h]
def UB(x y:Rat)(g:Nat)(b:Nat.gcd x.den y.den=g)(a:g≠1)(n:Int)(hn:n=x.num*((y.den/g:Nat):Int)+y.num*((x.den/g:Nat):Int)):
  (x+y).num=n/((Nat.gcd n.natAbs g:Nat):Int)∧(x+y).den=x.den/g*y.den/Nat.gcd n.natAbs g:=by
 subst b;subst hn;show(Rat.add x y).num=_∧(Rat.add x y).den=_
 unfold Rat.add;simp[a]
def IU(a b:Nat):(a:Int).tdiv (b:Int)=((a/b:Nat):Int):=by
 rw[Int.tdiv_eq_ediv_of_nonneg (by omega)];exact(azR a b).symm
def BS(x y:Rat)(g r:Nat)(l t n:Int)(h:g=Nat.gcd x.den y.den)(b:l=(y.den:Int).tdiv g)(a:t=(x.den:Int).tdiv g)(hn:n=x.num*l+y.num*t)(f:r=Nat.gcd n.natAbs g):
  (x+y).num=n.tdiv r∧(((x+y).den:Nat):Int)=t*(y.den:Int).tdiv r:=by
 have p:=x.den_nz;have q:=y.den_nz;have k:r∣g:=f ▸ azU _ _;have i:g∣y.den:=h ▸ azU _ _;have m:(r:Int)∣n:=Int.ofNat_dvd_left.2 (f ▸ aqX _ _);have o:r∣y.den:=bzF k i;rw[IU] at b a;rw[IU];by_cases e:g=1
 ·obtain⟨c,d⟩:=BR x y (h ▸ e);have j:r=1:=by rw[f,e];simp
  rw[e] at b a;simp only[Nat.div_one] at b a;rw[c,d,j,hn,b,a];simp
 ·obtain⟨c,d⟩:=UB x y g h.symm e n (by rw[hn,b,a]);rw[<-f] at c d;rw[c,d,a,bzN m];refine⟨rfl,?_⟩;rw[Nat.mul_div_assoc _ o];simp
def UC{g:Nat}{l t n:Int}(b:g=Nat.gcd x.den y.den)(c:l=(y.den:Int).tdiv g)(d:t=(x.den:Int).tdiv g)(hn:n=x.num*l+y.num*t)(a:n=0):x+y=0:=by
 have:=(BS x y g _ l t n b c d hn rfl).1;rw[a] at this;exact Rat.num_eq_zero.1 (by rw[this];simp)
def BT(h:x.den=1):(x+y).num=x.num*y.den+y.num∧(x+y).den=y.den:=by
 obtain⟨a,b⟩:=BR x y (by rw[h];simp);rw[a,b,h];simp
def UD(h:y.den=1):(x+y).num=y.num*x.den+x.num∧(x+y).den=x.den:=by
 obtain⟨a,b⟩:=BR x y (by rw[h];simp);rw[a,b,h];simp;omega
def wW{K:Nat}(e:RL K x)(f:RL K y):RL (2*K+1) (x+y):=by
 obtain⟨c,d⟩:=BS x y _ _ _ _ _ rfl rfl rfl rfl rfl;obtain⟨j,k⟩:=e;obtain⟨l,b⟩:=f;have g:=jN (y.den:Int) (Nat.gcd x.den y.den:Int) K b;have a:=jN (x.den:Int) (Nat.gcd x.den y.den:Int) K k;have i:=wX _ _ _ (gT _ _ _ _ j g) (gT _ _ _ _ l a);refine⟨?_,?_⟩
 ·rw[c];exact jN _ _ _ (aH i (by omega))
 ·have h:nl (((x+y).den:Nat):Int).natAbs<=K+K:=by
   rw[d];exact gT _ _ _ _ a (jN _ _ _ b)
  exact aH h (by omega)
end Go.Proofs.YtjgbleapffgbcaaGreatDoor
namespace Go.Proofs.YtjgbleapffgbcaaGreatDoor
open Go.RowKit Sos Tryz
variable{a w:World}{u v:Value}{b d f:Option Addr}{o:Obj}{e i j:Bool}{c':Nat}
def RatAt.denN{s a:Bool}{b:Value}{q:Rat}(h:RatAt w (.agg #[.bool s,u,.bool a,b]) q)(c:q.den≠1):IntAt w (.agg #[.bool a,b]) (q.den:Int):=by
 have:=h.den;rwa [mI c] at this
def J7(x y:Rat)(vx vy:Value)(w:World)(u:RatAt w vx x)(B:RatAt w vy y)(z:x.den=1)(D:y.den=1)(K:Nat)(bx:RL K x)(bY:RL K y)(hK:10*K+40<=aJ):
  Calls prog 63 #[vx,vy] w (iF w (x+y)):=by
 obtain⟨s,A,k,c,V,E,S,I,rfl⟩:=u.form;obtain⟨t,C,l,e,t',G,U,N,rfl⟩:=B.form;unfold aJ at hK;have⟨ac,ad⟩:=bx;have⟨ae,af⟩:=bY;obtain⟨o,p⟩:=BT (y:=y) z;rw[D] at o p;have H:Hid ((x+y).num=x.num+y.num∧bS (x+y)=0):=⟨by rw[o];simp,fV.2 p⟩;have L:bS x=0:=fV.2 z;have M:bS y=0:=fV.2 D;clear o p;obtain⟨W,O,a,X,Y,R⟩:=gE w [.bool s,.slice A k c,.bool V,.slice E S I] 76 [.bool t,.slice C l e,.bool t',.slice G U N] 76 [.bool false,.slice none 0 0,.bool false,.slice none 0 0] 76;have n:=aa X.g4 (aa Y.g4 R.g4);go_enter func63,ntmps63;go_wp2_with fail;(try rw[O]);clear O;have i:IntAt W (.agg #[.bool s,.slice A k c]) x.num:=(u.be a).num;have h:IntAt W (.agg #[.bool V,.slice E S I]) 0:=by have:=(u.be a).den;rwa [L] at this
 have m:IntAt W (.agg #[.bool t,.slice C l e]) y.num:=(B.be a).num;have j:IntAt W (.agg #[.bool t',.slice G U N]) 0:=by have:=(B.be a).den;rwa [M] at this
 clear L M z D;generalize x.num=xn at *;generalize y.num=yn at *;refine(g9 0 _ _ h tO).mono ?_;rintro o w1 ⟨rfl,d⟩;replace X:=X.be d;replace Y:=Y.be d;replace R:=R.be d;replace n:=aa X.k4 (aa Y.k4 R.g4);replace b:=Keep.be d;replace i:=i.ke b;replace h:=h.ke b;replace m:=m.ke b;replace j:=j.ke b;replace a:=aC a d;have g:decide ((0:Int)=0)=true:=rfl;rw[g];clear g;go_wp2_with fail;refine(g9 0 _ _ j tO).mono ?_;rintro p w2 ⟨rfl,f⟩;replace X:=X.be f;replace Y:=Y.be f;replace R:=R.be f;replace n:=aa X.k4 (aa Y.k4 R.g4);replace b:=Keep.be f;replace i:=i.ke b;replace h:=h.ke b;replace m:=m.ke b;replace j:=j.ke b;replace a:=aC a f;have g:decide ((0:Int)=0)=true:=rfl;rw[g];clear g;go_wp2_with fail;refine(rJ xn yn _ _ _ i m (by omega) (by omega)).mono ?_;rintro e5 w5 ⟨v5,rfl,q,r⟩;obtain⟨Z,F,T,J,rfl⟩:=q.form;replace X:=X.be r;replace Y:=Y.be r;replace R:=R.be r;replace n:=aa X.k4 (aa Y.k4 R.g4);replace a:=aC a r;go_wp2_with fail;obtain⟨W6,P,R,a,b,Q⟩:=R.put4 a (by omega) (.bool Z) (.slice F T J) (.bool false) (.slice none 0 0) rfl rfl;replace X:=Q X (by omega);replace Y:=Q Y (by omega);replace q:=q.ke b;rw[P];clear P;replace n:=aa X.k4 (aa Y.k4 R.k4);exact aM (v:= .agg #[.bool Z,.slice F T J,.bool false,.slice none 0 0]) (by simp[results,results63,go_sem,R.k4]) rfl ⟨_,rfl,RatAt.of q (IntAt.zero _) H.out.1 H.out.2,a⟩
def UZ(x y:Rat)(vx vy:Value)(w:World)(L:RatAt w vx x)(N:RatAt w vy y)(M:x.den=1)(O:y.den≠1)(K:Nat)(Z:RL K x)(V:RL K y)(hK:10*K+40<=aJ):
  Calls prog 63 #[vx,vy] w (iF w (x+y)):=by
 obtain⟨s,A,k,c,Q,H,P,I,rfl⟩:=L.form;obtain⟨t,C,l,e,D,m,B,n,rfl⟩:=N.form;unfold aJ at hK;have⟨af,ag⟩:=Z;have⟨ak,ac⟩:=V;obtain⟨J,E⟩:=BT (y:=y) M;have U:Hid ((x+y).num=x.num*y.den+y.num∧bS (x+y)=y.den):=⟨J,by rw[mI (by rw[E];exact O),E]⟩;have dx:bS x=0:=fV.2 M;clear J E;obtain⟨W,eW,b,X,Y,R⟩:=gE w [.bool s,.slice A k c,.bool Q,.slice H P I] 76 [.bool t,.slice C l e,.bool D,.slice m B n] 76 [.bool false,.slice none 0 0,.bool false,.slice none 0 0] 76;have i:=aa X.g4 (aa Y.g4 R.g4);go_enter func63,ntmps63;go_wp2_with fail;(try rw[eW]);clear eW;have f:IntAt W (.agg #[.bool s,.slice A k c]) x.num:=(L.be b).num;have h:IntAt W (.agg #[.bool Q,.slice H P I]) 0:=by have:=(L.be b).den;rwa [dx] at this
 have g:IntAt W (.agg #[.bool t,.slice C l e]) y.num:=(N.be b).num;have d:IntAt W (.agg #[.bool D,.slice m B n]) (y.den:Int):=(N.be b).denN O;have ae:decide ((y.den:Int)=0)=false:=by have:=y.den_nz;simpa using this
 have ah:nl (y.den:Int).natAbs<=K:=ac;clear dx M O ac V Z ag;generalize x.num=S at *;generalize y.num=yn at *;generalize (y.den:Int)=G at *;have al:=gT S G K K af ah;refine(g9 0 _ _ h tO).mono ?_;rintro J w1 ⟨rfl,o⟩;replace X:=X.be o;replace Y:=Y.be o;replace R:=R.be o;replace i:=aa X.k4 (aa Y.k4 R.g4);replace a:=Keep.be o;replace f:=f.ke a;replace h:=h.ke a;replace g:=g.ke a;replace d:=d.ke a;replace b:=aC b o;have z:decide ((0:Int)=0)=true:=rfl;rw[z];clear z;go_wp2_with fail;refine(g9 G _ _ d (by omega)).mono ?_;rintro E w2 ⟨rfl,p⟩;replace X:=X.be p;replace Y:=Y.be p;replace R:=R.be p;replace i:=aa X.k4 (aa Y.k4 R.g4);replace a:=Keep.be p;replace f:=f.ke a;replace h:=h.ke a;replace g:=g.ke a;replace d:=d.ke a;replace b:=aC b p;rw[ae];clear ae;go_wp2_with fail;refine(g9 0 _ _ h tO).mono ?_;rintro e3 w3 ⟨rfl,q⟩;replace X:=X.be q;replace Y:=Y.be q;replace R:=R.be q;replace i:=aa X.k4 (aa Y.k4 R.g4);replace a:=Keep.be q;replace f:=f.ke a;replace h:=h.ke a;replace g:=g.ke a;replace d:=d.ke a;replace b:=aC b q;have z:decide ((0:Int)=0)=true:=rfl;rw[z];clear z;go_wp2_with fail;replace f:=f.drew;replace g:=g.drew;replace d:=d.drew;replace X:=X.drew;replace Y:=Y.drew;replace R:=R.drew;replace b:=b.drew;replace i:=aa X.k4 (aa Y.k4 R.g4);have ai:w.1.size+1+1≠w.1.size:=by omega
 have aj:w.1.size+1+1≠w.1.size+1:=by omega
 go_region_held3 (fun w'=>C4 w' w.1.size (.bool s) (.slice A k c) (.bool Q) (.slice H P I)∧C4 w' (w.1.size+1) (.bool t) (.slice C l e) (.bool D) (.slice m B n))
  (first|(with_reducible exact⟨X.k4,Y.k4⟩)|(refine⟨?_,?_⟩<;>(repeat (first|with_reducible exact X.k4|with_reducible exact Y.k4|with_reducible refine kK ai ?_|with_reducible refine kK aj ?_))))
  (first
   |(go_at_call 34;refine(jB S G _ _ _ f d (by omega)).mono ?_;rintro e4 w4 ⟨v4,rfl,F,r⟩;obtain⟨s4,A4,k4,c4,rfl⟩:=F.form;replace X:=X.be r;replace Y:=Y.be r;replace R:=R.be r;replace i:=aa X.k4 (aa Y.k4 R.g4);replace a:=Keep.be r;replace f:=f.ke a;replace g:=g.ke a;replace d:=d.ke a;(try replace j:=j.ke a);replace b:=aC b r)
   |(go_at_call 109;refine(rJ (S*G) yn _ _ _ F g (by omega) (by omega)).mono ?_;rintro e5 w5 ⟨v5,rfl,j,u⟩;obtain⟨s5,T,k5,c5,rfl⟩:=j.form;replace X:=X.be u;replace Y:=Y.be u;replace R:=R.be u;replace i:=aa X.k4 (aa Y.k4 R.g4);replace a:=Keep.be u;replace f:=f.ke a;replace g:=g.ke a;replace d:=d.ke a;(try replace F:=F.ke a);replace b:=aC b u))
 all_goals (
  go_wp2_with fail;obtain⟨W6,ad,R,b,a,ff⟩:=R.put4 b (by omega) (.bool s5) (.slice T k5 c5) (.bool D) (.slice m B n) rfl rfl;replace X:=ff X (by omega);replace Y:=ff Y (by omega);replace j:=j.ke a;replace d:=d.ke a;rw[ad];clear ad;replace i:=aa X.k4 (aa Y.k4 R.k4);exact aM (v:= .agg #[.bool s5,.slice T k5 c5,.bool D,.slice m B n]) (by simp[results,results63,go_sem,R.k4]) rfl ⟨_,rfl,RatAt.of j d U.out.1 U.out.2,b⟩;)
def J8(x y:Rat)(vx vy:Value)(w:World)(J:RatAt w vx x)(M:RatAt w vy y)(L:x.den≠1)(N:y.den=1)(K:Nat)(Z:RL K x)(V:RL K y)(hK:10*K+40<=aJ):
  Calls prog 63 #[vx,vy] w (iF w (x+y)):=by
 obtain⟨s,A,k,c,B,m,z,n,rfl⟩:=J.form;obtain⟨t,C,l,e,P,G,O,H,rfl⟩:=M.form;unfold aJ at hK;have⟨al,ac⟩:=Z;have⟨ag,ah⟩:=V;obtain⟨I,E⟩:=UD (x:=x) N;have U:Hid ((x+y).num=y.num*x.den+x.num∧bS (x+y)=x.den):=⟨I,by rw[mI (by rw[E];exact L),E]⟩;have dy:bS y=0:=fV.2 N;clear I E;obtain⟨W,eW,b,X,Y,R⟩:=gE w [.bool s,.slice A k c,.bool B,.slice m z n] 76 [.bool t,.slice C l e,.bool P,.slice G O H] 76 [.bool false,.slice none 0 0,.bool false,.slice none 0 0] 76;have h:=aa X.g4 (aa Y.g4 R.g4);go_enter func63,ntmps63;go_wp2_with fail;(try rw[eW]);clear eW;have f:IntAt W (.agg #[.bool s,.slice A k c]) x.num:=(J.be b).num;have i:IntAt W (.agg #[.bool P,.slice G O H]) 0:=by have:=(M.be b).den;rwa [dy] at this
 have g:IntAt W (.agg #[.bool t,.slice C l e]) y.num:=(M.be b).num;have d:IntAt W (.agg #[.bool B,.slice m z n]) (x.den:Int):=(J.be b).denN L;have af:decide ((x.den:Int)=0)=false:=by have:=x.den_nz;simpa using this
 have ai:nl (x.den:Int).natAbs<=K:=ac;clear dy L N ah V Z ac;generalize x.num=xn at *;generalize y.num=Q at *;generalize (x.den:Int)=D at *;have T:=aB af;clear af;have am:=gT Q D K K ag ai;refine(g9 D _ _ d (by omega)).mono ?_;rintro I w1 ⟨rfl,o⟩;replace X:=X.be o;replace Y:=Y.be o;replace R:=R.be o;replace h:=aa X.k4 (aa Y.k4 R.g4);replace a:=Keep.be o;replace f:=f.ke a;replace d:=d.ke a;replace g:=g.ke a;replace i:=i.ke a;replace b:=aC b o;rw[T.out];go_wp2_with fail;refine(g9 D _ _ d (by omega)).mono ?_;rintro E w2 ⟨rfl,p⟩;replace X:=X.be p;replace Y:=Y.be p;replace R:=R.be p;replace h:=aa X.k4 (aa Y.k4 R.g4);replace a:=Keep.be p;replace f:=f.ke a;replace d:=d.ke a;replace g:=g.ke a;replace i:=i.ke a;replace b:=aC b p;rw[T.out];go_wp2_with fail;refine(g9 0 _ _ i tO).mono ?_;rintro e3 w3 ⟨rfl,q⟩;replace X:=X.be q;replace Y:=Y.be q;replace R:=R.be q;replace h:=aa X.k4 (aa Y.k4 R.g4);replace a:=Keep.be q;replace f:=f.ke a;replace d:=d.ke a;replace g:=g.ke a;replace i:=i.ke a;replace b:=aC b q;have ae:decide ((0:Int)=0)=true:=rfl;rw[ae];clear ae;go_wp2_with fail;replace f:=f.drew;replace g:=g.drew;replace d:=d.drew;replace X:=X.drew;replace Y:=Y.drew;replace R:=R.drew;replace b:=b.drew;replace h:=aa X.k4 (aa Y.k4 R.g4);have aj:w.1.size+1+1≠w.1.size:=by omega
 have ak:w.1.size+1+1≠w.1.size+1:=by omega
 go_region_held3 (fun w'=>C4 w' w.1.size (.bool s) (.slice A k c) (.bool B) (.slice m z n)∧C4 w' (w.1.size+1) (.bool t) (.slice C l e) (.bool P) (.slice G O H))
  (first|(with_reducible exact⟨X.k4,Y.k4⟩)|(refine⟨?_,?_⟩<;>(repeat (first|with_reducible exact X.k4|with_reducible exact Y.k4|with_reducible refine kK aj ?_|with_reducible refine kK ak ?_))))
  (first
   |(go_at_call 34;refine(jB Q D _ _ _ g d (by omega)).mono ?_;rintro e4 w4 ⟨v4,rfl,F,r⟩;obtain⟨s4,A4,k4,c4,rfl⟩:=F.form;replace X:=X.be r;replace Y:=Y.be r;replace R:=R.be r;replace h:=aa X.k4 (aa Y.k4 R.g4);replace a:=Keep.be r;replace f:=f.ke a;replace g:=g.ke a;replace d:=d.ke a;(try replace j:=j.ke a);replace b:=aC b r)
   |(go_at_call 109;refine(rJ (Q*D) xn _ _ _ F f (by omega) (by omega)).mono ?_;rintro e5 w5 ⟨v5,rfl,j,u⟩;obtain⟨s5,S,k5,c5,rfl⟩:=j.form;replace X:=X.be u;replace Y:=Y.be u;replace R:=R.be u;replace h:=aa X.k4 (aa Y.k4 R.g4);replace a:=Keep.be u;replace f:=f.ke a;replace g:=g.ke a;replace d:=d.ke a;(try replace F:=F.ke a);replace b:=aC b u))
 all_goals (
  go_wp2_with fail;obtain⟨W6,ad,R,b,a,ff⟩:=R.put4 b (by omega) (.bool s5) (.slice S k5 c5) (.bool B) (.slice m z n) rfl rfl;replace X:=ff X (by omega);replace Y:=ff Y (by omega);replace j:=j.ke a;replace d:=d.ke a;rw[ad];clear ad;replace h:=aa X.k4 (aa Y.k4 R.k4);exact aM (v:= .agg #[.bool s5,.slice S k5 c5,.bool B,.slice m z n]) (by simp[results,results63,go_sem,R.k4]) rfl ⟨_,rfl,RatAt.of j d U.out.1 U.out.2,b⟩;)
section
variable {w w' w1 w2:World}{g g':Nat}{m n n':Int}{s:Bool}{A:Option Addr}{l c:Nat}
def ua(h:Below w.1.size w w'):Below w.1.size w (w'.alloc o):=h.alloc h.size o
def ud(h:Below w.1.size w w'):Below w.1.size w w'.drew:=h.drew
def ut(h:Below w.1.size w w1)(k:Below w1.1.size w1 w2):Below w.1.size w w2:=aC h k
def us{o:Nat}(h:Below w.1.size w w')(a:w.1.size<=g):Below w.1.size w (w'.setCell ⟨g,o,none⟩ v):=h.setCell (p:=⟨g,o,none⟩) a v
def J9(h:IntAt w (.agg #[.bool s,.slice A l c]) n)(a:w.1.size=g):IntBx (w.alloc (.cells #[.bool s,.slice A l c] 60)) g n:=
 ⟨_,_,_,_,Bx.newAt w [.bool s,.slice A l c] 60 g a,h.ke (Keep.alloc _ _)⟩
def xC(h:IntAt w (.agg #[.bool s,.slice A l c]) n):IntBx (w.alloc (.cells #[.bool s,.slice A l c] 60)) w.1.size n:=J9 h rfl
def V3(h:IntAt (w.alloc o) (.agg #[.bool s,.slice A l c]) n):IntBx ((w.alloc o).alloc (.cells #[.bool s,.slice A l c] 60)) (w.1.size+1) n:=J9 h (World.size_alloc _ _)
def xD(h:IntBx w g n):IntBx (w.alloc o) g n:=h.be ((aG _ _).alloc aE _)
def xE(h:IntBx w g m)(hn:IntAt w (.agg #[.bool s,.slice A l c]) n):IntBx ((w.setCell ⟨g,0,none⟩ (.bool s)).setCell ⟨g,1,none⟩ (.slice A l c)) g n:=(h.stored hn).1
def C0(a:IntBx w g' m)(hn:IntAt w (.agg #[.bool s,.slice A l c]) n')(b:g≠g')(h:IntBx w g n):IntBx ((w.setCell ⟨g',0,none⟩ (.bool s)).setCell ⟨g',1,none⟩ (.slice A l c)) g n:=h.step (a.stored hn).2 b
def zb(D:Bx w g [.bool false,.slice none 0 0] 60):IntBx w g 0:=⟨_,_,_,_,D,IntAt.zero _⟩
def V4(h:IntAt w (.agg #[.bool s,.slice A l c]) n)(b:Below a.1.size a w):IntBx (w.alloc (.cells #[.bool s,.slice A l c] 60)) w.1.size n∧Below a.1.size a (w.alloc (.cells #[.bool s,.slice A l c] 60)):=⟨xC h,ua b⟩
def V6(I:IntBx w g m)(h:IntAt w (.agg #[.bool s,.slice A l c]) n)(d:Below a.1.size a w)(b:a.1.size<=g):
  IntBx ((w.setCell ⟨g,0,none⟩ (.bool s)).setCell ⟨g,1,none⟩ (.slice A l c)) g n∧Below a.1.size a ((w.setCell ⟨g,0,none⟩ (.bool s)).setCell ⟨g,1,none⟩ (.slice A l c)):=⟨xE I h,us (us d b) b⟩
def V7(a:IntBx w g' m)(hn:IntAt w (.agg #[.bool s,.slice A l c]) n')(h:IntAt w v n):IntAt ((w.setCell ⟨g',0,none⟩ (.bool s)).setCell ⟨g',1,none⟩ (.slice A l c)) v n:=h.ke (a.stored hn).2.1
def x3{d:World}{t:Int}{i:Nat}(I:IntBx w g m)(J:IntBx w g' t)(h:IntAt w (.agg #[.bool s,.slice A l c]) n)(k:IntAt w (.agg #[.bool j,.slice f i c']) n')(q:g≠g')(r:Below d.1.size d w)(o:d.1.size<=g)(p:d.1.size<=g'):
  IntBx ((((w.setCell ⟨g,0,none⟩ (.bool s)).setCell ⟨g,1,none⟩ (.slice A l c)).setCell ⟨g',0,none⟩ (.bool j)).setCell ⟨g',1,none⟩ (.slice f i c')) g n∧
  IntBx ((((w.setCell ⟨g,0,none⟩ (.bool s)).setCell ⟨g,1,none⟩ (.slice A l c)).setCell ⟨g',0,none⟩ (.bool j)).setCell ⟨g',1,none⟩ (.slice f i c')) g' n'∧
  Below d.1.size d ((((w.setCell ⟨g,0,none⟩ (.bool s)).setCell ⟨g,1,none⟩ (.slice A l c)).setCell ⟨g',0,none⟩ (.bool j)).setCell ⟨g',1,none⟩ (.slice f i c')):=by
 have a:=xE I h;have b:=C0 I h (fun e=>q e.symm) J;have c:=V7 I h k;exact⟨C0 b c q a,xE b c,us (us (us (us r o) o) p) p⟩
def tR{b:World}{a:Option Addr}{d:Nat}(h:IntAt w (.agg #[.bool s,.slice A l c]) n)(k:IntAt w (.agg #[.bool e,.slice a d c']) n')(f:Below b.1.size b w):
  IntBx ((w.alloc (.cells #[.bool s,.slice A l c] 60)).alloc (.cells #[.bool e,.slice a d c'] 60)) w.1.size n∧
  IntBx ((w.alloc (.cells #[.bool s,.slice A l c] 60)).alloc (.cells #[.bool e,.slice a d c'] 60)) (w.1.size+1) n'∧
  Below b.1.size b ((w.alloc (.cells #[.bool s,.slice A l c] 60)).alloc (.cells #[.bool e,.slice a d c'] 60)):=
 ⟨xD (xC h),V3 (k.ke (Keep.alloc _ _)),ua (ua f)⟩
def xF{e:World}{f:Nat}(h:IntAt w (.agg #[.bool s,.slice A l c]) n)(k:IntAt w (.agg #[.bool i,.slice d f c']) n')(j:Below e.1.size e w):
  IntBx ((w.alloc (.cells #[.bool i,.slice d f c'] 60)).alloc (.cells #[.bool s,.slice A l c] 60)) (w.1.size+1) n∧
  IntBx ((w.alloc (.cells #[.bool i,.slice d f c'] 60)).alloc (.cells #[.bool s,.slice A l c] 60)) w.1.size n'∧
  Below e.1.size e ((w.alloc (.cells #[.bool i,.slice d f c'] 60)).alloc (.cells #[.bool s,.slice A l c] 60)):=by
 obtain⟨a,b,c⟩:=tR k h j;exact⟨b,a,c⟩
def xG{d:Nat}(h:IntAt w (.agg #[.bool s,.slice A l c]) n)(k:IntAt w (.agg #[.bool e,.slice b d c']) n')(J:IntBx w g' m)(i:Below a.1.size a w)(f:a.1.size<=g'):
  IntBx (((w.alloc (.cells #[.bool s,.slice A l c] 60)).setCell ⟨g',0,none⟩ (.bool e)).setCell ⟨g',1,none⟩ (.slice b d c')) w.1.size n∧
  IntBx (((w.alloc (.cells #[.bool s,.slice A l c] 60)).setCell ⟨g',0,none⟩ (.bool e)).setCell ⟨g',1,none⟩ (.slice b d c')) g' n'∧
  Below a.1.size a (((w.alloc (.cells #[.bool s,.slice A l c] 60)).setCell ⟨g',0,none⟩ (.bool e)).setCell ⟨g',1,none⟩ (.slice b d c')):=
 ⟨C0 (xD J) (k.ke (Keep.alloc _ _)) (by have:=J.lt;omega) (xC h),xE (xD J) (k.ke (Keep.alloc _ _)),us (us (ua i) f) f⟩
def xH{d:Nat}(I:IntBx w g m)(h:IntAt w (.agg #[.bool s,.slice A l c]) n)(k:IntAt w (.agg #[.bool e,.slice b d c']) n')(f:Below a.1.size a w)(i:a.1.size<=g):
  IntBx (((((w.alloc (.cells #[.bool false,.slice none 0 0] 60)).setCell ⟨g,0,none⟩ (.bool s)).setCell ⟨g,1,none⟩ (.slice A l c)).setCell ⟨w.1.size,0,none⟩ (.bool e)).setCell ⟨w.1.size,1,none⟩ (.slice b d c')) g n∧
  IntBx (((((w.alloc (.cells #[.bool false,.slice none 0 0] 60)).setCell ⟨g,0,none⟩ (.bool s)).setCell ⟨g,1,none⟩ (.slice A l c)).setCell ⟨w.1.size,0,none⟩ (.bool e)).setCell ⟨w.1.size,1,none⟩ (.slice b d c')) w.1.size n'∧
  Below a.1.size a (((((w.alloc (.cells #[.bool false,.slice none 0 0] 60)).setCell ⟨g,0,none⟩ (.bool s)).setCell ⟨g,1,none⟩ (.slice A l c)).setCell ⟨w.1.size,0,none⟩ (.bool e)).setCell ⟨w.1.size,1,none⟩ (.slice b d c')):=
 x3 (xD I) (xC (IntAt.zero _)) (h.ke (Keep.alloc _ _)) (k.ke (Keep.alloc _ _)) (by have:=I.lt;omega) (ua f) i f.size
end
