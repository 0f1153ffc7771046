/- Laws. -/
import Derived.Test.YticcgnnefilhcaaGreatDoorT18
set_option linter.all false
set_option maxHeartbeats 8000000
set_option maxRecDepth 99999
namespace Go.Proofs.YticcgnnefilhcaaGreatDoor
open Go.RowKit Sos
end Go.Proofs.YticcgnnefilhcaaGreatDoor
namespace Go.Proofs.YticcgnnefilhcaaGreatDoor
open Sos Lib
variable{K:Nat}{q:Rat}
def iG(h:1<=K):RL K 0:=⟨by show nl 0<=K;rw[dO];omega,by show nl 1<=K;exact aH (cJ (by decide)) h⟩
def C7(h:RL K q):RL K (-q):=⟨by rw[show(-q).num= -q.num from rfl,B4];exact h.1,h.2⟩
def bU{L:Nat}(h:RL K q)(a:K<=L):RL L q:=⟨aH h.1 a,aH h.2 a⟩
def JA{n k:Nat}(h:(decDigits n).length<=k)(d:k<=18):nl n<=1:=by
 refine cJ ?_;have a:=tI (oL n);rw[mQ] at a;have b:10^(decDigits n).length<=10^18:=cO (by decide) (by omega);have c:10^18<BN^1:=by decide
 omega
def tS{t:List UInt8}(h:dyS t=some q)(c:t.length<=18):RL 1 q:=by
 have e:=tL h;have a:(cW q).length<=18:=by rw[e];exact c
 unfold cW at a;rw[bG,bG] at a;refine⟨JA (k:=18) (by omega) (by decide),?_⟩;by_cases b:q.den=1
 ·rw[b];exact cJ (by decide)
 ·rw[if_neg b,eG] at a;exact JA (k:=18) (by omega) (by decide)
def pI{a:List (List UInt8)}(h:∀l∈a,l.length<=18):∀q∈aU a,RL 1 q:=fun q c=>by
 obtain⟨l,b,rfl⟩:=List.mem_map.1 c;cases hr:dyS l with
 |none=>exact iG (mC 1)
 |some q=>exact tS hr (h l b)
end Go.Proofs.YticcgnnefilhcaaGreatDoor
namespace Go.Proofs.YticcgnnefilhcaaGreatDoor
open Go.RowKit Sos Tryz
def exP(x:Rat)(y:Value)(w:World)(k:RatAt w y x)(A:nl x.num.natAbs<=17592186044416):Calls prog 30 #[y] w (iF w (-x)):=by
 obtain⟨t,l,r,n,i,d,h,e,rfl⟩:=k.form;obtain⟨W,p,a,X,R⟩:=D8 w [.bool t,.slice l r n,.bool i,.slice d h e] 47 [.bool false,.slice none 0 0,.bool false,.slice none 0 0] 47;have j:=aa X.g4 R.g4;go_enter func30,ntmps30;go_wp2_with fail;(try rw[p]);clear p;have hn:=(k.be a).num;have b:=(k.be a).den;replace hn:=hn.drew;replace b:=b.drew;replace X:=X.drew;replace R:=R.drew;replace a:=a.drew;replace j:=aa X.k4 R.g4;have B:w.1.size+1≠w.1.size:=by omega
 go_region_held3 (fun C=>C4 C w.1.size (.bool t) (.slice l r n) (.bool i) (.slice d h e))
  (first|(with_reducible exact X.k4)|((repeat (first|with_reducible exact X.k4|with_reducible refine kK B ?_))))
  (first
   |(go_at_call 79;refine(sQ _ _ _ hn A).mono ?_;rintro E G ⟨F,rfl,f,g⟩;obtain⟨u,m,s,o,rfl⟩:=f.form;replace X:=X.be g;replace R:=R.be g;replace j:=aa X.k4 R.g4;replace c:=Keep.be g;replace hn:=hn.ke c;replace b:=b.ke c;replace a:=aC a g))
 all_goals (
  go_wp2_with fail;obtain⟨D,q,R,a,c,z⟩:=R.put4 a (by omega) (.bool u) (.slice m s o) (.bool i) (.slice d h e) rfl rfl;replace X:=z X (by omega);replace f:=f.ke c;replace b:=b.ke c;rw[q];clear q;replace j:=aa X.k4 R.k4;exact aM (v:= .agg #[.bool u,.slice m s o,.bool i,.slice d h e]) (by simp[results,results30,go_sem,R.k4]) rfl ⟨_,rfl,RatAt.of f b rfl rfl,a⟩
 )
def UR(x y:Rat)(g h:Nat)(a:g=Nat.gcd x.num.natAbs y.den)(b:h=Nat.gcd y.num.natAbs x.den):
  (x*y).num=x.num.tdiv (g:Int)*y.num.tdiv (h:Int)∧((x*y).den:Int)=(x.den:Int).tdiv (h:Int)*(y.den:Int).tdiv (g:Int):=by
 subst a b;show(Rat.mul x y).num=_∧((Rat.mul x y).den:Int)=_
 unfold Rat.mul;refine⟨?_,?_⟩
 ·simp only[Int.divExact_eq_tdiv]
 ·simp only[Nat.divExact_eq_div];rw[<-Int.ofNat_tdiv,<-Int.ofNat_tdiv];simp
def US(w:World)(a b:Int)(e:Ending)(w':World):Prop:=∃v u,e= .returned (.tuple #[v,u])∧IntAt w' v a∧IntAt w' u b∧Below w.1.size w w'
def J6(n d:Int)(vn vd:Value)(w:World)(hG:Glob w)(hn:IntAt w vn n)(c:IntAt w vd d)(au:n≠0)(g:Nat)(A:g=Nat.gcd n.natAbs d.natAbs)(K:Nat)(U:nl n.natAbs<=K)(bd:nl d.natAbs<=K)(hK:10*K+10<=aJ):
  Calls prog 108 #[vn,vd] w (US w (n.tdiv g) (d.tdiv g)):=by
 obtain⟨D,r,B,t,rfl⟩:=hn.form;obtain⟨E,s,C,u,rfl⟩:=c.form;have N:(g:Int)≠0:=by
  have:=cz1 d.natAbs (show 0<n.natAbs by omega);omega
 have ar:nl g<=K:=by rw[A];exact wQ _ _ _ (by omega) U
 unfold aJ at hK;obtain⟨W,eW,a,X,Y,R,S⟩:=BL w [.bool D,.slice r B t] 43 [.bool E,.slice s C u] 43 [.bool false,.slice none 0 0] 43 [.bool false,.slice none 0 0] 43;have i:=aa X.g2 (aa Y.g2 (aa R.g2 S.g2));go_enter func108,ntmps108;go_wp2_with fail;(try rw[eW]);clear eW;replace hn:=hn.be a;replace c:=c.be a;refine(n6 d _ _ c (by omega)).mono ?_;rintro e3 w3 ⟨rfl,p⟩;replace X:=X.be p;replace Y:=Y.be p;replace R:=R.be p;replace S:=S.be p;replace i:=aa X.k2 (aa Y.k2 (aa R.g2 S.g2));replace b:=Keep.be p;replace hn:=hn.ke b;replace c:=c.ke b;replace a:=aC a p;by_cases h:d=1
 ·have z:decide (d=1)=true:=decide_eq_true h;have ac:g=1:=by rw[A,h];simp
  have T:Hid (n.tdiv g=n∧d.tdiv g=d):=by unfold Hid;rw[ac];exact⟨Int.tdiv_one n,Int.tdiv_one d⟩
  rw[z];clear z ac A N h;go_wp2_with fail;go_region
  all_goals (
   go_wp2_with fail;obtain⟨U0,x,R,a,b,e⟩:=R.put2 a (by omega) (.bool D) (.slice r B t) rfl rfl;replace X:=e X (by omega);replace Y:=e Y (by omega);replace S:=e S (by omega);replace hn:=hn.ke b;replace c:=c.ke b;obtain⟨W6,y,S,a,b,e⟩:=S.put2 a (by omega) (.bool E) (.slice s C u) rfl rfl;replace X:=e X (by omega);replace Y:=e Y (by omega);replace R:=e R (by omega);replace hn:=hn.ke b;replace c:=c.ke b;rw[x,y];clear x y;replace i:=aa X.k2 (aa Y.k2 (aa R.k2 S.k2));exact aM (v:= .tuple #[.agg #[.bool D,.slice r B t],.agg #[.bool E,.slice s C u]]) (by simp[results,results108,go_sem,R.k2,S.k2]) rfl ⟨_,_,rfl,by rw[T.out.1];exact hn,by rw[T.out.2];exact c,a.drew⟩
  )
 ·have z:decide (d=1)=false:=decide_eq_false h;rw[z];clear z h;go_wp2_with fail;refine(qF n d _ _ _ (hG.be a) hn c K U bd (by unfold aJ;omega)).mono ?_;rintro e4 L ⟨v4,rfl,f,q⟩;obtain⟨J,F,I,H,rfl⟩:=f.form;replace X:=X.be q;replace Y:=Y.be q;replace R:=R.be q;replace S:=S.be q;replace i:=aa X.k2 (aa Y.k2 (aa R.g2 S.g2));replace b:=Keep.be q;replace hn:=hn.ke b;replace c:=c.ke b;replace a:=aC a q;rw[<-A] at f;clear A;go_wp2_with fail;have af:=X.lt;have ag:=Y.lt;have ad:=R.lt;have ae:=S.lt;have aj:=a.size;obtain⟨w5,ab,o,G⟩:=bI L [.bool J,.slice F I H] 43;replace X:=X.be o;replace Y:=Y.be o;replace R:=R.be o;replace S:=S.be o;replace b:=Keep.be o;replace a:=aC a o;replace f:=f.ke b;replace hn:=hn.ke b;replace c:=c.ke b;rw[ab];clear ab;replace i:=aa X.k2 (aa Y.k2 (aa R.g2 (aa S.g2 G.k2)));have ah:=fun W h M=>mZ n g (.agg #[.bool D,.slice r B t]) (.agg #[.bool J,.slice F I H]) W h M N (by show nl n.natAbs+4*nl g+4<=_;omega);have ai:=fun W h M=>mZ d g (.agg #[.bool E,.slice s C u]) (.agg #[.bool J,.slice F I H]) W h M N (by show nl d.natAbs+4*nl g+4<=_;omega);replace hn:=hn.drew;replace c:=c.drew;replace f:=f.drew;replace X:=X.drew;replace Y:=Y.drew;replace R:=R.drew;replace S:=S.drew;replace G:=G.drew;replace a:=a.drew;replace i:=aa X.k2 (aa Y.k2 (aa R.g2 (aa S.g2 G.k2)));have al:w.1.size+1+1≠w.1.size:=by omega
  have am:w.1.size+1+1≠w.1.size+1:=by omega
  have ak:w.1.size+1+1≠L.1.size:=by omega
  have ao:w.1.size+1+1+1≠w.1.size:=by omega
  have ap:w.1.size+1+1+1≠w.1.size+1:=by omega
  have an:w.1.size+1+1+1≠L.1.size:=by omega
  go_region_held3 (fun O=>C2 O w.1.size (.bool D) (.slice r B t)∧C2 O (w.1.size+1) (.bool E) (.slice s C u)∧C2 O L.1.size (.bool J) (.slice F I H))
   (first|(with_reducible exact⟨X.k2,Y.k2,G.k2⟩)|(refine⟨?_,?_,?_⟩<;>(repeat (first|with_reducible exact X.k2|with_reducible exact Y.k2|with_reducible exact G.k2|with_reducible refine fQ al ?_|with_reducible refine fQ am ?_|with_reducible refine fQ ak ?_|with_reducible refine fQ ao ?_|with_reducible refine fQ ap ?_|with_reducible refine fQ an ?_))))
   (first
    |(go_at_call 82;(with_reducible refine(ah _ hn f).mono ?_);rintro e7 w7 ⟨v7,rfl,j,l⟩;obtain⟨s7,P,k7,V,rfl⟩:=j.form;replace X:=X.be l;replace Y:=Y.be l;replace R:=R.be l;replace S:=S.be l;replace G:=G.be l;replace i:=aa X.k2 (aa Y.k2 (aa R.g2 (aa S.g2 G.k2)));replace b:=Keep.be l;replace hn:=hn.ke b;replace c:=c.ke b;replace f:=f.ke b;(try replace k:=k.ke b);replace a:=aC a l)
    |(go_at_call 82;(with_reducible refine(ai _ c f).mono ?_);rintro e8 w8 ⟨v8,rfl,k,m⟩;obtain⟨s8,Q,k8,Z,rfl⟩:=k.form;replace X:=X.be m;replace Y:=Y.be m;replace R:=R.be m;replace S:=S.be m;replace G:=G.be m;replace i:=aa X.k2 (aa Y.k2 (aa R.g2 (aa S.g2 G.k2)));replace b:=Keep.be m;replace hn:=hn.ke b;replace c:=c.ke b;replace f:=f.ke b;(try replace j:=j.ke b);replace a:=aC a m))
  all_goals (
   go_wp2_with fail;have af:=X.lt;have ag:=Y.lt;have ad:=R.lt;have ae:=S.lt;have aq:=G.lt;have aj:=a.size;obtain⟨U0,x,R,a,b,e⟩:=R.put2 a (by omega) (.bool s7) (.slice P k7 V) rfl rfl;replace X:=e X (by omega);replace Y:=e Y (by omega);replace S:=e S (by omega);replace G:=e G (by omega);replace j:=j.ke b;replace k:=k.ke b;obtain⟨W6,y,S,a,b,e⟩:=S.put2 a (by omega) (.bool s8) (.slice Q k8 Z) rfl rfl;replace X:=e X (by omega);replace Y:=e Y (by omega);replace R:=e R (by omega);replace G:=e G (by omega);replace j:=j.ke b;replace k:=k.ke b;rw[x,y];clear x y;replace i:=aa X.k2 (aa Y.k2 (aa R.k2 (aa S.k2 G.k2)));exact aM (v:= .tuple #[.agg #[.bool s7,.slice P k7 V],.agg #[.bool s8,.slice Q k8 Z]]) (by simp[results,results108,go_sem,R.k2,S.k2]) rfl ⟨_,_,rfl,j,k,a⟩
  )
def UT(x y:Rat)(vx vy:Value)(w:World)(hG:Glob w)(hx:RatAt w vx x)(hy:RatAt w vy y)(j:¬(x.den=1∧y.den=1))(ao:y.num≠0)(K:Nat)(bx:RL K x)(bY:RL K y)(hK:10*K+20<=aJ):
  Calls prog 46 #[vx,vy] w (iF w (x*y)):=by
 obtain⟨P,B,N,F,s2,U,k2,c2,rfl⟩:=hx.form;obtain⟨Q,C,O,G,s4,V,k4,c4,rfl⟩:=hy.form;unfold aJ at hK;obtain⟨g,hg⟩:∃g,g=Nat.gcd x.num.natAbs y.den:=⟨_,rfl⟩;obtain⟨h,hh⟩:∃h,h=Nat.gcd y.num.natAbs x.den:=⟨_,rfl⟩;have HP:=aB (UR x y g h hg hh);have⟨aq,ar⟩:=bx;have⟨au,av⟩:=bY;have a7:=fun W h=>tN x (.agg #[.bool P,.slice B N F,.bool s2,.slice U k2 c2]) W h (by omega);have a8:=fun W h=>tN y (.agg #[.bool Q,.slice C O G,.bool s4,.slice V k4 c4]) W h (by omega);have a5:=fun W u hG j n am=>J6 x.num y.den (.agg #[.bool P,.slice B N F]) u W hG j n am g hg K aq av (by unfold aJ;omega);have a6:=fun W u hG j n am=>J6 y.num x.den (.agg #[.bool Q,.slice C O G]) u W hG j n am h hh K au ar (by unfold aJ;omega);have cl:=jN x.num g K aq;have cm:=jN y.num h K au;have bk:=jN (y.den:Int) g K av;have bm:=jN (x.den:Int) h K ar;have co:=mY x;have cq:=mY y;have ai:bS x=0->bS y≠0:=fun e1 e2=>j ⟨fV.1 e1,fV.1 e2⟩;have bc:x.num=0->x*y=0:=fun h=>by rw[Rat.num_eq_zero.1 h,azS]
 have HZ:=aB bc;clear bc j hg hh;obtain⟨W,eW,c,X,Y,R⟩:=gE w [.bool P,.slice B N F,.bool s2,.slice U k2 c2] 47 [.bool Q,.slice C O G,.bool s4,.slice V k4 c4] 47 [.bool false,.slice none 0 0,.bool false,.slice none 0 0] 47;have l:=aa X.g4 (aa Y.g4 R.g4);go_enter func46,ntmps46;go_wp2_with fail;(try rw[eW]);clear eW;have o:=(hx.be c).num;have p:=(hy.be c).num;generalize x.num.tdiv g=a1 at *;generalize y.num.tdiv h=a2 at *;generalize (y.den:Int).tdiv g=b1 at *;generalize (x.den:Int).tdiv h=b2 at *;refine(g9 x.num _ _ o (by omega)).mono ?_;rintro e5 w5 ⟨rfl,ad⟩;replace X:=X.be ad;replace Y:=Y.be ad;replace R:=R.be ad;replace l:=aa X.k4 (aa Y.k4 R.g4);replace f:=Keep.be ad;replace o:=o.ke f;replace p:=p.ke f;replace c:=aC c ad;by_cases J:x.num=0
 ·have HQ:=aB (HZ.out J);rw[show decide (x.num=0)=true from decide_eq_true J];clear J;go_wp2_with fail;obtain⟨W6,ac,R,c,f,ff⟩:=R.put4 c (by omega) (.bool false) (.slice none 0 0) (.bool false) (.slice none 0 0) rfl rfl;replace X:=ff X (by omega);replace Y:=ff Y (by omega);rw[ac];clear ac;replace l:=aa X.k4 (aa Y.k4 R.k4);exact aM (v:= .agg #[.bool false,.slice none 0 0,.bool false,.slice none 0 0]) (by simp[results,results46,go_sem,R.k4]) rfl ⟨_,rfl,RatAt.of (IntAt.zero _) (IntAt.zero _) (by rw[HQ.out];rfl) (by rw[HQ.out];rfl),c⟩
 ·rw[show decide (x.num=0)=false from decide_eq_false J];go_wp2_with fail;refine(g9 y.num _ _ p (by omega)).mono ?_;rintro e6 w6 ⟨rfl,ae⟩;replace X:=X.be ae;replace Y:=Y.be ae;replace R:=R.be ae;replace l:=aa X.k4 (aa Y.k4 R.g4);replace f:=Keep.be ae;replace o:=o.ke f;replace p:=p.ke f;replace c:=aC c ae;rw[show decide (y.num=0)=false from decide_eq_false ao];have bi:Hid (x.num≠0):=J;have bj:Hid (y.num≠0):=ao;have L:=(hx.be c).den;have M:=(hy.be c).den;clear J ao o p;generalize bS x=dx at *;generalize bS y=dy at *;go_upto_region 3 with fail;go_cut [25] (fun b6 k=>b6= .bool false∧Bx k w.1.size [.bool P,.slice B N F,.bool s2,.slice U k2 c2] 47∧Bx k (w.1.size+1) [.bool Q,.slice C O G,.bool s4,.slice V k4 c4] 47∧Bx k (w.1.size+1+1) [.bool false,.slice none 0 0,.bool false,.slice none 0 0] 47∧Below w.1.size w k)
  case first=>
   go_wp2_with fail;refine(g9 dx _ _ L (by omega)).mono ?_;rintro e7 w7 ⟨rfl,af⟩;replace X:=X.be af;replace Y:=Y.be af;replace R:=R.be af;replace l:=aa X.k4 (aa Y.k4 R.g4);replace f:=Keep.be af;replace L:=L.ke f;replace M:=M.ke f;replace c:=aC c af;by_cases e:dx=0
   ·rw[show decide (dx=0)=true from decide_eq_true e];have ba:=ai e;clear e ai;go_wp2_with fail;refine(g9 dy _ _ M (by omega)).mono ?_;rintro e8 w8 ⟨rfl,ag⟩;replace X:=X.be ag;replace Y:=Y.be ag;replace R:=R.be ag;replace l:=aa X.k4 (aa Y.k4 R.g4);replace f:=Keep.be ag;replace L:=L.ke f;replace M:=M.ke f;replace c:=aC c ag;rw[show decide (dy=0)=false from decide_eq_false ba];clear ba;go_wp2;go_meet;exact⟨rfl,X,Y,R,c⟩
   ·rw[show decide (dx=0)=false from decide_eq_false e];clear e ai;go_wp2;go_meet;exact⟨rfl,X,Y,R,c⟩
  case rest=>
   clear X Y R c L M ai l;obtain⟨rfl,X,Y,R,c⟩:=hcut;generalize wc=q at *;have an:=hx.be c;have ap:=hy.be c;have al:=hG.be c;have o:=an.num;have p:=ap.num;have l:=True.intro;replace l:=aa X.k4 (aa Y.k4 R.g4);go_wp2_with fail;have ch:=X.lt;have cj:=Y.lt;go_cut [5,6] (fun s5 s6 k=>∃s t,s5= .pointer (some ⟨s,0,none⟩)∧s6= .pointer (some ⟨t,0,none⟩)∧q.1.size<=s∧q.1.size<=t∧s≠t∧IntBx k s (a1)∧IntBx k t (b1)∧Below q.1.size q k)
   case first=>
    go_region_held3 (fun m=>C4 m w.1.size (.bool P) (.slice B N F) (.bool s2) (.slice U k2 c2)∧C4 m (w.1.size+1) (.bool Q) (.slice C O G) (.bool s4) (.slice V k4 c4))
     (with_reducible exact⟨X.up.k4,Y.up.k4⟩)
     (first
      |(go_at_call 109;refine(a8 _ ap.up).mono ?_;rintro cx bf ⟨ea,rfl,aj,az⟩;have b0:=az.size;(try simp at b0);have:=St.mk az;obtain⟨d4,b7,dt,cr,rfl⟩:=aj.form)
      |(go_at_call 108;refine(a5 _ _ al.up o.up aj.up bi.out).mono ?_;rintro cy S ⟨eb,u14,rfl,i,H,a0⟩;have b3:=a0.size;(try simp at b3);have:=St.mk a0;have D:=Up.out (a:=q) (b:=S);have d2:=D.size;have dc:=aj.up (b:=S);(try have⟨_,_,_,_,_⟩:=nG q S);(try have⟨_,_,_,_,_⟩:=pH q S);(try have⟨_,_,_,_,_⟩:=nG bf S);(try have⟨_,_,_,_,_⟩:=pH bf S);obtain⟨sp,Ap,kp,cp,rfl⟩:=i.form;obtain⟨d5,b8,du,cs,rfl⟩:=H.form))
    all_goals (
     go_wp2;go_meet;refine⟨_,_,rfl,rfl,by omega,by omega,by omega,?_⟩
     first
      |(with_reducible exact dqG i H D)
      |(with_reducible exact xF i H D)
      |(with_reducible exact xG i H (zb ‹_›) D (by omega))
      |(with_reducible exact xH (zb ‹_›) i H D (by omega))
      |(with_reducible exact tP (zb ‹_›) (zb ‹_›) i H (by omega) D (by omega) (by omega)))
   case rest=>
    obtain⟨s,t,rfl,rfl,df,dh,dl,I5,I6,d⟩:=hcut;generalize wc=r at *;have X8:=X.be d;have Y8:=Y.be d;have R8:=R.be d;have a9:=an.be d;have ay:=al.be d;have bb:=p.be d;replace c:=aC c d;have ds:=d.size;have dq:=X.lt;have dr:=Y.lt;have dp:=R.lt;obtain⟨s5,A5,k5,c5,Z,i5⟩:=I5;obtain⟨s6,A6,k6,c6,P6,i6⟩:=I6;clear X Y R an ap al o p d a5 a8 l;go_wp2_with fail;have ci:=Y8.lt;have cg:=X8.lt;go_cut [7,8] (fun s7 s8 k=>∃z A,s7= .pointer (some ⟨z,0,none⟩)∧s8= .pointer (some ⟨A,0,none⟩)∧r.1.size<=z∧r.1.size<=A∧z≠A∧IntBx k z (a2)∧IntBx k A (b2)∧Below r.1.size r k)
    case first=>
     go_region_held3 (fun m=>C4 m (w.1.size+1) (.bool Q) (.slice C O G) (.bool s4) (.slice V k4 c4)∧C4 m w.1.size (.bool P) (.slice B N F) (.bool s2) (.slice U k2 c2))
      (with_reducible exact⟨Y8.up.k4,X8.up.k4⟩)
      (first
       |(go_at_call 109;refine(a7 _ a9.up).mono ?_;rintro cz bg ⟨ec,rfl,ak,a3⟩;have b4:=a3.size;(try simp at b4);have:=St.mk a3;obtain⟨d6,b9,dv,ct,rfl⟩:=ak.form)
       |(go_at_call 108;refine(a6 _ _ ay.up bb.up ak.up bj.out).mono ?_;rintro c0 T ⟨ed,u16,rfl,i,I,a4⟩;have b5:=a4.size;(try simp at b5);have:=St.mk a4;have E:=Up.out (a:=r) (b:=T);have d3:=E.size;have de:=ak.up (b:=T);(try have⟨_,_,_,_,_⟩:=nG r T);(try have⟨_,_,_,_,_⟩:=pH r T);(try have⟨_,_,_,_,_⟩:=nG bg T);(try have⟨_,_,_,_,_⟩:=pH bg T);obtain⟨sp,Ap,kp,cp,rfl⟩:=i.form;obtain⟨d7,cc,dw,cu,rfl⟩:=I.form))
     all_goals (
      go_wp2;go_meet;refine⟨_,_,rfl,rfl,by omega,by omega,by omega,?_⟩
      first
       |(with_reducible exact dqG i I E)
       |(with_reducible exact xF i I E)
       |(with_reducible exact xG i I (zb ‹_›) E (by omega))
       |(with_reducible exact xH (zb ‹_›) i I E (by omega))
       |(with_reducible exact tP (zb ‹_›) (zb ‹_›) i I (by omega) E (by omega) (by omega)))
    case rest=>
     obtain⟨z,A,rfl,rfl,di,dj,dm,I7,I8,d⟩:=hcut;generalize wc=W9 at *;replace Z:=Z.be d;replace P6:=P6.be d;have R9:=R8.be d;replace i5:=i5.be d;replace i6:=i6.be d;have dk:=Z.lt;replace c:=aC c d;obtain⟨s7,A7,k7,c7,P7,i7⟩:=I7;obtain⟨s8,A8,k8,c8,P8,i8⟩:=I8;clear X8 Y8 R8 a9 ay bb a6 a7 d;have bw:=fun W j n=>jB a1 a2 (.agg #[.bool s5,.slice A5 k5 c5]) (.agg #[.bool s7,.slice A7 k7 c7]) W j n (by omega);have bz:=fun W j n=>jB b2 b1 (.agg #[.bool s8,.slice A8 k8 c8]) (.agg #[.bool s6,.slice A6 k6 c6]) W j n (by omega);have cn:=gT b2 b1 K K bm bk;have bv:=fun W u v j n=>vK (x*y) (a1*a2) (b2*b1) u v W j n HP.out.1 HP.out.2 (by omega);go_wp2_with fail;have bn:w.1.size+1+1≠s:=by omega
     have bo:w.1.size+1+1≠t:=by omega
     have bp:w.1.size+1+1≠z:=by omega
     have bq:w.1.size+1+1≠A:=by omega
     go_region_held3 (fun m=>C2 m s (.bool s5) (.slice A5 k5 c5)∧C2 m t (.bool s6) (.slice A6 k6 c6)∧C2 m z (.bool s7) (.slice A7 k7 c7)∧C2 m A (.bool s8) (.slice A8 k8 c8))
      (first|(with_reducible exact⟨Z.up.k2,P6.up.k2,P7.up.k2,P8.up.k2⟩)|(with_reducible exact⟨(Z.up.far4 bn).k2,(P6.up.far4 bo).k2,(P7.up.far4 bp).k2,(P8.up.far4 bq).k2⟩))
      (first
       |(go_at_call 56;(with_reducible refine(bw _ i5.up i7.up).mono ?_);rintro c9 eh ⟨ee,rfl,aw,bs⟩;have:=St.mk bs;obtain⟨d8,cd,d0,cv,rfl⟩:=aw.form)
       |(go_at_call 56;(with_reducible refine(bz _ i8.up i6.up).mono ?_);rintro da ei ⟨ef,rfl,ax,bt⟩;have:=St.mk bt;obtain⟨d9,ce,d1,cw,rfl⟩:=ax.form)
       |(go_at_call 83;refine(bv _ _ _ aw.up ax.up).mono ?_;rintro db bh ⟨eg,rfl,ah,bu⟩;have:=St.mk bu;have br:=Up.out (a:=W9) (b:=bh);have ab:=R9.up (b:=bh);have ck:=ab.g4;obtain⟨sa,Aa,ka,ca,sb,Ab,kb,cb,rfl⟩:=ah.form))
     all_goals (
      go_wp2_with fail;replace c:=aC c br;obtain⟨W6,ac,ab,c,f,ff⟩:=ab.put4 c (by omega) (.bool sa) (.slice Aa ka ca) (.bool sb) (.slice Ab kb cb) rfl rfl;replace ah:=ah.ke f;rw[ac];clear ac;replace l:=ab.k4;exact aM (v:= .agg #[.bool sa,.slice Aa ka ca,.bool sb,.slice Ab kb cb]) (by simp[results,results46,go_sem,ab.k4]) rfl ⟨_,rfl,ah,c⟩
     )
def dxI(x y:Rat)(o p:Value)(w:World)(m:RatAt w o x)(n:RatAt w p y)(k:y.num=0)(I:nl x.num.natAbs<=17592186044416):Calls prog 46 #[o,p] w (iF w (x*y)):=by
 obtain⟨K,q,E,z,L,r,F,A,rfl⟩:=m.form;obtain⟨M,s,G,B,N,t,H,C,rfl⟩:=n.form;have i:=aB (show x*y=0 by rw[Rat.num_eq_zero.1 k,gX]);have J:nl y.num.natAbs<=17592186044416:=by rw[k];exact tO
 obtain⟨W,l,a,X,Y,R⟩:=gE w [.bool K,.slice q E z,.bool L,.slice r F A] 47 [.bool M,.slice s G B,.bool N,.slice t H C] 47 [.bool false,.slice none 0 0,.bool false,.slice none 0 0] 47;have j:=aa X.g4 (aa Y.g4 R.g4);go_enter func46,ntmps46;go_wp2_with fail;(try rw[l]);clear l;have g:=(m.be a).num;have h:=(n.be a).num;have D:decide (y.num=0)=true:=decide_eq_true k;clear k;refine(g9 x.num _ _ g I).mono ?_;rintro O Q ⟨rfl,e⟩;replace X:=X.be e;replace Y:=Y.be e;replace R:=R.be e;replace j:=aa X.k4 (aa Y.k4 R.g4);replace b:=Keep.be e;replace g:=g.ke b;replace h:=h.ke b;replace a:=aC a e;cases hd:decide (x.num=0) with
 |true=>
  go_wp2_with fail;obtain⟨u,c,R,a,b,d⟩:=R.put4 a (by omega) (.bool false) (.slice none 0 0) (.bool false) (.slice none 0 0) rfl rfl;replace X:=d X (by omega);replace Y:=d Y (by omega);rw[c];clear c;replace j:=aa X.k4 (aa Y.k4 R.k4);exact aM (v:= .agg #[.bool false,.slice none 0 0,.bool false,.slice none 0 0]) (by simp[results,results46,go_sem,R.k4]) rfl ⟨_,rfl,RatAt.of (IntAt.zero _) (IntAt.zero _) (by rw[i.out];rfl) (by rw[i.out];rfl),a⟩
 |false=>
  go_wp2_with fail;refine(g9 y.num _ _ h J).mono ?_;rintro P S ⟨rfl,f⟩;replace X:=X.be f;replace Y:=Y.be f;replace R:=R.be f;replace j:=aa X.k4 (aa Y.k4 R.g4);replace b:=Keep.be f;replace g:=g.ke b;replace h:=h.ke b;replace a:=aC a f;rw[D];go_wp2_with fail;obtain⟨u,c,R,a,b,d⟩:=R.put4 a (by omega) (.bool false) (.slice none 0 0) (.bool false) (.slice none 0 0) rfl rfl;replace X:=d X (by omega);replace Y:=d Y (by omega);rw[c];clear c;replace j:=aa X.k4 (aa Y.k4 R.k4);exact aM (v:= .agg #[.bool false,.slice none 0 0,.bool false,.slice none 0 0]) (by simp[results,results46,go_sem,R.k4]) rfl ⟨_,rfl,RatAt.of (IntAt.zero _) (IntAt.zero _) (by rw[i.out];rfl) (by rw[i.out];rfl),a⟩
def bq6(x y:Rat)(a b:Value)(w:World)(l:Glob w)(f:RatAt w a x)(g:RatAt w b y)(K:Nat)(c:RL K x)(h:RL K y)(e:10*K+20<=aJ):
  Calls prog 46 #[a,b] w (iF w (x*y)):=by
 by_cases d:x.den=1∧y.den=1
 ·have i:x=(x.num:Rat):=Rat.ext (by simp) (by simp[d.1]);have j:y=(y.num:Rat):=Rat.ext (by simp) (by simp[d.2]);have:=bzP x.num y.num a b w (by rw[<-i];exact f) (by rw[<-j];exact g) (by have:=c.1;have:=h.1;unfold aJ at e;omega);rwa [eJ,<-i,<-j] at this
 ·by_cases k:y.num=0
  ·exact dxI x y a b w f g k (by have:=c.1;unfold aJ at e;omega)
  ·exact UT x y a b w l f g d k K c h e
def cy9(q:Rat)(m:Nat)(v:Value)(w:World)(hv:RatAt w v q)(M:m<BN)(K:Nat)(y:RL K q)(ac:2*(m*K+1)+K<=aJ):
  Calls prog 66 #[v,.int .u64 m] w (iF w (q^m)):=by
 have k1:m*nl q.num.natAbs<=m*K:=eV _ y.1;have E:m*nl q.den<=m*K:=eV _ y.2;have k3:=y.1;have O:=y.2;unfold aJ at ac;have b2:=Y2 q.den m;obtain⟨s,A,k,c,n,F,N,H,rfl⟩:=hv.form;obtain⟨W,V,b,a,R⟩:=D8 w [.bool s,.slice A k c,.bool n,.slice F N H] 47 [.bool false,.slice none 0 0,.bool false,.slice none 0 0] 47;have j:=aa a.g4 R.g4;go_enter func66,ntmps66;go_wp2_with fail;(try rw[V]);clear V;have hn:IntAt W (.agg #[.bool s,.slice A k c]) q.num:=(hv.be b).num;have f:IntAt W (.agg #[.bool n,.slice F N H]) (bS q):=(hv.be b).den;have ab:=mY q;refine(g9 (bS q) _ _ f (by omega)).mono ?_;rintro e1 w1 ⟨rfl,z⟩;replace a:=a.be z;replace R:=R.be z;replace j:=aa a.k4 R.g4;replace d:=Keep.be z;replace hn:=hn.ke d;replace f:=f.ke d;replace b:=aC b z;by_cases o:q.den=1
 ·have t:decide (bS q=0)=true:=decide_eq_true (fV.2 o);rw[t];have D:=fun W u h=>U7 q.num m u W h M (by unfold aJ;omega);have HR:Hid (∀W n x s u,IntAt W (.agg #[.bool s,u]) (q.num^m)->IntAt W (.agg #[.bool n,x]) 0->RatAt W (.agg #[.bool s,u,.bool n,x]) (q^m)):=fun W n x s u h L=>RatAt.of h L (Rat.num_pow q m) (fV.2 (by rw[Rat.den_pow,o,Nat.one_pow]));clear t o;go_wp2_with fail;refine(D _ _ hn).mono ?_;rintro e2 w2 ⟨v2,rfl,g,i⟩;obtain⟨P,G,E,I,rfl⟩:=g.form;replace a:=a.be i;replace R:=R.be i;replace j:=aa a.k4 R.g4;replace d:=Keep.be i;replace hn:=hn.ke d;replace b:=aC b i;clear D;go_wp2_with fail;obtain⟨W6,r,R,b,d,J⟩:=R.put4 b (by omega) (.bool P) (.slice G E I) (.bool false) (.slice none 0 0) rfl rfl;replace a:=J a (by omega);replace g:=g.ke d;rw[r];clear r;replace j:=aa a.k4 R.k4;exact aM (v:= .agg #[.bool P,.slice G E I,.bool false,.slice none 0 0]) (by simp[results,results66,go_sem,R.k4]) rfl ⟨_,rfl,HR.out _ _ _ _ _ g (IntAt.zero _),b⟩
 ·have t:decide (bS q=0)=false:=decide_eq_false (fun e=>o (fV.1 e));rw[t];rw[mI o] at f;have D:=fun W u h=>U7 q.num m u W h M (by unfold aJ;omega);have ad:=fun W u h=>U7 (q.den:Int) m u W h M (by unfold aJ;rw[dD];omega);have Z:=fun W u x h L=>vK (q^m) (q.num^m) ((q.den:Int)^m) u x W h L (Rat.num_pow q m) (by rw[Rat.den_pow];exact O9 _ _) (by rw[Int.natAbs_pow,dD];omega);unfold iF at Z;clear t o ab;generalize q.num^m=X at *;generalize (q.den:Int)^m=Y at *;go_wp2_with fail;replace hn:=hn.drew;replace f:=f.drew;replace a:=a.drew;replace R:=R.drew;replace b:=b.drew;replace j:=aa a.k4 R.g4;have ae:w.1.size+1≠w.1.size:=by omega
  go_region_held3 (fun w'=>C4 w' w.1.size (.bool s) (.slice A k c) (.bool n) (.slice F N H))
   (first|(with_reducible exact a.k4)|((repeat (first|with_reducible exact a.k4|with_reducible refine kK ae ?_))))
   (first
    |(go_at_call 134;(with_reducible refine(D _ _ hn).mono ?_);rintro e2 w2 ⟨v2,rfl,g,i⟩;obtain⟨P,G,E,I,rfl⟩:=g.form;replace a:=a.be i;replace R:=R.be i;replace j:=aa a.k4 R.g4;replace d:=Keep.be i;replace hn:=hn.ke d;replace f:=f.ke d;(try replace p:=p.ke d);(try replace l:=l.ke d);replace b:=aC b i)
    |(go_at_call 134;(with_reducible refine(ad _ _ f).mono ?_);rintro e3 w3 ⟨v3,rfl,p,B⟩;obtain⟨s3,A3,k3,c3,rfl⟩:=p.form;replace a:=a.be B;replace R:=R.be B;replace j:=aa a.k4 R.g4;replace d:=Keep.be B;replace hn:=hn.ke d;replace f:=f.ke d;(try replace g:=g.ke d);(try replace l:=l.ke d);replace b:=aC b B)
    |(go_at_call 83;refine(Z _ _ _ g p).mono ?_;rintro e4 w4 ⟨v4,rfl,l,C⟩;obtain⟨s4,Q,O,T,s5,S,k5,U,rfl⟩:=l.form;replace a:=a.be C;replace R:=R.be C;replace j:=aa a.k4 R.g4;replace d:=Keep.be C;replace hn:=hn.ke d;replace f:=f.ke d;(try replace g:=g.ke d);(try replace p:=p.ke d);replace b:=aC b C))
  all_goals (
   go_wp2_with fail;obtain⟨W6,r,R,b,d,J⟩:=R.put4 b (by omega) (.bool s4) (.slice Q O T) (.bool s5) (.slice S k5 U) rfl rfl;replace a:=J a (by omega);replace l:=l.ke d;rw[r];clear r;replace j:=aa a.k4 R.k4;exact aM (v:= .agg #[.bool s4,.slice Q O T,.bool s5,.slice S k5 U]) (by simp[results,results66,go_sem,R.k4]) rfl ⟨_,rfl,l,b⟩;)
end Go.Proofs.YticcgnnefilhcaaGreatDoor
namespace Go.Proofs.YticcgnnefilhcaaGreatDoor
open Sos Lib
variable{l s t:List UInt8}
def F6(c:UInt8):Bool:=c != 47
def lU(s:List UInt8):Option Rat:=
 let a:=s.head?==some 45
 let t:=if a then s.tail else s
 let n:=t.takeWhile F6
 if n≠[]∧n.all bO then
  match t.dropWhile F6 with
  |[]=>some ((fO a (aO n):Int):Rat)
  |_ :: d=>if d≠[]∧d.all bO∧aO d≠0 then some (((fO a (aO n):Int):Rat)/((aO d:Int):Rat)) else none
 else none
def JK(h:Digs l):l.all bO=true:=by
 rw[List.all_eq_true];intro c a;have:=h c a;simpa [bO] using this
def xP(h:l.all bO=true):Digs l:=fun c a=>by
 have:=List.all_eq_true.1 h c a;simpa [bO] using this
def VZ(h:Digs l)(g:t=[]∨t.head?=some 47):(l++t).takeWhile F6=l∧(l++t).dropWhile F6=t:=by
 induction l with
 |nil=>
  cases t with
  |nil=>exact⟨rfl,rfl⟩
  |cons c m=>
   have b:c=47:=by simpa using g
   subst b;simp[bxM,bxE,F6]
 |cons a l i=>
  have f:F6 a=true:=by
   have:=h a (iC ..);unfold F6;rw[bne_iff_ne];rintro rfl;exact absurd this (by decide)
  obtain⟨d,e⟩:=i (fun c b=>h c (j8 _ b));simp[bxM,bxE,f,d,e]
def WA(q:Rat):lU (cW q)=some q:=by
 have b:=oL q.num.natAbs;have d:=tK q.num.natAbs;obtain⟨a,m,c⟩:∃a m,decDigits q.num.natAbs=a :: m:=by
  cases h:decDigits q.num.natAbs with
  |nil=>exact absurd h d
  |cons a m=>exact⟨a,m,rfl⟩
 have k:a≠45:=by
  intro e;have:=b a (by rw[c];exact iC ..);rw[e] at this;exact absurd this (by decide)
 have l:fO (decide (q.num<0)) q.num.natAbs=q.num:=by
  unfold fO;by_cases h:q.num<0<;>simp[h]<;>omega
 have f:((cW q).head?==some 45)=decide (q.num<0):=by
  unfold cW;by_cases h:q.num<0
  ·simp[h]
  ·simp[h,c,k]
 have g:(if decide (q.num<0)=true then (cW q).tail else cW q)=decDigits q.num.natAbs++(if q.den=1 then [] else 47 :: decDigits q.den):=by
  unfold cW;by_cases h:q.num<0<;>simp[h]
 obtain⟨i,j⟩:=VZ (t:=if q.den=1 then [] else 47 :: decDigits q.den) b (by by_cases e:q.den=1<;>simp[e]);unfold lU;simp only[f,g,i,j,mQ,l];rw[if_pos ⟨d,JK b⟩];by_cases e:q.den=1
 ·rw[if_pos e];simp only[];congr 1;exact Rat.ext rfl e.symm
 ·rw[if_neg e];simp only[];rw[if_pos ⟨tK _,JK (oL _),by rw[mQ];exact q.den_nz⟩,mQ];congr 1;rw[dzN,<-Rat.mkRat_eq_div,aq8]
def xQ(s:List UInt8):(∀q,dyS s=some q->lU s=some q∧cW q=s)∧(∀q,lU s=some q->cW q=s->dyS s=some q):=by
 refine⟨fun q h=> ?_,fun q h e=> ?_⟩
 ·have:=tL h;exact⟨by rw[<-this];exact WA q,this⟩
 ·rw[<-e];exact SU q
def lQ(s:List UInt8):List UInt8:=if s.head?==some 45 then s.tail else s
def WI(s:List UInt8):(lQ s).length<=s.length:=by unfold lQ;split<;>simp
structure CutN(t:List UInt8)(k:Nat):Prop where
 le:k<=t.length
 head:t.takeWhile F6=t.take k
 rest:t.dropWhile F6=t.drop k
def CutN.stop{k:Nat}(h:∀c∈t.take k,F6 c=true)(b:k<=t.length)(a:t.length<=k∨∃c,t[k]? =some c∧F6 c=false):CutN t k:=
 ⟨b,(wV h a).1,(wV h a).2⟩
structure Found(s:List UInt8)(q:Rat):Prop where
 ok:rd s=decide (cW q=s)
 val:∀r,dyS s=some r->q=r
def WJ{q:Rat}(h:lU s=some q):Found s q:=by
 refine⟨?_,fun r b=> ?_⟩
 ·unfold rd;by_cases e:cW q=s
  ·rw[(xQ s).2 q h e,decide_eq_true e];rfl
  ·rw[decide_eq_false e];cases b:dyS s with
   |none=>rfl
   |some r=>
    obtain⟨a,c⟩:=(xQ s).1 r b;rw[h] at a;injection a with a;exact absurd (by rw[a];exact c) e
 ·have:=((xQ s).1 r b).1;rw[h] at this;injection this
def CH(h:lU s=none):rd s=false∧∀q r:Rat,dyS s=some r->q=r:=by
 have e:dyS s=none:=by
  cases a:dyS s with
  |none=>rfl
  |some r=>rw[((xQ s).1 r a).1] at h;cases h
 exact⟨by unfold rd;rw[e];rfl,fun q r a=>by rw[e] at a;cases a⟩
section
variable {s:List UInt8}{k:Nat}(h:CutN (lQ s) k)
include h
def WK(hn:¬((lQ s).take k≠[]∧((lQ s).take k).all bO=true)):lU s=none:=by
 unfold lU;simp only[];rw[show(if (s.head?==some 45)=true then s.tail else s)=lQ s from rfl,h.head,if_neg hn]
def WL(hn:(lQ s).take k≠[]∧((lQ s).take k).all bO=true)(a:k=(lQ s).length):lU s=some ((fO (s.head?==some 45) (aO ((lQ s).take k)):Int):Rat):=by
 unfold lU;simp only[];rw[show(if (s.head?==some 45)=true then s.tail else s)=lQ s from rfl,h.head,h.rest,if_pos hn,a,az5]
def WM(hn:(lQ s).take k≠[]∧((lQ s).take k).all bO=true)(a:k<(lQ s).length):
  lU s=if (lQ s).drop (k+1)≠[]∧((lQ s).drop (k+1)).all bO=true∧aO ((lQ s).drop (k+1))≠0 then some (((fO (s.head?==some 45) (aO ((lQ s).take k)):Int):Rat)/((aO ((lQ s).drop (k+1)):Int):Rat)) else none:=by
 unfold lU;simp only[];rw[show(if (s.head?==some 45)=true then s.tail else s)=lQ s from rfl,h.head,h.rest,if_pos hn,j5 a]
end
end Go.Proofs.YticcgnnefilhcaaGreatDoor
namespace Go.Proofs.YticcgnnefilhcaaGreatDoor
variable{a b l:List Nat}{d i x y:Nat}
def aD:Nat:=4294967296
def mV:0<aD:=by decide
def nv:List Nat->Nat
 |[]=>0
 |d :: l=>d+aD*nv l
def Dg(l:List Nat):Prop:=∀d∈l,d<aD
def rB:nv []=0:=rfl
def mF(l m:List Nat):nv (l++m)=nv l+aD^l.length*nv m:=by
 induction l with
 |nil=>simp[nv]
 |cons d l a=>
  rw[List.cons_append,nv,nv,a,List.length_cons,Nat.pow_succ,Nat.mul_add,Nat.mul_comm (aD^l.length) aD,Nat.mul_assoc];omega
def NV(n:Nat):nv (List.replicate n 0)=0:=by
 induction n with
 |zero=>rfl
 |succ n a=>rw[List.replicate_succ,nv,a];rfl
def nO(h:Dg l):nv l<aD^l.length:=by
 induction l with
 |nil=>simp[nv]
 |cons d l e=>
  have a:=e (fun x c=>h x (List.mem_cons_of_mem _ c));have f:=h d List.mem_cons_self;rw[nv,List.length_cons,Nat.pow_succ,Nat.mul_comm];have b:(nv l+1)*aD<=aD^l.length*aD:=Nat.mul_le_mul_right _ a;rw[Nat.add_mul] at b;omega
def NW(h:l[i]? =some d):nv (l.take (i+1))=nv (l.take i)+aD^i*d:=by
 have a:=(List.getElem?_eq_some_iff.1 h).1;rw[List.take_succ_eq_append_getElem a,mF,nv,rB,Nat.mul_zero,Nat.add_zero,List.length_take,Nat.min_eq_left (Nat.le_of_lt a)];rw[List.getElem?_eq_getElem a] at h;injection h with h;rw[h]
def zM(h:l[i]? =some d):nv (l.drop i)=d+aD*nv (l.drop (i+1)):=by
 have a:=(List.getElem?_eq_some_iff.1 h).1;rw[List.drop_eq_getElem_cons a,nv];rw[List.getElem?_eq_getElem a] at h;injection h with h;rw[h]
def Dg.set(h:Dg l)(i:Nat)(c:x<aD):Dg (l.set i x):=fun d b=>by
 rcases List.mem_or_eq_of_mem_set b with a|a
 ·exact h d a
 ·rw[a];exact c
def Dg.zeros(n:Nat):Dg (List.replicate n 0):=fun d a=>by rw[(List.mem_replicate.1 a).2];exact mV
def Dg.take(h:Dg l)(n:Nat):Dg (l.take n):=fun d a=>h d (List.mem_of_mem_take a)
def Dg.get(h:Dg l)(hi:l[i]? =some d):d<aD:=h d (List.mem_of_getElem? hi)
def Dg.trim(h:Dg l):Dg (aW aV l):=fun d a=>h d (rC a)
def EZ(l:List Nat):nv (aW aV l)=nv l:=by
 obtain⟨m,b,c, -⟩:=pZ aV l;have i:nv m=0:=by
  clear b;induction m with
  |nil=>rfl
  |cons d m j=>
   have h:=c d List.mem_cons_self;have f:d=0:=by simpa [aV] using h
   rw[nv,j (fun a g=>c a (List.mem_cons_of_mem _ g)),f];rfl
 have e:=mF (aW aV l) m;rw[<-b,i,Nat.mul_zero,Nat.add_zero] at e;exact e.symm
def dqK(b:aN l)(a:l≠[]):aD^(l.length-1)<=nv l:=by
 obtain⟨m,d,rfl⟩:∃m d,l=m++[d]:=⟨l.dropLast,l.getLast a,(List.dropLast_concat_getLast a).symm⟩;have c:d≠0:=b d (by simp);rw[mF,nv,rB,Nat.mul_zero,Nat.add_zero,List.length_append,List.length_singleton,Nat.add_sub_cancel];have:aD^m.length*1<=aD^m.length*d:=Nat.mul_le_mul_left _ (by omega);omega
def vI(d:Dg a)(f:aN b)(h:a.length<b.length):nv a<nv b:=by
 have c:b≠[]:=fun e=>by rw[e] at h;simp at h
 have g:=nO d;have i:=dqK f c;have j:aD^a.length<=aD^(b.length-1):=Nat.pow_le_pow_right mV (by omega);omega
def NX(b:aN l)(h:nv l=0):l=[]:=by
 by_cases a:l=[]
 ·exact a
 ·have:=dqK b a;have c:0<aD^(l.length-1):=Nat.pow_pos mV;omega
def F0(j:Dg a)(n:Dg b)(d:a[i]? =some x)(l:b[i]? =some y)(o:a.length=b.length)(k:a.drop (i+1)=b.drop (i+1))(h:x<y):nv a<nv b:=by
 have c:=(List.getElem?_eq_some_iff.1 d).1;have e:nv a=nv (a.take i)+aD^i*(x+aD*nv (a.drop (i+1))):=by
  rw[<-zM d];conv=>lhs;rw[<-List.take_append_drop i a,mF,List.length_take,Nat.min_eq_left (Nat.le_of_lt c)]
 have f:nv b=nv (b.take i)+aD^i*(y+aD*nv (b.drop (i+1))):=by
  rw[<-zM l];conv=>lhs;rw[<-List.take_append_drop i b,mF,List.length_take,Nat.min_eq_left (by omega)]
 have g:=nO (j.take i);rw[List.length_take,Nat.min_eq_left (Nat.le_of_lt c)] at g;rw[e,f,k];have m:aD^i*(x+aD*nv (b.drop (i+1)))+aD^i<=aD^i*(y+aD*nv (b.drop (i+1))):=by
  rw[<-Nat.mul_succ];exact Nat.mul_le_mul_left _ (by omega)
 omega
def zO{s:Nat}(a:x<2^s):2^s*y ||| x=2^s*y+x:=(Nat.two_pow_add_eq_or_of_lt a y).symm
