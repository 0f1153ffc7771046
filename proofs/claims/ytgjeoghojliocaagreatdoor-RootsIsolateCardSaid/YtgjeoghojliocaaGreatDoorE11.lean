/- Laws. -/
import Derived.Test.YtgjeoghojliocaaGreatDoorE10
import Derived.Deep.AppendSrc
import Derived.Shelf.Strconv.AppendUint10
set_option linter.all false
set_option maxHeartbeats 8000000
set_option maxRecDepth 99999
namespace Go.Proofs.YtgjeoghojliocaaGreatDoor
open Go.RowKit Sos Tryz
def NQ(w:World)(v:Value)(q:Rat):Prop:=∃s u s' a,v= .agg #[.bool s,u,.bool s',a]∧NI w (.agg #[.bool s,u]) q.num∧NI w (.agg #[.bool s',a]) (bS q)
def eS(w:World)(q:Rat)(e:Ending)(w':World):Prop:=∃v,e= .returned v∧NQ w' v q∧Below w.heap.size w w'
section
variable {w w':World}{v:Value}{q:Rat}
def NQ.be(h:NQ w v q)(a:Below w.heap.size w w'):NQ w' v q:=by
 obtain⟨s,u,d,f,e,b,c⟩:=h;exact⟨s,u,d,f,e,b.be a,c.be a⟩
def NQ.ke(h:NQ w v q)(a:KM w w'):NQ w' v q:=by
 obtain⟨s,u,d,f,e,b,c⟩:=h;exact⟨s,u,d,f,e,b.ke a,c.ke a⟩
def NQ.drew(h:NQ w v q):NQ w.drew v q:=h.be (aG _ _).drew
def NQ.form(h:NQ w v q):∃s A k c s' a d c',v= .agg #[.bool s,.slice A k c,.bool s',.slice a d c']:=by
 obtain⟨s,u,s',i,rfl,f,g⟩:=h;obtain⟨_,A,k,c,e⟩:=f.form;obtain⟨_,a,d,c',b⟩:=g.form;simp at e b;rw[e.2,b.2];exact⟨_,_,_,_,_,_,_,_,rfl⟩
def NQ.num{s s':Bool}{u b:Value}(h:NQ w (.agg #[.bool s,u,.bool s',b]) q):NI w (.agg #[.bool s,u]) q.num:=by
 obtain⟨_,_,_,_,e,a,c⟩:=h;simp at e;rw[e.1,e.2.1];exact a
def NQ.den{s s':Bool}{u a:Value}(h:NQ w (.agg #[.bool s,u,.bool s',a]) q):NI w (.agg #[.bool s',a]) (bS q):=by
 obtain⟨_,_,_,_,e,c,b⟩:=h;simp at e;rw[e.2.2.1,e.2.2.2];exact b
def NQ.of{s s':Bool}{u a:Value}{n d:Int}(e:NI w (.agg #[.bool s,u]) n)(f:NI w (.agg #[.bool s',a]) d)(b:q.num=n)(c:bS q=d):NQ w (.agg #[.bool s,u,.bool s',a]) q:=
 ⟨s,u,s',a,rfl,by rw[b];exact e,by rw[c];exact f⟩
def NQ.zero(w:World):NQ w (.agg #[.bool false,.slice none 0 0,.bool false,.slice none 0 0]) 0:=NQ.of (NI.zero w) (NI.zero w) rfl rfl
end
def MQ{n d:Int}{q:Rat}(a:0<d)(b:q=(n:Rat)/d):q.num=n.tdiv (Nat.gcd n.natAbs d.natAbs:Nat)∧((q.den:Nat):Int)=d.tdiv (Nat.gcd n.natAbs d.natAbs:Nat):=by rw[b];exact F4 a
def EE(w:World)(q:Rat)(b:Bool)(a:World):Prop:=∃(n d:Int) (s:Bool) (A:Option Addr) (k c:Nat) (t:Bool) (C:Option Addr) (l e:Nat),0<d∧Hid ((n:Rat)/d=q)∧(b=true->Hid (q.num=n∧(q.den:Int)=d))∧nl n.natAbs<=549755813888∧nl d.natAbs<=549755813888∧
 Bx a w.heap.size [.bool s,.slice A k c] 60∧Bx a (w.heap.size+1) [.bool t,.slice C l e] 60∧Bx a (w.heap.size+1+1) [.bool false,.slice none 0 0,.bool false,.slice none 0 0] 62∧NI a (.agg #[.bool s,.slice A k c]) n∧NI a (.agg #[.bool t,.slice C l e]) d∧Below w.heap.size w a
def vE(n d:Int)(vn vd:Value)(w:World)(hn:NI w vn n)(f:NI w vd d)(h0:d≠0)(B:nl n.natAbs<=549755813888)(z:nl d.natAbs<=549755813888):
  Calls prog 101 #[vn,vd] w (eS w ((n:Rat)/d)):=by
 obtain⟨s,A,k,c,rfl⟩:=hn.form;obtain⟨t,C,l,e,rfl⟩:=f.form;have hT:=f.neg;generalize hq:(n:Rat)/d=q;obtain⟨W,eW,a,X,Y,R⟩:=gE w [.bool s,.slice A k c] 60 [.bool t,.slice C l e] 60 [.bool false,.slice none 0 0,.bool false,.slice none 0 0] 62;replace hn:=hn.be a;replace f:=f.be a;have m:=aa X.g2 (aa Y.g2 R.g4);have H:=aB hq;have HT:=aB hT;clear hq hT;go_enter func101,ntmps101;go_upto_if 7 with fail;(try rw[eW]);clear eW;go_cut [] (fun wx=>EE w q false wx)
 case first=>
  cases t with
  |false=>
   go_wp2;go_meet;exact⟨n,d,_,_,_,_,_,_,_,_,by have:=HT.out;simp at this;omega,H,(fun h=>by cases h),B,z,X,Y,R,hn,f,a⟩
  |true=>
   go_wp2_with fail;replace hn:=hn.drew;replace f:=f.drew;replace X:=X.drew;replace Y:=Y.drew;replace R:=R.drew;replace a:=a.drew
   go_region_with (first
     |(go_at_call 110;(with_reducible refine(yY n _ _ hn (by omega)).mono ?_);rintro e4 w4 ⟨v4,rfl,i,y⟩;obtain⟨s4,A4,k4,c4,rfl⟩:=i.form;replace X:=X.be y;replace Y:=Y.be y;replace R:=R.be y;replace m:=aa X.g2 (aa Y.g2 R.g4);replace b:=KM.be y;replace hn:=hn.ke b;replace f:=f.ke b;(try replace E:=E.ke b);replace a:=aC a y)
     |(go_at_call 110;(with_reducible refine(yY d _ _ f (by omega)).mono ?_);rintro e5 w5 ⟨v5,rfl,E,U⟩;obtain⟨s5,A5,k5,c5,rfl⟩:=E.form;replace X:=X.be U;replace Y:=Y.be U;replace R:=R.be U;replace m:=aa X.g2 (aa Y.g2 R.g4);replace b:=KM.be U;replace hn:=hn.ke b;replace f:=f.ke b;(try replace i:=i.ke b);replace a:=aC a U))
   all_goals (
    go_wp2_with fail;obtain⟨U0,Q,X,a,b,j⟩:=X.mut2 a (by omega) (.bool s4) (.slice A4 k4 c4) rfl rfl;replace Y:=j Y (by omega);replace R:=j R (by omega);replace i:=i.ke b;replace E:=E.ke b;obtain⟨W6,x,Y,a,b,j⟩:=Y.mut2 a (by omega) (.bool s5) (.slice A5 k5 c5) rfl rfl;replace X:=j X (by omega);replace R:=j R (by omega);replace i:=i.ke b;replace E:=E.ke b;rw[Q,x];clear Q x;replace m:=aa X.k2 (aa Y.k2 R.k4);go_meet;exact⟨-n, -d,_,_,_,_,_,_,_,_,by have:=HT.out;simp at this;omega,by unfold Hid;rw[F5];exact H.out,(fun h=>by cases h),by rw[Int.natAbs_neg];exact B,by rw[Int.natAbs_neg];exact z,X,Y,R,i,E,a⟩)
 case rest=>
  clear X Y R hn f a m B z h0 HT H;obtain⟨p,o,P,I,O,J,s2,Z,k2,c2,ad,H, -,B,z,X,Y,R,hn,f,a⟩:=hcut;have m:=aa X.g2 (aa Y.g2 R.g4);obtain⟨aq,ai⟩:=MQ ad H.out.symm;have a2:Nat.gcd p.natAbs o.natAbs≠0:=fun h=>by have:=Nat.eq_zero_of_gcd_eq_zero_right h;omega
  have a3:nl (Nat.gcd p.natAbs o.natAbs)<=nl o.natAbs:=cK (Nat.le_of_dvd (by omega) (Nat.gcd_dvd_right _ _));have ax:=jN p (Nat.gcd p.natAbs o.natAbs:Nat) _ B;have aw:=jN o (Nat.gcd p.natAbs o.natAbs:Nat) _ z;have ar:0<o.tdiv (Nat.gcd p.natAbs o.natAbs:Nat):=by rw[<-ai];have:=q.den_nz;omega
  have ap:=fun W h1 h2=>MR p o (.agg #[.bool P,.slice I O J]) (.agg #[.bool s2,.slice Z k2 c2]) W h1 h2 B z;have r:=aB (And.intro aq ai);clear aq ai;generalize Nat.gcd p.natAbs o.natAbs=g at *;go_wp2_with fail;refine(ap _ hn f).mono ?_;rintro e4 w4 ⟨v4,rfl,i,y⟩;obtain⟨s4,A4,k4,c4,rfl⟩:=i.form;replace X:=X.be y;replace Y:=Y.be y;replace R:=R.be y;replace m:=aa X.g2 (aa Y.g2 R.g4);replace b:=KM.be y;replace hn:=hn.ke b;replace f:=f.ke b;replace a:=aC a y;clear ap;go_wp2_with fail;have ak:=X.lt;have al:=Y.lt;have aj:=R.lt;have ay:=a.size;obtain⟨w5,an,S,G⟩:=bI w4 [.bool s4,.slice A4 k4 c4] 60;replace X:=X.be S;replace Y:=Y.be S;replace R:=R.be S;replace b:=KM.be S;replace a:=aC a S;replace hn:=hn.ke b;replace f:=f.ke b;replace i:=i.ke b;rw[an];clear an;replace m:=aa X.g2 (aa Y.g2 (aa R.g4 G.k2));have ah:nl g<=549755813888:=by omega
  refine(EI _ _ _ i (by rw[dD];exact ah)).mono ?_;rintro e6 w6 ⟨bb,rfl,T, -,K⟩;rw[dD] at T;replace X:=X.be K;replace Y:=Y.be K;replace R:=R.be K;replace G:=G.be K;replace m:=aa X.g2 (aa Y.g2 (aa R.g4 G.k2));replace b:=KM.be K;replace hn:=hn.ke b;replace f:=f.ke b;replace i:=i.ke b;replace a:=aC a K;go_upto_if 17 with fail;go_cut [] (fun wx=>EE w q true wx)
  case first=>
   by_cases ag:1<g
   ·have q1:decide (1<bb)=true:=by simpa using T.2 ag
    have au:=fun W u v h k=>EG p (g:Int) u v W h k B (by rw[dD];exact ah) (by omega);have av:=fun W u v h k=>EG o (g:Int) u v W h k z (by rw[dD];exact ah) (by omega);unfold EF at au av;have a1:Hid (((p.tdiv (g:Int):Int):Rat)/((o.tdiv (g:Int):Int):Rat)=q):=by
     unfold Hid;rw[<-r.out.1,<-r.out.2,Rat.intCast_natCast,<-Rat.mkRat_eq_div,Rat.mkRat_self]
    generalize p.tdiv (g:Int)=N at *;generalize o.tdiv (g:Int)=D at *;clear T;go_wp2_with fail;refine(au _ _ _ hn i).mono ?_;rintro e7 w7 ⟨v7,a4,rfl,F, -,L⟩;obtain⟨s7,A7,k7,c7,rfl⟩:=F.form;replace X:=X.be L;replace Y:=Y.be L;replace R:=R.be L;replace G:=G.be L;replace m:=aa X.g2 (aa Y.g2 (aa R.g4 G.k2));replace b:=KM.be L;replace hn:=hn.ke b;replace f:=f.ke b;replace i:=i.ke b;replace a:=aC a L;go_wp2_with fail;have ak:=X.lt;have al:=Y.lt;have aj:=R.lt;have az:=G.lt;have ay:=a.size;obtain⟨w8,ao,X,a,b,j⟩:=X.mut2 a (by omega) (.bool s7) (.slice A7 k7 c7) rfl rfl;replace Y:=j Y (by omega);replace R:=j R (by omega);replace G:=j G (by omega);replace f:=f.ke b;replace i:=i.ke b;replace F:=F.ke b;rw[ao];clear ao;replace m:=aa X.g2 (aa Y.g2 (aa R.g4 G.k2));refine(av _ _ _ f i).mono ?_;rintro e9 w9 ⟨v9,a5,rfl,h9, -,M⟩;obtain⟨s9,A9,k9,c9,rfl⟩:=h9.form;replace X:=X.be M;replace Y:=Y.be M;replace R:=R.be M;replace G:=G.be M;replace m:=aa X.g2 (aa Y.g2 (aa R.g4 G.k2));replace b:=KM.be M;replace f:=f.ke b;replace i:=i.ke b;replace F:=F.ke b;replace a:=aC a M;go_wp2_with fail;have ak:=X.lt;have al:=Y.lt;have aj:=R.lt;have az:=G.lt;have ay:=a.size;obtain⟨W6,x,Y,a,b,j⟩:=Y.mut2 a (by omega) (.bool s9) (.slice A9 k9 c9) rfl rfl;replace X:=j X (by omega);replace R:=j R (by omega);replace G:=j G (by omega);replace F:=F.ke b;replace h9:=h9.ke b;rw[x];clear x;replace m:=aa X.k2 (aa Y.k2 (aa R.k4 G.k2));go_meet;exact⟨N,D,_,_,_,_,_,_,_,_,ar,a1,(fun _=>r),ax,aw,X,Y,R,F,h9,a⟩
   ·have q1:decide (1<bb)=false:=by simpa using fun h=>ag (T.1 h)
    have hg:g=1:=by omega
    subst hg;have a0:Hid (q.num=p∧(q.den:Int)=o):=by have:=r.out;unfold Hid;simpa using this
    clear T ag;go_wp2;go_meet;exact⟨p,o,_,_,_,_,_,_,_,_,ad,H,(fun _=>a0),B,z,X,Y,R,hn,f,a⟩
  case rest=>
   clear X Y R hn f a m B z r H ad ar aw ax;obtain⟨N,D,P,I,O,J,s2,Z,k2,c2,ad, -,hP,B,z,X,Y,R,hn,f,a⟩:=hcut;have r:=hP rfl;clear hP;have m:=aa X.g2 (aa Y.g2 R.g4);go_wp2_with fail;refine(EI _ _ _ f z).mono ?_;rintro e6 a6 ⟨am,rfl, -,ac,V⟩;replace X:=X.be V;replace Y:=Y.be V;replace R:=R.be V;replace m:=aa X.g2 (aa Y.g2 R.g4);replace b:=KM.be V;replace hn:=hn.ke b;replace f:=f.ke b;replace a:=aC a V;by_cases ae:D=1
   ·have q1:(am==1)=true:=by simpa using ac.2 (by rw[ae];rfl)
    have af:Hid (bS q=0):=fV.2 (by have:=r.out.2;omega);clear ac ae;go_wp2_with fail;obtain⟨U0,Q,Y,a,b,j⟩:=Y.mut2 a (by omega) (.bool false) (.slice none 0 0) rfl rfl;replace X:=j X (by omega);replace R:=j R (by omega);replace hn:=hn.ke b;obtain⟨W6,x,R,a,b,j⟩:=R.mut4 a (by omega) (.bool P) (.slice I O J) (.bool false) (.slice none 0 0) rfl rfl;replace X:=j X (by omega);replace Y:=j Y (by omega);replace hn:=hn.ke b;rw[Q,x];clear Q x;replace m:=aa X.k2 (aa Y.k2 R.k4);exact aM (v:= .agg #[.bool P,.slice I O J,.bool false,.slice none 0 0]) (by simp[results,results101,go_sem,R.k4]) rfl ⟨_,rfl,NQ.of hn (NI.zero _) r.out.1 af.out,a⟩
   ·have q1:(am==1)=false:=by simpa using fun h=>ae (by have:=ac.1 h;omega)
    have af:Hid (bS q=D):=(mI (by have:=r.out.2;omega)).trans r.out.2;clear ac ae;go_wp2_with fail;obtain⟨W6,x,R,a,b,j⟩:=R.mut4 a (by omega) (.bool P) (.slice I O J) (.bool s2) (.slice Z k2 c2) rfl rfl;replace X:=j X (by omega);replace Y:=j Y (by omega);replace hn:=hn.ke b;replace f:=f.ke b;rw[x];clear x;replace m:=aa X.k2 (aa Y.k2 R.k4);exact aM (v:= .agg #[.bool P,.slice I O J,.bool s2,.slice Z k2 c2]) (by simp[results,results101,go_sem,R.k4]) rfl ⟨_,rfl,NQ.of hn f r.out.1 af.out,a⟩
def r8(q:Rat)(v:Value)(w:World)(hv:NQ w v q)(G:nl q.den<=549755813888):Calls prog 102 #[v] w (nN w (q.den:Int)):=by
 obtain⟨s,A,k,c,j,g,b,i,rfl⟩:=hv.form;obtain⟨e,C⟩:=hv.den.words.len;have z:nl (bS q).natAbs<=549755813888:=aH (mY q) G;by_cases f:q.den=1
 ·have y:b=0:=e.2 (by rw[fV.2 f];rfl);have H:((b:Int)==0)=true:=by rw[y];rfl
  have D:Hid ((q.den:Int)=1):=by unfold Hid;omega
  have F:∀W,Calls prog 96 #[.int .i64 1] W (nN W 1):=fun W=>EJ 1 W (by decide);clear e C y f z;obtain⟨W,t,a,B,R⟩:=eL w [.bool s,.slice A k c,.bool j,.slice g b i] 62 [.bool false,.slice none 0 0] 60;have r:=aa B.g4 R.g2;go_enter func102,ntmps102;go_wp2_with fail;(try rw[t]);clear t;refine(F _).mono ?_;rintro K I ⟨L,rfl,d,n⟩;obtain⟨p,l,o,m,rfl⟩:=d.form;replace B:=B.be n;replace R:=R.be n;replace r:=aa B.k4 R.g2;replace a:=aC a n;replace d:NI I (.agg #[.bool p,.slice l o m]) (q.den:Int):=by rw[D.out];exact d
  go_wp2_with fail;obtain⟨J,u,R,a,e,E⟩:=R.mut2 a (by omega) (.bool p) (.slice l o m) rfl rfl;replace B:=E B (by omega);replace d:=d.ke e;rw[u];clear u;replace r:=aa B.k4 R.k2;exact aM (v:= .agg #[.bool p,.slice l o m]) (by simp[results,results102,go_sem,R.k2]) rfl ⟨_,rfl,d,a⟩
 ·have H:((b:Int)==0)=false:=by
   have:b≠0:=fun h=>f (fV.1 (by have:=e.1 h;omega));simpa using this
  have x:=hv.den;rw[mI f] at x;have a:Below w.heap.size w ((w.alloc (.cells #[.bool s,.slice A k c,.bool j,.slice g b i] 62)).alloc (.cells #[.bool j,.slice g b i] 60)):=((aG _ _).alloc aE _).alloc (by simp) _;clear e C f z;go_enter func102,ntmps102;go_wp2_with fail;exact aM (v:= .agg #[.bool j,.slice g b i]) (by simp[results,results102,go_sem]) rfl ⟨_,rfl,x.be a,a⟩
def oC(q:Rat)(v:Value)(w:World)(hv:NQ w v q)(h:nl q.num.natAbs<=1099511627776):Calls prog 61 #[v] w (eO w q.num.sign):=by
 obtain⟨s,A,k,c,i,d,g,e,rfl⟩:=hv.form;obtain⟨W,b,a,B⟩:=bI w [.bool s,.slice A k c,.bool i,.slice d g e] 62;have j:=B.g4;go_enter func61,ntmps61;go_wp2_with fail;(try rw[b]);clear b;refine(EK _ _ _ (hv.be a).num h).mono ?_;rintro l m ⟨rfl,f⟩;go_wp2;go_ret;exact⟨rfl,aC a f⟩
def yW(q:Rat)(v:Value)(w:World)(hv:NQ w v q)(x:nl q.num.natAbs<=1099511627776):Calls prog 54 #[v] w (eS w (-q)):=by
 obtain⟨s,A,k,c,j,e,i,f,rfl⟩:=hv.form;obtain⟨W,o,a,B,R⟩:=eL w [.bool s,.slice A k c,.bool j,.slice e i f] 62 [.bool false,.slice none 0 0,.bool false,.slice none 0 0] 62;have l:=aa B.g4 R.g4;go_enter func54,ntmps54;go_wp2_with fail;(try rw[o]);clear o;have hn:=(hv.be a).num;have b:=(hv.be a).den;replace hn:=hn.drew;replace b:=b.drew;replace B:=B.drew;replace R:=R.drew;replace a:=a.drew;replace l:=aa B.k4 R.g4;have y:w.heap.size+1≠w.heap.size:=by omega
 go_region_held3 (fun w'=>C4 w' w.heap.size (.bool s) (.slice A k c) (.bool j) (.slice e i f))
  (first|(with_reducible exact B.k4)|((repeat (first|with_reducible exact B.k4|with_reducible refine kK y ?_))))
  (first
   |(go_at_call 110;refine(yY _ _ _ hn x).mono ?_;rintro C E ⟨D,rfl,g,h⟩;obtain⟨t,m,r,n,rfl⟩:=g.form;replace B:=B.be h;replace R:=R.be h;replace l:=aa B.k4 R.g4;replace d:=KM.be h;replace hn:=hn.ke d;replace b:=b.ke d;replace a:=aC a h))
 all_goals (
  go_wp2_with fail;obtain⟨z,p,R,a,d,u⟩:=R.mut4 a (by omega) (.bool t) (.slice m r n) (.bool j) (.slice e i f) rfl rfl;replace B:=u B (by omega);replace g:=g.ke d;replace b:=b.ke d;rw[p];clear p;replace l:=aa B.k4 R.k4;exact aM (v:= .agg #[.bool t,.slice m r n,.bool j,.slice e i f]) (by simp[results,results54,go_sem,R.k4]) rfl ⟨_,rfl,NQ.of g b rfl rfl,a⟩
 )
def oU(x:Rat):x=(x.num:Rat)/(x.den:Rat):=by rw[<-Rat.mkRat_eq_div,Rat.mkRat_self]
def yV(x y:Rat):((x.num*y.num:Int):Rat)/(((x.den:Int)*(y.den:Int):Int):Rat)=x*y:=by
 conv=>rhs;rw[oU x,oU y]
 rw[eJ,eJ,Rat.intCast_natCast,Rat.intCast_natCast];grind
def NQ.len{w:World}{s s':Bool}{u:Value}{A:Option Addr}{k c:Nat}{q:Rat}(h:NQ w (.agg #[.bool s,u,.bool s',.slice A k c]) q):((k:Int)==0)=decide (q.den=1):=by
 have:=h.den.words.len.1;rw[Int.natAbs_eq_zero,fV] at this;by_cases a:q.den=1
 ·rw[this.2 a];simp[a]
 ·have:k≠0:=fun e=>a (this.1 e);simp[a,this]
def sL(x y:Rat)(vx vy:Value)(w:World)(g:NQ w vx x)(i:NQ w vy y)(K:Nat)(kx:RL K x)(ky:RL K y)(hK:2*K<=549755813888):Calls prog 50 #[vx,vy] w (eS w (x*y)):=by
 obtain⟨s,A,k,c,V,M,r,O,rfl⟩:=g.form;obtain⟨t,C,l,d,Z,N,z,P,rfl⟩:=i.form;obtain⟨S,k2⟩:=kx;obtain⟨k3,k4⟩:=ky;have T:=g.len;have U:=i.len;by_cases f:x.den=1∧y.den=1
 ·have r1:((r:Int)==0)=true:=by rw[T];simpa using f.1
  have r2:((z:Int)==0)=true:=by rw[U];simpa using f.2
  have B:Hid ((x*y).num=x.num*y.num∧(x*y).den=1):=by
   have e:x*y=((x.num*y.num:Int):Rat):=by
    rw[<-yV x y,f.1,f.2];simp;grind
   rw[e];exact⟨rfl,rfl⟩
  clear T U f;obtain⟨W,D,b,X,Y,R⟩:=gE w [.bool s,.slice A k c,.bool V,.slice M r O] 62 [.bool t,.slice C l d,.bool Z,.slice N z P] 62 [.bool false,.slice none 0 0,.bool false,.slice none 0 0] 62;have n:=aa X.g4 (aa Y.g4 R.g4);go_enter func50,ntmps50;go_wp2_with fail;(try rw[D]);clear D;refine(oV x.num y.num _ _ _ (g.be b).num (i.be b).num (by omega) (by omega)).mono ?_;rintro Q w1 ⟨v1,rfl,f,q⟩;obtain⟨s1,A1,S,c1,rfl⟩:=f.form;replace X:=X.be q;replace Y:=Y.be q;replace R:=R.be q;replace n:=aa X.k4 (aa Y.k4 R.g4);replace b:=aC b q;go_wp2_with fail;obtain⟨W6,E,R,b,a,F⟩:=R.mut4 b (by omega) (.bool s1) (.slice A1 S c1) (.bool false) (.slice none 0 0) rfl rfl;replace X:=F X (by omega);replace Y:=F Y (by omega);replace f:=f.ke a;rw[E];clear E;replace n:=aa X.k4 (aa Y.k4 R.k4);exact aM (v:= .agg #[.bool s1,.slice A1 S c1,.bool false,.slice none 0 0]) (by simp[results,results50,go_sem,R.k4]) rfl ⟨_,rfl,NQ.of f (NI.zero _) B.out.1 (fV.2 B.out.2),b⟩
 ·have B:=aB (yV x y);have lm:=fI x.num.natAbs y.num.natAbs;have ld:=fI x.den y.den;have ac:(x.den:Int)*(y.den:Int)≠0:=Int.mul_ne_zero (by have:=x.den_nz;omega) (by have:=y.den_nz;omega);have Q:nl (x.num*y.num).natAbs<=549755813888:=by rw[fL];omega
  have e2:nl ((x.den:Int)*(y.den:Int)).natAbs<=549755813888:=by rw[fL];exact aH ld (by omega)
  have ai:((r:Int)==0)=false∨((r:Int)==0)=true∧((z:Int)==0)=false:=by
   rw[T,U];by_cases j:x.den=1
   ·exact .inr ⟨by simpa using j,by simpa using fun h=>f ⟨j,h⟩⟩
   ·exact .inl (by simpa using j)
  have ad:=fun W u v h G=>vE (x.num*y.num) ((x.den:Int)*(y.den:Int)) u v W h G ac Q e2;rw[B.out] at ad;have ag:=fun W u v h G=>oV x.num y.num u v W h G (by omega) (by omega);have ah:=fun W u v h G=>oV (x.den:Int) (y.den:Int) u v W h G (by rw[dD];omega) (by rw[dD];omega);have ae:=fun W h=>r8 x (.agg #[.bool s,.slice A k c,.bool V,.slice M r O]) W h (by omega);have af:=fun W h=>r8 y (.agg #[.bool t,.slice C l d,.bool Z,.slice N z P]) W h (by omega);clear T U f B lm ld ac Q e2;rcases ai with r1|⟨r1,r2⟩
  all_goals (
   obtain⟨W,D,b,X,Y,R⟩:=gE w [.bool s,.slice A k c,.bool V,.slice M r O] 62 [.bool t,.slice C l d,.bool Z,.slice N z P] 62 [.bool false,.slice none 0 0,.bool false,.slice none 0 0] 62;have n:=aa X.g4 (aa Y.g4 R.g4);go_enter func50,ntmps50;go_wp2_with fail;(try rw[D]);clear D;replace g:=g.be b;replace i:=i.be b;replace g:=g.drew;replace i:=i.drew;replace X:=X.drew;replace Y:=Y.drew;replace R:=R.drew;replace b:=b.drew;replace n:=aa X.k4 (aa Y.k4 R.g4);have aj:w.heap.size+1+1≠w.heap.size:=by omega
   have ak:w.heap.size+1+1≠w.heap.size+1:=by omega
   go_region_held3 (fun w'=>C4 w' w.heap.size (.bool s) (.slice A k c) (.bool V) (.slice M r O)∧C4 w' (w.heap.size+1) (.bool t) (.slice C l d) (.bool Z) (.slice N z P))
    (first|(with_reducible exact⟨X.k4,Y.k4⟩)|(refine⟨?_,?_⟩<;>(repeat (first|with_reducible exact X.k4|with_reducible exact Y.k4|with_reducible refine kK aj ?_|with_reducible refine kK ak ?_))))
    (first
     |(go_at_call 100;(with_reducible refine(ag _ _ _ g.num i.num).mono ?_);rintro Q w1 ⟨v1,rfl,f,q⟩;obtain⟨s1,A1,S,c1,rfl⟩:=f.form;replace X:=X.be q;replace Y:=Y.be q;replace R:=R.be q;replace n:=aa X.k4 (aa Y.k4 R.g4);replace a:=KM.be q;replace g:=g.ke a;replace i:=i.ke a;(try replace j:=j.ke a);(try replace o:=o.ke a);(try replace p:=p.ke a);(try replace m:=m.ke a);replace b:=aC b q)
     |(go_at_call 102;(with_reducible refine(ae _ g).mono ?_);rintro e2 w2 ⟨v2,rfl,j,H⟩;obtain⟨s2,A2,k2,c2,rfl⟩:=j.form;replace X:=X.be H;replace Y:=Y.be H;replace R:=R.be H;replace n:=aa X.k4 (aa Y.k4 R.g4);replace a:=KM.be H;replace g:=g.ke a;replace i:=i.ke a;(try replace f:=f.ke a);(try replace o:=o.ke a);(try replace p:=p.ke a);(try replace m:=m.ke a);replace b:=aC b H)
     |(go_at_call 102;(with_reducible refine(af _ i).mono ?_);rintro e3 w3 ⟨v3,rfl,o,I⟩;obtain⟨s3,A3,k3,c3,rfl⟩:=o.form;replace X:=X.be I;replace Y:=Y.be I;replace R:=R.be I;replace n:=aa X.k4 (aa Y.k4 R.g4);replace a:=KM.be I;replace g:=g.ke a;replace i:=i.ke a;(try replace f:=f.ke a);(try replace j:=j.ke a);(try replace p:=p.ke a);(try replace m:=m.ke a);replace b:=aC b I)
     |(go_at_call 100;(with_reducible refine(ah _ _ _ j o).mono ?_);rintro e4 w4 ⟨v4,rfl,p,J⟩;obtain⟨s4,A4,k4,c4,rfl⟩:=p.form;replace X:=X.be J;replace Y:=Y.be J;replace R:=R.be J;replace n:=aa X.k4 (aa Y.k4 R.g4);replace a:=KM.be J;replace g:=g.ke a;replace i:=i.ke a;(try replace f:=f.ke a);(try replace j:=j.ke a);(try replace o:=o.ke a);(try replace m:=m.ke a);replace b:=aC b J)
     |(go_at_call 101;refine(ad _ _ _ f p).mono ?_;rintro e5 w5 ⟨v5,rfl,m,L⟩;obtain⟨s5,A5,k5,c5,s6,A6,k6,c6,rfl⟩:=m.form;replace X:=X.be L;replace Y:=Y.be L;replace R:=R.be L;replace n:=aa X.k4 (aa Y.k4 R.g4);replace a:=KM.be L;replace g:=g.ke a;replace i:=i.ke a;(try replace f:=f.ke a);(try replace j:=j.ke a);(try replace o:=o.ke a);(try replace p:=p.ke a);replace b:=aC b L))
   all_goals (
    go_wp2_with fail;obtain⟨W6,E,R,b,a,F⟩:=R.mut4 b (by omega) (.bool s5) (.slice A5 k5 c5) (.bool s6) (.slice A6 k6 c6) rfl rfl;replace X:=F X (by omega);replace Y:=F Y (by omega);replace m:=m.ke a;rw[E];clear E;replace n:=aa X.k4 (aa Y.k4 R.k4);exact aM (v:= .agg #[.bool s5,.slice A5 k5 c5,.bool s6,.slice A6 k6 c6]) (by simp[results,results50,go_sem,R.k4]) rfl ⟨_,rfl,m,b⟩;))
def ED(x y:Rat)(h:y≠0):((x.num*(y.den:Int):Int):Rat)/(((x.den:Int)*y.num:Int):Rat)=x/y:=by
 have c:(y.num:Rat)≠0:=fun e=>h (Rat.num_eq_zero.1 (Rat.intCast_inj.1 e));have a:(y.den:Rat)≠0:=fun e=>y.den_nz (by have:=Rat.intCast_inj.1 (show((y.den:Int):Rat)=((0:Int):Rat) from e);omega);have b:(x.den:Rat)≠0:=fun e=>x.den_nz (by have:=Rat.intCast_inj.1 (show((x.den:Int):Rat)=((0:Int):Rat) from e);omega);conv=>rhs;rw[oU x,oU y]
 rw[eJ,eJ,Rat.intCast_natCast,Rat.intCast_natCast];grind
def vD(x y:Rat)(vx vy:Value)(w:World)(g:NQ w vx x)(f:NQ w vy y)(K:Nat)(kx:RL K x)(ky:RL K y)(hK:2*K<=549755813888)(P:y≠0):Calls prog 97 #[vx,vy] w (eS w (x/y)):=by
 obtain⟨s,A,k,c,T,L,S,M,rfl⟩:=g.form;obtain⟨t,C,l,d,J,G,I,H,rfl⟩:=f.form;obtain⟨k1,k2⟩:=kx;obtain⟨k3,k4⟩:=ky;have Z:=aB (ED x y P);have lm:=fI x.num.natAbs y.den;have ld:=fI x.den y.num.natAbs;have Q:y.num≠0:=fun e=>P (Rat.num_eq_zero.1 e);have ad:(x.den:Int)*y.num≠0:=Int.mul_ne_zero (by have:=x.den_nz;omega) Q;have N:nl (x.num*(y.den:Int)).natAbs<=549755813888:=by rw[fL,dD];omega
 have O:nl ((x.den:Int)*y.num).natAbs<=549755813888:=by rw[fL,dD];omega
 have ae:=fun W u v h q=>vE (x.num*(y.den:Int)) ((x.den:Int)*y.num) u v W h q ad N O;rw[Z.out] at ae;have ah:=fun W u v h q=>oV x.num (y.den:Int) u v W h q (by omega) (by rw[dD];omega);have ai:=fun W u v h q=>oV (x.den:Int) y.num u v W h q (by rw[dD];omega) (by omega);have af:=fun W h=>r8 x (.agg #[.bool s,.slice A k c,.bool T,.slice L S M]) W h (by omega);have ag:=fun W h=>r8 y (.agg #[.bool t,.slice C l d,.bool J,.slice G I H]) W h (by omega);have aj:=fun W h=>oC y (.agg #[.bool t,.slice C l d,.bool J,.slice G I H]) W h (by omega);have q0:(y.num.sign==0)=false:=by rw[beq_eq_false_iff_ne];exact fun e=>Q (Int.sign_eq_zero_iff_zero.1 e)
 generalize y.num.sign=sg at *;clear Z lm ld ad N O Q P;obtain⟨W,eW,b,X,Y,R⟩:=gE w [.bool s,.slice A k c,.bool T,.slice L S M] 62 [.bool t,.slice C l d,.bool J,.slice G I H] 62 [.bool false,.slice none 0 0,.bool false,.slice none 0 0] 62;have p:=aa X.g4 (aa Y.g4 R.g4);go_enter func97,ntmps97;go_wp2_with fail;(try rw[eW]);clear eW;replace g:=g.be b;replace f:=f.be b;refine(aj _ f).mono ?_;rintro e0 w0 ⟨rfl,r⟩;replace X:=X.be r;replace Y:=Y.be r;replace R:=R.be r;replace p:=aa X.k4 (aa Y.k4 R.g4);replace a:=KM.be r;replace g:=g.ke a;replace f:=f.ke a;replace b:=aC b r;go_wp2_with fail;replace g:=g.drew;replace f:=f.drew;replace X:=X.drew;replace Y:=Y.drew;replace R:=R.drew;replace b:=b.drew;replace p:=aa X.k4 (aa Y.k4 R.g4);have ak:w.heap.size+1+1≠w.heap.size:=by omega
 have al:w.heap.size+1+1≠w.heap.size+1:=by omega
 go_region_held3 (fun w'=>C4 w' w.heap.size (.bool s) (.slice A k c) (.bool T) (.slice L S M)∧C4 w' (w.heap.size+1) (.bool t) (.slice C l d) (.bool J) (.slice G I H))
  (first|(with_reducible exact⟨X.k4,Y.k4⟩)|(refine⟨?_,?_⟩<;>(repeat (first|with_reducible exact X.k4|with_reducible exact Y.k4|with_reducible refine kK ak ?_|with_reducible refine kK al ?_))))
  (first
   |(go_at_call 100;(with_reducible refine(ah _ _ _ g.num n).mono ?_);rintro N w1 ⟨v1,rfl,j,z⟩;obtain⟨s1,A1,k1,c1,rfl⟩:=j.form;replace X:=X.be z;replace Y:=Y.be z;replace R:=R.be z;replace p:=aa X.k4 (aa Y.k4 R.g4);replace a:=KM.be z;replace g:=g.ke a;replace f:=f.ke a;(try replace m:=m.ke a);(try replace n:=n.ke a);(try replace o:=o.ke a);(try replace i:=i.ke a);replace b:=aC b z)
   |(go_at_call 102;(with_reducible refine(af _ g).mono ?_);rintro O w2 ⟨v2,rfl,m,B⟩;obtain⟨s2,A2,k2,c2,rfl⟩:=m.form;replace X:=X.be B;replace Y:=Y.be B;replace R:=R.be B;replace p:=aa X.k4 (aa Y.k4 R.g4);replace a:=KM.be B;replace g:=g.ke a;replace f:=f.ke a;(try replace j:=j.ke a);(try replace n:=n.ke a);(try replace o:=o.ke a);(try replace i:=i.ke a);replace b:=aC b B)
   |(go_at_call 102;(with_reducible refine(ag _ f).mono ?_);rintro e3 w3 ⟨v3,rfl,n,D⟩;obtain⟨s3,A3,k3,c3,rfl⟩:=n.form;replace X:=X.be D;replace Y:=Y.be D;replace R:=R.be D;replace p:=aa X.k4 (aa Y.k4 R.g4);replace a:=KM.be D;replace g:=g.ke a;replace f:=f.ke a;(try replace j:=j.ke a);(try replace m:=m.ke a);(try replace o:=o.ke a);(try replace i:=i.ke a);replace b:=aC b D)
   |(go_at_call 100;(with_reducible refine(ai _ _ _ m f.num).mono ?_);rintro e4 w4 ⟨v4,rfl,o,E⟩;obtain⟨s4,A4,k4,c4,rfl⟩:=o.form;replace X:=X.be E;replace Y:=Y.be E;replace R:=R.be E;replace p:=aa X.k4 (aa Y.k4 R.g4);replace a:=KM.be E;replace g:=g.ke a;replace f:=f.ke a;(try replace j:=j.ke a);(try replace m:=m.ke a);(try replace n:=n.ke a);(try replace i:=i.ke a);replace b:=aC b E)
   |(go_at_call 101;refine(ae _ _ _ j o).mono ?_;rintro e5 w5 ⟨v5,rfl,i,F⟩;obtain⟨s5,U,k5,c5,s6,V,k6,c6,rfl⟩:=i.form;replace X:=X.be F;replace Y:=Y.be F;replace R:=R.be F;replace p:=aa X.k4 (aa Y.k4 R.g4);replace a:=KM.be F;replace g:=g.ke a;replace f:=f.ke a;(try replace j:=j.ke a);(try replace m:=m.ke a);(try replace n:=n.ke a);(try replace o:=o.ke a);replace b:=aC b F))
 all_goals (
  go_wp2_with fail;obtain⟨W6,ac,R,b,a,ff⟩:=R.mut4 b (by omega) (.bool s5) (.slice U k5 c5) (.bool s6) (.slice V k6 c6) rfl rfl;replace X:=ff X (by omega);replace Y:=ff Y (by omega);replace i:=i.ke a;rw[ac];clear ac;replace p:=aa X.k4 (aa Y.k4 R.k4);exact aM (v:= .agg #[.bool s5,.slice U k5 c5,.bool s6,.slice V k6 c6]) (by simp[results,results97,go_sem,R.k4]) rfl ⟨_,rfl,i,b⟩;)
def IntAt.blk{w:World}{s:Bool}{A:Option Addr}{k c:Nat}{n:Int}(h:IntAt w (.agg #[.bool s,.slice A k c]) n):∀g,(Value.slice A k c).ownBlock=some g->g<w.heap.size:=fun _ e=>h.words.block e
def SumAt.mono{w:World}{p Z L M a:Nat}{s:Int}(h:SumAt w p Z L M s)(r:M<=a):SumAt w p Z L a s:=by
 obtain⟨m,nv,o,n,b,c,d,e,f,g,i,j,k,l,q⟩:=h;exact⟨m,nv,o,n,b,c,d,e,f,g,i,j,k,l,by omega⟩
def WholeAt.get{w:World}{A:Option Addr}{c l:Nat}{ns:List Int}(h:WholeAt w (.slice A l c) ns){i:Nat}(hi:i<ns.length):
  ∃b s B m d,A=some ⟨b,0,none⟩∧b<w.heap.size∧w.cell? ⟨b,i*2,none⟩=some (.bool s)∧w.cell? ⟨b,i*2+1,none⟩=some (.slice B m d)∧IntAt w (.agg #[.bool s,.slice B m d]) (cf ns i)∧cf ns i∈ns:=by
 obtain⟨b,s,B,m,d,a,e,f,g,j⟩:=h.at_ (aR hi);exact⟨b,s,B,m,d,a,e,f,g,by rw[fZ hi];exact j,by rw[fZ hi];exact List.getElem_mem hi⟩
def wS(ns:List Int)(v:Value)(w:World)(hv:WholeAt w v ns)(k:ns≠[])(y:ns.length<=1099511627776):
  Calls prog 42 #[v] w (dW w (cf ns (ns.length-1))):=by
 obtain⟨A,c,rfl,x⟩:=hv.form;have n:ns.length≠0:=fun e=>k (bX e);obtain⟨m,q⟩:∃m,ns.length=m+1:=⟨ns.length-1,by omega⟩;have F:((ns.length:Int)==0)=false:=by simp;omega
 obtain⟨b,s,B,l,d,rfl,h,f,g,j, -⟩:=hv.get (i:=ns.length-1) (by omega);have u:(ns.length:Int)-1=(m:Int):=by omega
 have a:ns.length-1=m:=by omega
 rw[a] at f g j⊢;have z:(0:Int)<=(m:Int):=by omega
 have C:(m:Int)<(ns.length:Int):=by omega
 have D:=fun o=>(((aG w.heap.size w).alloc aE o).cell (p:=⟨b,m*2,none⟩) h).trans f;have E:=fun o=>(((aG w.heap.size w).alloc aE o).cell (p:=⟨b,m*2+1,none⟩) h).trans g;clear n k a q;go_enter func42,ntmps42;go_wp2_with fail;have R:=Bx.new w [.bool s,.slice B l d] 40;have r:=R.cell 0 rfl;have t:=R.cell 1 rfl;exact aM (v:= .agg #[.bool s,.slice B l d]) (by simp[results,results42,go_sem]) rfl ⟨_,rfl,j.ke (Keep.alloc _ _),(aG _ _).alloc aE _⟩
def BO{α:Type}(k:Nat):∀(n:Nat) (l:List α),l.length=n*k->∃rows:List (List α),rows.length=n∧rows.flatten=l∧∀r∈rows,r.length=k
 |0,l,h=>⟨[],rfl,by rw[Nat.zero_mul] at h;exact(bX h).symm,fun _ h=>by cases h⟩
 |n+1,l,h=>by
  rw[Nat.succ_mul] at h;obtain⟨rows,b,c,d⟩:=BO k n (l.drop k) (by rw[eP];omega);refine⟨l.take k :: rows,by rw[eG,b],by rw[List.flatten_cons,c,List.take_append_drop],fun r a=> ?_⟩;rcases List.mem_cons.1 a with rfl|a
  ·rw[bK];omega
  ·exact d r a
def I9{w:World}{f n:Nat}{v:Value}{rows:List (List Value)}{ns:List Int}(h:w.ownsRow f 40 2 v n rows.flatten)(C:∀r∈rows,r.length=2)(hn:rows.length=n)(E:ns.length=n)(I:0<n)(hi:IRow w rows ns):
  ∃g a,v= .slice (some ⟨g,0,none⟩) n a∧f<=g∧g<w.heap.size∧n<=a∧a<=maxLen∧OwnW w g ns:=by
 rcases h.2 with ⟨_,H⟩|⟨g,a,u,rfl,z,o,B,D,F,G⟩
 ·omega
 ·obtain⟨t,J,k,b⟩:=BO 2 a u.toList (by simpa using F);refine⟨g,a,rfl,z,(Array.getElem?_eq_some_iff.1 o).1,B,D,t,⟨?_,b⟩,by omega,fun i m q=> ?_⟩
  ·unfold Bx;rw[o,k]
  ·obtain⟨s,A,l,c,x,y⟩:=hi i m q;refine⟨s,A,l,c,?_,y⟩;have K:i<n:=by rw[<-E];exact(List.getElem?_eq_some_iff.1 q).1
   obtain⟨e,d⟩:∃e,t[i]? =some e:=⟨_,aR (by omega)⟩;rw[d];congr 1;have L:=b e (dG d);refine List.ext_getElem? (fun j=> ?_);by_cases p:j<2
   ·rw[<-mW b d p,<-mW C x p,k,<-G,fC,if_pos (by omega)]
   ·rw[fU (by omega),fU (by simp;omega)]
def WholeAt.rows{w:World}{A:Option Addr}{c l:Nat}{ns:List Int}(h:WholeAt w (.slice A l c) ns)(v:ns≠[]):
  ∃rows:List (List Value),rows.length=l∧l=ns.length∧(∀r∈rows,r.length=2)∧Src w A rows.flatten∧IRow w rows ns∧∀u∈rows.flatten,u.oneCell'=true:=by
 obtain⟨B,C,e,D,h⟩:=h;simp only[Value.slice.injEq] at e;obtain⟨rfl,rfl,rfl⟩:=e;obtain⟨b,rows,rfl,o,g⟩:=h.resolve_left v;have F:ns.length<=rows.length:=by
  rcases dE rows.length ns.length with d|d
  ·obtain⟨s,A,l,c,a,_⟩:=g rows.length _ (aR d);simp at a
  ·exact d
 have k:∀r∈rows.take ns.length,r.length=2:=fun r h=>o.2 r (lH h);have m:∀i r,(rows.take ns.length)[i]? =some r->i<ns.length∧rows[i]? =some r:=fun i r h=>by
  rw[fC] at h;split at h
  ·exact⟨by assumption,h⟩
  ·cases h
 refine⟨rows.take ns.length,by rw[bK];omega,rfl,k,.inr ⟨b,0,rfl,fun j u f=> ?_⟩,fun i n hn=> ?_,fun u f=> ?_⟩
 ·have E:j<ns.length*2:=by
   have:=(List.getElem?_eq_some_iff.1 f).1;rw[mX k,bK] at this;omega
  obtain⟨r,q⟩:∃r,(rows.take ns.length)[j/2]? =some r:=⟨_,aR (by rw[bK];omega)⟩;have d:=mW k q (show j%2<2 by omega);have e:j/2*2+j%2=j:=by omega
  rw[e,f] at d;have:=o.cell (j%2) (m _ _ q).2 d.symm;rw[e] at this;rw[bA];exact this
 ·obtain⟨s,A,l,c,a,t⟩:=g i n hn;exact⟨s,A,l,c,by rw[fC,if_pos (List.getElem?_eq_some_iff.1 hn).1];exact a,t⟩
 ·obtain⟨r,z,p⟩:=List.mem_flatten.1 f;obtain⟨i,y⟩:=List.mem_iff_getElem?.1 z;obtain⟨d,x⟩:=m i r y;obtain⟨s,A,l,c,a,_⟩:=g i _ (aR d);rw[x] at a;injection a with a;subst a;simp at p;rcases p with rfl|rfl<;>rfl
def IA{α:Type}{ys xs:List α}{y:α}{j:Nat}(a:ys[j]? =some y)(d:xs.length=ys.length):(ys.take j++xs.drop j).set j y=ys.take (j+1)++xs.drop (j+1):=by
 have c:j<ys.length:=(List.getElem?_eq_some_iff.1 a).1;have b:(ys.take j).length=j:=by rw[bK];omega
 rw[List.set_append_right _ _ (by omega),b,Nat.sub_self,kR,a,Option.toList_some,eK,j5 (show j<xs.length by omega),List.set_cons_zero];rfl
def IB{α:Type}{ys xs:List α}{j:Nat}(h:j<xs.length)(b:xs.length=ys.length):(ys.take j++xs.drop j)[j]? =xs[j]? :=by
 have a:(ys.take j).length=j:=by rw[bK];omega
 rw[fK (by omega),a,Nat.sub_self,List.getElem?_drop,gQ]
def IC{α:Type}{ys xs:List α}{j:Nat}(a:xs.length=ys.length):(ys.take j++xs.drop j).length=xs.length:=by
 rw[bE,bK,eP];omega
def kZ(r v:List Int)(a lead:Int)(k m:Nat):List Int:=(List.range m).map (fun i=>cf r i*lead-(if k<=i then a*cf v (i-k) else 0))
def nZ(q:List Int)(a lead:Int)(k:Nat):List Int:=(q.map (·*lead)).set k (cf q k*lead+a)
def T3(q:List Int)(a lead:Int){k:Nat}(b:k<q.length)(j:Nat):cf (nZ q a lead k) j=cf q j*lead+(if j=k then a else 0):=by
 unfold nZ cf;rw[eE,eE];by_cases e:j=k
 ·subst e;rw[if_pos rfl,gP (by simpa using b)];simp
 ·rw[if_neg e,lI (fun h=>e h.symm),iK,Int.add_zero];cases hh:q[j]? <;>simp[hh]
def T4(r v:List Int)(a lead:Int)(k m i:Nat):cf (kZ r v a lead k m) i=if i<m then cf r i*lead-(if k<=i then a*cf v (i-k) else 0) else 0:=qA _ m i
def T5{m lead:Int}{w q v r:List Int}{k:Nat}(hv:v≠[])(g:r.length=v.length+k)(f:k<q.length)(e:lead=cf v (v.length-1))
  (d:∀i,m*cf w i=conv (cf q) (cf v) i+cf r i)(i:Nat):
  (m*lead)*cf w i=conv (cf (nZ q (cf r (v.length-1+k)) lead k)) (cf v) i+cf (kZ r v (cf r (v.length-1+k)) lead k (v.length-1+k)) i:=by
 have c:0<v.length:=by
  cases v with
  |nil=>exact absurd rfl hv
  |cons a l=>simp
 have h:=O6 m (cf w) (cf q) (cf v) (cf r) v.length k c (fun i b=>bV b) (fun i b=>bV (by omega)) d i;rw[T4,e,h];congr 1;exact gL (fun j=>(T3 q _ _ f j).symm) (fun _=>rfl) i
def T6{m:Int}{w q v r:List Int}{n:Nat}(a:cf r n=0)(c:r.length=n+1)(b:∀i,m*cf w i=conv (cf q) (cf v) i+cf r i)(i:Nat):
  m*cf w i=conv (cf q) (cf v) i+cf (r.take n) i:=by
 rw[b i];congr 1;unfold cf at *;rw[eE,eE,fC];by_cases h:i<n
 ·rw[if_pos h]
 ·rw[if_neg h];by_cases e:i=n
  ·subst e;rw[eE] at a;exact a
  ·rw[fU (by omega)]
def IntBx(w:World)(b:Nat)(n:Int):Prop:=∃s A k c,Bx w b [.bool s,.slice A k c] 40∧IntAt w (.agg #[.bool s,.slice A k c]) n
def nD(g:Nat)(w W:World):Prop:=Keep w W∧(∀b,b≠g->W.heap[b]? =w.heap[b]?)∧W.heap.size=w.heap.size∧W.os=w.os∧W.tape=w.tape∧W.output=w.output
def IntBx.be{w W:World}{b:Nat}{n:Int}(h:IntBx w b n)(a:Below w.heap.size w W):IntBx W b n:=by
 obtain⟨s,A,k,c,d,e⟩:=h;exact⟨s,A,k,c,d.be a,e.be a⟩
def IntBx.step{w W:World}{b g:Nat}{n:Int}(h:IntBx w b n)(a:nD g w W)(f:b≠g):IntBx W b n:=by
 obtain⟨s,A,k,c,d,e⟩:=h;exact⟨s,A,k,c,(a.2.1 b f).trans d,e.ke a.1⟩
def IntBx.lt{w:World}{b:Nat}{n:Int}(h:IntBx w b n):b<w.heap.size:=by
 obtain⟨s,A,k,c,a,d⟩:=h;exact a.lt
def OwnW.step{w W:World}{b g:Nat}{ns:List Int}(h:OwnW w b ns)(c:nD g w W)(f:b≠g):OwnW W b ns:=by
 obtain⟨i,a,e,d⟩:=h;exact⟨i,⟨(c.2.1 b f).trans a.1,a.2⟩,e,d.ke c.1⟩
def jD{B g:Nat}{a w W:World}(h:Below B a w)(b:nD g w W)(d:B<=g):Below B a W:=
 ⟨b.2.2.2.1.trans h.os,b.2.2.2.2.1.trans h.tape,b.2.2.2.2.2.trans h.output,by rw[b.2.2.1];exact h.size,fun k c=>(b.2.1 k (by omega)).trans (h.block k c)⟩
def OwnW.stored{w:World}{b:Nat}{ns:List Int}(h:OwnW w b ns){i:Nat}(hi:i<ns.length){s:Bool}{A:Option Addr}{l c:Nat}{n:Int}(hn:IntAt w (.agg #[.bool s,.slice A l c]) n):
  let W:=(w.setCell ⟨b,i*2,none⟩ (.bool s)).setCell ⟨b,i*2+1,none⟩ (.slice A l c)
  OwnW W b (ns.set i n)∧nD b w W:=by
 obtain⟨d,e,f⟩:=h.put hi hn;refine⟨d,e,fun g a=> ?_,f,rfl,rfl,rfl⟩;rw[Below.heap_setCell _ ⟨b,i*2+1,none⟩ _ g a,Below.heap_setCell _ ⟨b,i*2,none⟩ _ g a]
def IntBx.stored{w:World}{b:Nat}{m n:Int}(h:IntBx w b m){s:Bool}{A:Option Addr}{l c:Nat}(hn:IntAt w (.agg #[.bool s,.slice A l c]) n):
  let W:=(w.setCell ⟨b,0,none⟩ (.bool s)).setCell ⟨b,1,none⟩ (.slice A l c)
  IntBx W b n∧nD b w W:=by
 obtain⟨v,i,t,j,e,o⟩:=h;obtain⟨-, -,f, -,d⟩:=jU (w:=w) (B:=0) (s:=s) (u:= .slice A l c) ⟨rfl,rfl,rfl,aE,fun k p=>rfl⟩ (dC _) e;refine⟨⟨s,A,l,c,f,hn.ke d⟩,d,fun g a=> ?_,by simp,rfl,rfl,rfl⟩;rw[Below.heap_setCell _ ⟨b,1,none⟩ _ g a,Below.heap_setCell _ ⟨b,0,none⟩ _ g a]
def WholeAt.step{w W:World}{g l c:Nat}{A:Option Addr}{ns:List Int}(h:WholeAt w (.slice A l c) ns)(f:nD g w W)(o:∀b,A=some ⟨b,0,none⟩->b≠g):WholeAt W (.slice A l c) ns:=by
 obtain⟨i,j,e,k,h⟩:=h;refine⟨i,j,e,k,?_⟩;rcases h with h|⟨b,p,a,d,n⟩
 ·exact .inl h
 ·simp only[Value.slice.injEq] at e;exact .inr ⟨b,p,a,⟨(f.2.1 b (o b (e.1.trans a))).trans d.1,d.2⟩,n.ke f.1⟩
structure PQ(w wr:World)(b7 b8 b9 g:Nat)(m lead:Int)(q r:List Int):Prop where
 R:Bx wr w.heap.size [.bool false,.slice none 0 0] 40
 M:IntBx wr b7 m
 L:IntBx wr b8 lead
 Q:OwnW wr b9 q
 S:OwnW wr g r
 hb:Below w.heap.size w wr
 o1:w.heap.size<b7
 o2:b7<b8
 o3:b8<b9
 o4:b9<g
section
variable {w wr W:World}{b7 b8 b9 g:Nat}{m lead:Int}{q r:List Int}
def PQ.be(h:PQ w wr b7 b8 b9 g m lead q r)(a:Below wr.heap.size wr W):PQ w W b7 b8 b9 g m lead q r:=
 ⟨h.R.be a,h.M.be a,h.L.be a,h.Q.be a,h.S.be a,h.hb.trans (a.mono h.hb.size),h.o1,h.o2,h.o3,h.o4⟩
def PQ.alloc(h:PQ w wr b7 b8 b9 g m lead q r)(o:Obj):PQ w (wr.alloc o) b7 b8 b9 g m lead q r:=h.be ((aG _ _).alloc aE o)
def PQ.drew(h:PQ w wr b7 b8 b9 g m lead q r):PQ w wr.drew b7 b8 b9 g m lead q r:=h.be (aG _ _).drew
def PQ.cut(h:PQ w wr b7 b8 b9 g m lead q r)(n:Nat):PQ w wr b7 b8 b9 g m lead q (r.take n):=⟨h.R,h.M,h.L,h.Q,h.S.take n,h.hb,h.o1,h.o2,h.o3,h.o4⟩
def PQ.setQ(h:PQ w wr b7 b8 b9 g m lead q r){i:Nat}(hi:i<q.length){s:Bool}{A:Option Addr}{l c:Nat}{n:Int}(hn:IntAt wr (.agg #[.bool s,.slice A l c]) n):
  PQ w ((wr.setCell ⟨b9,i*2,none⟩ (.bool s)).setCell ⟨b9,i*2+1,none⟩ (.slice A l c)) b7 b8 b9 g m lead (q.set i n) r:=by
 obtain⟨b,a⟩:=h.Q.stored hi hn;have:=h.o1;have:=h.o2;have:=h.o3;have:=h.o4
 exact⟨(a.2.1 _ (by omega)).trans h.R,h.M.step a (by omega),h.L.step a (by omega),b,h.S.step a (by omega),jD h.hb a (by omega),h.o1,h.o2,h.o3,h.o4⟩
def PQ.setS(h:PQ w wr b7 b8 b9 g m lead q r){i:Nat}(hi:i<r.length){s:Bool}{A:Option Addr}{l c:Nat}{n:Int}(hn:IntAt wr (.agg #[.bool s,.slice A l c]) n):
  PQ w ((wr.setCell ⟨g,i*2,none⟩ (.bool s)).setCell ⟨g,i*2+1,none⟩ (.slice A l c)) b7 b8 b9 g m lead q (r.set i n):=by
 obtain⟨b,a⟩:=h.S.stored hi hn;have:=h.o1;have:=h.o2;have:=h.o3;have:=h.o4
 exact⟨(a.2.1 _ (by omega)).trans h.R,h.M.step a (by omega),h.L.step a (by omega),h.Q.step a (by omega),b,jD h.hb a (by omega),h.o1,h.o2,h.o3,h.o4⟩
def PQ.setM(h:PQ w wr b7 b8 b9 g m lead q r){s:Bool}{A:Option Addr}{l c:Nat}{n:Int}(hn:IntAt wr (.agg #[.bool s,.slice A l c]) n):
  PQ w ((wr.setCell ⟨b7,0,none⟩ (.bool s)).setCell ⟨b7,1,none⟩ (.slice A l c)) b7 b8 b9 g n lead q r:=by
 obtain⟨b,a⟩:=h.M.stored hn;have:=h.o1;have:=h.o2;have:=h.o3;have:=h.o4
 exact⟨(a.2.1 _ (by omega)).trans h.R,b,h.L.step a (by omega),h.Q.step a (by omega),h.S.step a (by omega),jD h.hb a (by omega),h.o1,h.o2,h.o3,h.o4⟩
end
end Go.Proofs.YtgjeoghojliocaaGreatDoor
namespace Go.Proofs.YtgjeoghojliocaaGreatDoor
open Go.RowKit Sos Go.Sort Tryz
def IL{P:Program}{b:Array Oper}{rest:List Oper}{o:Oper}{a:Act}{w w':World}{Q:Exit->Act->World->Prop}{e:Value}(j:o.guard=none){s x:Operand}{t c d:TypeId}
  (k:o.op= .call { callee:= .builtin .append,args:= #[s,x],argTypes:= #[t,c] })(n:o.type=d){f g:Value}(m:a.eval s=f)(p:a.eval x=g)(l:(Builtin.append_ #[t,c] d #[f,g]).run P w= .ok e w')
  (h:wpList P b Q rest (a.put o.dst e) w'):wpList P b Q (o :: rest) a w:=by
 subst n;refine wpList_plain j fun K i=> ?_;unfold Oper.wp execOp;simp only[k,resolve,invoke,builtin,Sem.run_bind,Sem.run_pure,Result.andThen_ok,List.map_toArray,fM,List.map_nil,m,p,l];exact i _ _ h
def rW(w:World)(g:Value)(l:List UInt8)(f:Value->World->Prop):Prop:=
 (∀b:World,Below w.heap.size w b->∃d e,(Builtin.append_ #[142,9] 142 #[g,.string ⟨l.toArray⟩]).run prog b= .ok d e∧f d e)∧
 (∀(b:World) (a:Addr) (c:Nat),Below w.heap.size w b->(∀j u,(Lib.byteCells l)[j]? =some u->b.cell? (a.add j)=some u)->∃d e,(Builtin.append_ #[142,142] 142 #[g,.slice (some a) l.length c]).run prog b= .ok d e∧f d e)
def IM(l:List UInt8):∀u∈Lib.byteCells l,u.oneCell'=true:=by
 intro u a;simp only[Lib.byteCells,List.mem_map] at a;obtain⟨b,_,rfl⟩:=a;rfl
def TS(w:World)(e:Value)(l:List UInt8)(d:Value->World->Prop)
  (h:∀(w1:World) (f:TypeId) (x:Value),Below w.heap.size w w1->Go.Src prog 1 f x l.length (Lib.byteCells l) w1->∃g w',(Builtin.append_ #[142,f] 142 #[e,x]).run prog w1= .ok g w'∧d g w'):rW w e l d:=by
 have j:(⟨l.toArray⟩:ByteArray).size=l.length:=by simp[ByteArray.size]
 refine⟨fun w1 b=>h w1 _ _ b ?_,fun w1 a c b i=>h w1 _ _ b ?_⟩
 ·have:=Go.Src.ofString (P:=prog) w1 underlying9 ⟨l.toArray⟩;rw[j] at this;exact this
 ·exact Go.Src.ofSlice w1 underlying142 _ _ _ _ (by rw[Lib.byteCells_length,Nat.mul_one]) i (IM l)
def wT{u:Nat}(a:u<BN):(Lib.decDigits u).length<=20:=by
 rw[Lib.decDigits_length];exact rS (by unfold BN at a;omega) (by decide)
def TU(b:Value)(u:Nat)(w:World)(a:Value->World->Prop)(i:u<100)(c:rW w b (Lib.decDigits u) a):
  Calls prog 186 #[b,.int .u64 u,.int .i64 10] w fun e w'=>∃f,e= .returned f∧a f w':=by
 obtain⟨j,l,d,h⟩:=c.1 w (aG _ _);have g:=aB d;clear d c;have k:(u:Int)<100:=by omega
 go_enter func186,ntmps186;go_wp2_with fail;refine(Tryz.internal_strconv_small u i _).mono ?_;rintro e w' ⟨rfl,rfl⟩;go_wp2_with (at_builtin;refine IL rfl rfl rfl rfl rfl g.out ?_);go_ret;exact⟨j,rfl,h⟩
def TV(p:Value)(u:Nat)(w:World)(o:Value->World->Prop)(J:100<=u)(v:u<BN)(C:Glob w)(s:rW w p (Lib.decDigits u) o):
  Calls prog 186 #[p,.int .u64 u,.int .i64 10] w fun e w'=>∃m,e= .returned m∧o m w':=by
 have E:1<=u:=by omega
 have x:u<18446744073709551616:=v;have H:Lib.nDigits u<=20:=by have:=wT v;rwa [Lib.decDigits_length] at this
 have r:Tryz.prog.arrayLen 217=24:=by simp[Program.arrayLen,underlying217]
 have I:∀W,(Instr.sliceAt 217 (.pointer (some ⟨w.heap.size,0,none⟩)) none (some (.int .i64 (Lib.nDigits u:Int))) none).run prog W= .ok (.slice (some ⟨w.heap.size,0,none⟩) (Lib.nDigits u) 24) W:=fun W=>by
  rw[run_sliceAt_array_h W 217 ⟨w.heap.size,0,none⟩ (by simp[Program.arrayLen,Program.elem,underlying217]) .i64 (Lib.nDigits u:Int) (by omega) (by rw[r];omega)];go_simp
 have d:=Lib.holds_zero0 w 217 (Lib.nDigits u) (by omega);have g:=Tryz.internal_strconv_formatBase10 w.heap.size 0 24 u (Array.replicate (Lib.nDigits u) 0) (w.alloc (.cells Lib.zeros24 217)) d (by rw[Array.size_replicate];exact Lib.lt_pow_nDigits u) x (by rw[Array.size_replicate];omega);rw[Array.size_replicate] at g;have n:=aB d;have K:(100:Int)<=(u:Int):=by omega
 clear d r;go_enter func186,ntmps186;go_wp2_with fail;refine(Tryz.internal_strconv_numDigits u E x _ (Lib.tabIs_alloc C.pow _)).mono ?_;rintro e w' ⟨rfl,rfl⟩;go_wp2_with fail;refine g.mono ?_;rintro e w' ⟨rfl,k,m,a,rfl,hF⟩;have f:∀j l,(Lib.byteCells (Lib.decDigits u))[j]? =some l->((putRow (fun (b:UInt8)=>Value.int .u8 (b.toNat:Int)) (w.alloc (.cells Lib.zeros24 217)) w.heap.size 0 a).drewN k).cell? ((⟨w.heap.size,0,none⟩:Addr).add j)=some l:=by
  intro j l h;have c:j<(Lib.decDigits u).length:=by
   have B:=(List.getElem?_eq_some_iff.1 h).1;rwa [Lib.byteCells_length] at B
  have A:(Lib.byteCells (Lib.decDigits u))[j]? =some (Value.int .u8 ((Lib.decDigits u)[j].toNat:Int)):=by simp[Lib.byteCells,c]
  rw[A] at h;cases h;rw[Lib.row_is_numeral hF j c,Lib.add_plain,World.cell?_drewN];exact cell?_putRow (fun (b:UInt8)=>Value.int .u8 (b.toNat:Int)) _ w.heap.size 0 _ a n.out (by rw[hF.size,Array.size_replicate]) j (by rw[hF.size];rw[Lib.decDigits_length] at c;exact c)
 obtain⟨F,q⟩:=Lib.fin_at w (.cells Lib.zeros24 217) a k 0;have t:Below w.heap.size w ((putRow (fun (b:UInt8)=>Value.int .u8 (b.toNat:Int)) (w.alloc (.cells Lib.zeros24 217)) w.heap.size 0 a).drewN k):=by rw[q];exact Lib.below_grow w.heap.size w aE k F
 generalize (putRow (fun (b:UInt8)=>Value.int .u8 (b.toNat:Int)) (w.alloc (.cells Lib.zeros24 217)) w.heap.size 0 a).drewN k=z at f t⊢;clear q n g;obtain⟨G,L,i,D⟩:=s.2 z ⟨w.heap.size,0,none⟩ 24 t f;rw[Lib.decDigits_length] at i;have y:=aB i;clear i s f;go_wp2_with (at_builtin;refine IL rfl rfl rfl rfl rfl y.out ?_);go_ret;exact⟨G,rfl,D⟩
def IN(b:Value)(u:Nat)(w:World)(a:Value->World->Prop)(i:u<BN)(f:Glob w)(d:rW w b (Lib.decDigits u) a):
  Calls prog 166 #[b,.int .u64 u,.int .i64 10] w fun e w'=>∃c,e= .returned c∧a c w':=by
 have h:Calls prog 186 #[b,.int .u64 u,.int .i64 10] w fun e w'=>∃c,e= .returned c∧a c w':=by
  by_cases h:u<100
  ·exact TU b u w a h d
  ·exact TV b u w a (by omega) i f d
 clear d;go_enter func166,ntmps166;go_wp2_with fail;refine h.mono ?_;rintro e k ⟨j,rfl,g⟩;go_wp2;go_ret;exact⟨j,rfl,g⟩
