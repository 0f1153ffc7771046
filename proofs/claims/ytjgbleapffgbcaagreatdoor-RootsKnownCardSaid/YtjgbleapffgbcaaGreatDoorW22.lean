/- Laws. -/
import Derived.Test.YtjgbleapffgbcaaGreatDoorW21
set_option linter.all false
set_option maxHeartbeats 8000000
set_option maxRecDepth 99999
namespace Go.Proofs.YtjgbleapffgbcaaGreatDoor
open Go.RowKit Sos
def UY(x y:Rat)(vx vy:Value)(w:World)(hG:Glob w)(hx:RatAt w vx x)(hy:RatAt w vy y)(b5:x.den≠1)(b6:y.den≠1)(K:Nat)(bx:RL K x)(bY:RL K y)(hK:20*K+60<=aJ):
  Calls Tryz.prog 63 #[vx,vy] w (iF w (x+y)):=by
 obtain⟨s,A,k,c,s',A',k',c',rfl⟩:=hx.form;obtain⟨t,C,l,e,t',C',l',U,rfl⟩:=hy.form;have ba:aJ=17592186044416:=rfl;rw[ba] at hK;have⟨cg,ax⟩:=bx;have⟨ch,a4⟩:=bY;obtain⟨o,am⟩:∃o,o=Nat.gcd x.den y.den:=⟨_,rfl⟩;obtain⟨L,hL⟩:∃L,L=(y.den:Int).tdiv (o:Int):=⟨_,rfl⟩;obtain⟨T,hT⟩:∃T,T=(x.den:Int).tdiv (o:Int):=⟨_,rfl⟩;obtain⟨N,hN⟩:∃N,N=x.num*L+y.num*T:=⟨_,rfl⟩;have b7:N=0->x+y=0:=fun h=>UC am hL hT hN h;have b3:=fun r (hr:r=Nat.gcd N.natAbs o)=>BS x y o r L T N am hL hT hN hr;have ct:o≠0:=fun h=>x.den_nz (Nat.eq_zero_of_gcd_eq_zero_left (by rw[<-am];exact h));have bL:nl L.natAbs<=K:=by rw[hL];exact jN _ _ _ a4
 have bT:nl T.natAbs<=K:=by rw[hT];exact jN _ _ _ ax
 have bg:nl o<=K:=by rw[am];exact wQ _ _ _ x.den_nz ax
 obtain⟨W,eW,d,X,Y,R⟩:=gE w [.bool s,.slice A k c,.bool s',.slice A' k' c'] 76 [.bool t,.slice C l e,.bool t',.slice C' l' U] 76 [.bool false,.slice none 0 0,.bool false,.slice none 0 0] 76;have M:=aa X.g4 (aa Y.g4 R.g4);go_enter Tryz.func63,Tryz.ntmps63;go_wp2_with fail;(try rw[eW]);clear eW;have P:IntAt W (.agg #[.bool s,.slice A k c]) x.num:=(hx.be d).num;have Q:IntAt W (.agg #[.bool t,.slice C l e]) y.num:=(hy.be d).num;have g:IntAt W (.agg #[.bool s',.slice A' k' c']) (x.den:Int):=(hx.be d).denN b5;have i:IntAt W (.agg #[.bool t',.slice C' l' U]) (y.den:Int):=(hy.be d).denN b6;have bj:Hid (decide ((x.den:Int)=0)=false):=by have:=x.den_nz;unfold Hid;simpa using this
 have b9:Hid (decide ((y.den:Int)=0)=false):=by have:=y.den_nz;unfold Hid;simpa using this
 have bk:nl (x.den:Int).natAbs<=K:=ax;have a5:nl (y.den:Int).natAbs<=K:=a4;have b0:((Nat.gcd (x.den:Int).natAbs (y.den:Int).natAbs:Nat):Int)=(o:Int):=by rw[am];rfl
 have cc:=aB b0;have HL:=aB hL;have HT:=aB hT;have HN:=aB hN;have HZ:=aB b7;have HP:=aB b3;have di:Hid ((x+y).den≠1->bS (x+y)=((x+y).den:Int)):=fun h=>mI h;clear b0 hL hT hN b7 b3 am b5 b6 a4 bY bx ax hx hy;generalize x.num=xn at *;generalize y.num=yn at *;generalize cx:(x.den:Int)=xd at *;generalize cy:(y.den:Int)=J at *;clear cx cy;generalize x+y=q at *;have em:=gT xn L K K cg bL;have en:=gT yn T K K ch bT;have bN:nl N.natAbs<=2*K+1:=by rw[HN.out];exact aH (wX _ _ (2*K) (by omega) (by omega)) aE
 refine(g9 xd _ _ g (by omega)).mono ?_;rintro e1 w1 ⟨rfl,ai⟩;replace X:=X.be ai;replace Y:=Y.be ai;replace R:=R.be ai;replace M:=aa X.k4 (aa Y.k4 R.g4);replace f:=Keep.be ai;replace P:=P.ke f;replace g:=g.ke f;replace Q:=Q.ke f;replace i:=i.ke f;replace d:=aC d ai;rw[bj.out];go_wp2_with fail;refine(g9 xd _ _ g (by omega)).mono ?_;rintro e2 w2 ⟨rfl,aj⟩;replace X:=X.be aj;replace Y:=Y.be aj;replace R:=R.be aj;replace M:=aa X.k4 (aa Y.k4 R.g4);replace f:=Keep.be aj;replace P:=P.ke f;replace g:=g.ke f;replace Q:=Q.ke f;replace i:=i.ke f;replace d:=aC d aj;rw[bj.out];go_wp2_with fail;refine(g9 J _ _ i (by omega)).mono ?_;rintro e3 w3 ⟨rfl,ak⟩;replace X:=X.be ak;replace Y:=Y.be ak;replace R:=R.be ak;replace M:=aa X.k4 (aa Y.k4 R.g4);replace f:=Keep.be ak;replace P:=P.ke f;replace g:=g.ke f;replace Q:=Q.ke f;replace i:=i.ke f;replace d:=aC d ak;rw[b9.out];go_wp2_with fail;refine(qF xd J _ _ _ (hG.be d) g i K bk a5 (by rw[ba];omega)).mono ?_;rintro e4 w4 ⟨v4,rfl,F,al⟩;obtain⟨s4,A4,k4,c4,rfl⟩:=F.form;replace X:=X.be al;replace Y:=Y.be al;replace R:=R.be al;replace M:=aa X.k4 (aa Y.k4 R.g4);replace f:=Keep.be al;replace P:=P.ke f;replace g:=g.ke f;replace Q:=Q.ke f;replace i:=i.ke f;replace d:=aC d al;rw[cc.out] at F;go_wp2_with fail;have ds:=X.lt;have dw:=Y.lt;have dm:=R.lt;have cw:=d.size;obtain⟨w5,bn,O,G⟩:=bI w4 [.bool s4,.slice A4 k4 c4] 60;replace X:=X.be O;replace Y:=Y.be O;replace R:=R.be O;replace f:=Keep.be O;replace d:=aC d O;replace F:=F.ke f;replace P:=P.ke f;replace g:=g.ke f;replace Q:=Q.ke f;replace i:=i.ke f;rw[bn];clear bn;replace M:=aa X.k4 (aa Y.k4 (aa R.g4 G.k2));have bz:(o:Int)≠0:=by omega
 have d1:nl (o:Int).natAbs<=K:=by rw[dD];exact bg
 have bh:=fun W p z=>mZ J o (.agg #[.bool t',.slice C' l' U]) (.agg #[.bool s4,.slice A4 k4 c4]) W p z bz (by show nl J.natAbs+4*nl o+4<=_;omega);have bi:=fun W p z=>mZ xd o (.agg #[.bool s',.slice A' k' c']) (.agg #[.bool s4,.slice A4 k4 c4]) W p z bz (by show nl xd.natAbs+4*nl o+4<=_;omega);rw[<-HL.out] at bh;rw[<-HT.out] at bi;clear f ai aj ak al;replace M:=aa X.k4 (aa Y.k4 (aa R.k4 G.k2));have dt:=X.lt;have dx:=Y.lt;have dh:=G.lt;go_cut [6,7] (fun s6 s7 wx=>∃g6 g7,s6= .pointer (some ⟨g6,0,none⟩)∧s7= .pointer (some ⟨g7,0,none⟩)∧w5.1.size<=g6∧w5.1.size<=g7∧g6≠g7∧IntBx wx g6 (L)∧IntBx wx g7 (T)∧Below w5.1.size w5 wx)
 case first=>
  go_region_held3 (fun H=>C4 H w.1.size (.bool s) (.slice A k c) (.bool s') (.slice A' k' c')∧C4 H (w.1.size+1) (.bool t) (.slice C l e) (.bool t') (.slice C' l' U)∧C2 H w4.1.size (.bool s4) (.slice A4 k4 c4))
   (with_reducible exact⟨X.up.k4,Y.up.k4,G.up.k2⟩)
   (first
    |(go_at_call 89;(with_reducible refine(bh _ i.up F.up).mono ?_);rintro e6 w6 ⟨v6,rfl,h6,bu⟩;have l6:=bu.size;(try simp at l6);have:=St.mk bu;obtain⟨s6,A6,k6,c6,rfl⟩:=h6.form)
    |(go_at_call 89;(with_reducible refine(bi _ g.up F.up).mono ?_);rintro e7 w7 ⟨v7,rfl,h7,bv⟩;have l7:=bv.size;(try simp at l7);have:=St.mk bv;have ag:=Up.out (a:=w5) (b:=w7);have e0:=ag.size;have au:=h6.up (b:=w7);(try have⟨_,_,_,_,_⟩:=nG w5 w7);(try have⟨_,_,_,_,_⟩:=pH w5 w7);(try have⟨_,_,_,_,_⟩:=nG w6 w7);(try have⟨_,_,_,_,_⟩:=pH w6 w7);obtain⟨s7,A7,k7,c7,rfl⟩:=h7.form))
  all_goals (
   go_wp2;go_meet;refine⟨_,_,rfl,rfl,by omega,by omega,by omega,?_⟩
   first
    |(with_reducible exact tR au h7 ag)
    |(with_reducible exact xF au h7 ag)
    |(with_reducible exact xG au h7 (zb ‹_›) ag (by omega))
    |(with_reducible exact xH (zb ‹_›) au h7 ag (by omega))
    |(with_reducible exact x3 (zb ‹_›) (zb ‹_›) au h7 (by omega) ag (by omega) (by omega)))
 case rest=>
  obtain⟨g6,g7,rfl,rfl,ei,ej,eo,I6,I7,j⟩:=hcut;generalize wc=w8 at *;have D:=X.be j;have n:=Y.be j;have m:=R.be j;have I:=G.be j;have eq:=X.lt;have er:=Y.lt;have ep:=R.lt;have el:=G.lt;replace P:=P.be j;replace Q:=Q.be j;replace g:=g.be j;replace i:=i.be j;replace F:=F.be j;replace d:=aC d j;obtain⟨s6,A6,k6,c6,L8,hl⟩:=I6;obtain⟨s7,A7,k7,c7,B,S⟩:=I7;have et:=j.size;clear X Y R G bh bi M j ct;have b1:=fun W p z=>jB xn L (.agg #[.bool s,.slice A k c]) (.agg #[.bool s6,.slice A6 k6 c6]) W p z (by omega);have b2:=fun W p z=>jB yn T (.agg #[.bool t,.slice C l e]) (.agg #[.bool s7,.slice A7 k7 c7]) W p z (by omega);have bb:=fun W v u p z=>rJ (xn*L) (yn*T) v u W p z (by omega) (by omega);rw[<-HN.out] at bb;go_wp2_with fail;have dr:=D.lt;have dv:=n.lt;have dj:=L8.lt;have dp:=B.lt;go_cut [8] (fun s8 wx=>∃g8,s8= .pointer (some ⟨g8,0,none⟩)∧w8.1.size<=g8∧IntBx wx g8 (N)∧Below w8.1.size w8 wx)
  case first=>
   go_region_held3 (fun H=>C4 H w.1.size (.bool s) (.slice A k c) (.bool s') (.slice A' k' c')∧C4 H (w.1.size+1) (.bool t) (.slice C l e) (.bool t') (.slice C' l' U)∧C2 H g6 (.bool s6) (.slice A6 k6 c6)∧C2 H g7 (.bool s7) (.slice A7 k7 c7))
    (with_reducible exact⟨D.up.k4,n.up.k4,L8.up.k2,B.up.k2⟩)
    (first
     |(go_at_call 34;(with_reducible refine(b1 _ P.up hl.up).mono ?_);rintro e9 w9 ⟨v9,rfl,h9,bw⟩;have l9:=bw.size;(try simp at l9);have:=St.mk bw;obtain⟨s9,A9,k9,c9,rfl⟩:=h9.form)
     |(go_at_call 34;(with_reducible refine(b2 _ Q.up S.up).mono ?_);rintro d7 c2 ⟨fd,rfl,a8,bs⟩;have cz:=bs.size;(try simp at cz);have:=St.mk bs;obtain⟨e5,c5,eu,d2,rfl⟩:=a8.form)
     |(go_at_call 109;refine(bb _ _ _ h9.up a8.up).mono ?_;rintro d8 an ⟨fe,rfl,a9,bt⟩;have c0:=bt.size;(try simp at c0);have:=St.mk bt;have a3:=Up.out (a:=w8) (b:=an);have ez:=a3.size;have eh:=h9.up (b:=an);have eg:=a8.up (b:=an);(try have⟨_,_,_,_,_⟩:=nG w8 an);(try have⟨_,_,_,_,_⟩:=nG w9 an);(try have⟨_,_,_,_,_⟩:=nG c2 an);obtain⟨e8,da,ev,d3,rfl⟩:=a9.form))
   all_goals (
    go_wp2;go_meet;refine⟨_,rfl,by omega,?_⟩
    first|(with_reducible exact V4 a9 a3)|(with_reducible exact V6 (zb ‹_›) a9 a3 (by omega)))
  case rest=>
   obtain⟨g8,rfl,ek,I8,j⟩:=hcut;generalize wc=fl at *;have es:=j.size;replace D:=D.be j;replace n:=n.be j;replace m:=m.be j;replace I:=I.be j;replace B:=B.be j;replace g:=g.be j;replace i:=i.be j;replace F:=F.be j;replace S:=S.be j;replace d:=aC d j;obtain⟨s8,A8,k8,c8,E,hn⟩:=I8;clear b1 b2 bb P Q hl L8 j;replace M:=aa D.k4 (aa n.k4 (aa m.g4 (aa I.k2 (aa B.k2 E.k2))));go_wp2_with fail;refine(g9 N _ _ hn (by omega)).mono ?_;rintro d9 fm ⟨rfl,ae⟩;replace D:=D.be ae;replace n:=n.be ae;replace m:=m.be ae;replace I:=I.be ae;replace B:=B.be ae;replace E:=E.be ae;replace M:=aa D.k4 (aa n.k4 (aa m.g4 (aa I.k2 (aa B.k2 E.k2))));replace f:=Keep.be ae;replace g:=g.ke f;replace i:=i.ke f;replace F:=F.ke f;replace S:=S.ke f;replace hn:=hn.ke f;replace d:=aC d ae;by_cases ah:N=0
   ·have V:decide (N=0)=true:=by simpa using ah
    have HQ:=aB (HZ.out ah);rw[V];clear V ah;go_wp2_with fail;obtain⟨W6,ad,m,d,f,ff⟩:=m.put4 d (by omega) (.bool false) (.slice none 0 0) (.bool false) (.slice none 0 0) rfl rfl;rw[ad];clear ad;replace M:=m.k4;exact aM (v:= .agg #[.bool false,.slice none 0 0,.bool false,.slice none 0 0]) (by simp[results,Tryz.results63,go_sem,m.k4]) rfl ⟨_,rfl,RatAt.of (IntAt.zero _) (IntAt.zero _) (by rw[HQ.out];rfl) (by rw[HQ.out];rfl),d⟩
   ·have V:decide (N=0)=false:=by simpa using ah
    rw[V];clear V;go_wp2_with fail;refine(n6 o _ _ F (by omega)).mono ?_;rintro ea c3 ⟨rfl,af⟩;replace D:=D.be af;replace n:=n.be af;replace m:=m.be af;replace I:=I.be af;replace B:=B.be af;replace E:=E.be af;replace M:=aa D.k4 (aa n.k4 (aa m.g4 (aa I.k2 (aa B.k2 E.k2))));replace f:=Keep.be af;replace g:=g.ke f;replace i:=i.ke f;replace F:=F.ke f;replace S:=S.ke f;replace hn:=hn.ke f;replace d:=aC d af;by_cases a0:o=1
    ·have V:decide ((o:Int)=1)=true:=decide_eq_true (by omega);have HQ:Hid (q.num=N∧(q.den:Int)=xd*J):=by
      obtain⟨e1,e2⟩:=HP.out 1 (by rw[a0];simp);refine⟨by rw[e1];simp,?_⟩;rw[e2,HT.out,a0];simp
     rw[V];clear V a0 ah;have bf:=fun W p z=>jB xd J (.agg #[.bool s',.slice A' k' c']) (.agg #[.bool t',.slice C' l' U]) W p z (by omega);have cd:=gT xd J K K bk a5;have bc:=fun W v p z=>vK q N (xd*J) (.agg #[.bool s8,.slice A8 k8 c8]) v W p z HQ.out.1 HQ.out.2 (by omega);go_wp2_with fail;have cl:w.1.size+1+1≠w.1.size:=by omega
     have a7:w.1.size+1+1≠w.1.size+1:=by omega
     have a6:w.1.size+1+1≠g8:=by omega
     go_region_held3 (fun H=>C4 H w.1.size (.bool s) (.slice A k c) (.bool s') (.slice A' k' c')∧C4 H (w.1.size+1) (.bool t) (.slice C l e) (.bool t') (.slice C' l' U)∧C2 H g8 (.bool s8) (.slice A8 k8 c8))
      (first|(with_reducible exact⟨D.up.k4,n.up.k4,E.up.k2⟩)|(with_reducible exact⟨(D.up.far4 cl).k4,(n.up.far4 a7).k4,(E.up.far4 a6).k2⟩))
      (first
       |(go_at_call 34;refine(bf _ g.up i.up).mono ?_;rintro ci a1 ⟨c1,rfl,ac,Z⟩;have:=St.mk Z;obtain⟨aw,ao,av,ar,rfl⟩:=ac.form)
       |(go_at_call 90;refine(bc _ _ hn.up ac.up).mono ?_;rintro eb a2 ⟨fg,rfl,ay,co⟩;have:=St.mk co;have cm:=Up.out (a:=c3) (b:=a2);have ap:=m.up (b:=a2);have dy:=ap.g4;obtain⟨sa,Aa,ka,ca,sb,Ab,kb,cb,rfl⟩:=ay.form))
     all_goals (
      go_wp2_with fail;replace d:=aC d cm;obtain⟨W6,ad,ap,d,f,ff⟩:=ap.put4 d (by omega) (.bool sa) (.slice Aa ka ca) (.bool sb) (.slice Ab kb cb) rfl rfl;replace ay:=ay.ke f;rw[ad];clear ad;replace M:=ap.k4;exact aM (v:= .agg #[.bool sa,.slice Aa ka ca,.bool sb,.slice Ab kb cb]) (by simp[results,Tryz.results63,go_sem,ap.k4]) rfl ⟨_,rfl,ay,d⟩;)
    ·have V:decide ((o:Int)=1)=false:=decide_eq_false (by omega);rw[V];clear V a0;go_wp2_with fail;refine(qF N o _ _ _ (hG.be d) hn F (2*K+1) bN (by omega) (by rw[ba];omega)).mono ?_;rintro ci a1 ⟨c1,rfl,ac,Z⟩;obtain⟨aw,ao,av,ar,rfl⟩:=ac.form;replace D:=D.be Z;replace n:=n.be Z;replace m:=m.be Z;replace I:=I.be Z;replace B:=B.be Z;replace E:=E.be Z;replace M:=aa D.k4 (aa n.k4 (aa m.g4 (aa I.k2 (aa B.k2 E.k2))));replace f:=Keep.be Z;replace g:=g.ke f;replace i:=i.ke f;replace F:=F.ke f;replace S:=S.ke f;replace hn:=hn.ke f;replace d:=aC d Z;obtain⟨r,hr⟩:∃r,r=Nat.gcd N.natAbs (o:Int).natAbs:=⟨_,rfl⟩;rw[<-hr] at ac;have HQ:Hid (q.num=N.tdiv r∧(q.den:Int)=T*J.tdiv r):=HP.out r hr
     have b4:(r:Int)≠0:=fun e=>ah (by
      have U:Nat.gcd N.natAbs (o:Int).natAbs=0:=by rw[<-hr];omega
      have:=Nat.eq_zero_of_gcd_eq_zero_left U;omega)
     have br:nl r<=2*K+1:=by rw[hr];exact wQ _ _ _ (by omega) bN
     clear hr;go_wp2_with fail;have dq:=D.lt;have du:=n.lt;have dl:=m.lt;have df:=I.lt;have dn:=B.lt;have dk:=E.lt;have cw:=d.size;obtain⟨a2,bm,O,D8⟩:=bI a1 [.bool aw,.slice ao av ar] 60;replace D:=D.be O;replace n:=n.be O;replace m:=m.be O;replace I:=I.be O;replace B:=B.be O;replace E:=E.be O;replace f:=Keep.be O;replace d:=aC d O;replace ac:=ac.ke f;replace g:=g.ke f;replace i:=i.ke f;replace S:=S.ke f;replace hn:=hn.ke f;rw[bm];clear bm;replace M:=aa D.k4 (aa n.k4 (aa m.g4 (aa I.k2 (aa B.k2 (aa E.k2 D8.k2)))));have cv:=fun W p z=>mZ N r (.agg #[.bool s8,.slice A8 k8 c8]) (.agg #[.bool aw,.slice ao av ar]) W p z b4 (by show _+4*nl r+4<=_;omega);have cu:=fun W p z=>mZ J r (.agg #[.bool t',.slice C' l' U]) (.agg #[.bool aw,.slice ao av ar]) W p z b4 (by show _+4*nl r+4<=_;omega);have ce:=jN J r K a5;have cd:=gT T (J.tdiv r) K K bT ce;have bf:=fun W v p z=>jB T (J.tdiv r) (.agg #[.bool s7,.slice A7 k7 c7]) v W p z (by omega);have bc:=fun W u v p z=>vK q (N.tdiv r) (T*J.tdiv r) u v W p z HQ.out.1 HQ.out.2 (by omega);generalize N.tdiv r=Nr at *;generalize T*J.tdiv r=Dr at *;generalize J.tdiv r=Yr at *;have a7:w.1.size+1+1≠w.1.size+1:=by omega
     have a6:w.1.size+1+1≠g8:=by omega
     have ck:w.1.size+1+1≠g7:=by omega
     have cj:w.1.size+1+1≠a1.1.size:=by omega
     go_region_held3 (fun H=>C4 H (w.1.size+1) (.bool t) (.slice C l e) (.bool t') (.slice C' l' U)∧C2 H g8 (.bool s8) (.slice A8 k8 c8)∧C2 H g7 (.bool s7) (.slice A7 k7 c7)∧C2 H a1.1.size (.bool aw) (.slice ao av ar))
      (first|(with_reducible exact⟨n.up.k4,E.up.k2,B.up.k2,D8.up.k2⟩)|(with_reducible exact⟨(n.up.far4 a7).k4,(E.up.far4 a6).k2,(B.up.far4 ck).k2,(D8.up.far4 cj).k2⟩))
      (first
       |(go_at_call 89;(with_reducible refine(cv _ hn.up ac.up).mono ?_);rintro ec fn ⟨fh,rfl,bo,cp⟩;have:=St.mk cp;obtain⟨fa,db,ew,d4,rfl⟩:=bo.form)
       |(go_at_call 89;(with_reducible refine(cu _ i.up ac.up).mono ?_);rintro ed fo ⟨fi,rfl,bp,cq⟩;have:=St.mk cq;obtain⟨fb,dc,ex,d5,rfl⟩:=bp.form)
       |(go_at_call 34;refine(bf _ _ S.up bp.up).mono ?_;rintro ee fp ⟨fj,rfl,bq,cr⟩;have:=St.mk cr;obtain⟨fc,de,ey,d6,rfl⟩:=bq.form)
       |(go_at_call 90;refine(bc _ _ _ bo.up bq.up).mono ?_;rintro ef b8 ⟨fk,rfl,az,cs⟩;have:=St.mk cs;have cn:=Up.out (a:=a2) (b:=b8);have aq:=m.up (b:=b8);have d0:=aq.g4;obtain⟨sa,Aa,ka,ca,sb,Ab,kb,cb,rfl⟩:=az.form))
     all_goals (
      go_wp2_with fail;replace d:=aC d cn;obtain⟨W6,ad,aq,d,f,ff⟩:=aq.put4 d (by omega) (.bool sa) (.slice Aa ka ca) (.bool sb) (.slice Ab kb cb) rfl rfl;replace az:=az.ke f;rw[ad];clear ad;replace M:=aq.k4;exact aM (v:= .agg #[.bool sa,.slice Aa ka ca,.bool sb,.slice Ab kb cb]) (by simp[results,Tryz.results63,go_sem,aq.k4]) rfl ⟨_,rfl,az,d⟩;)
