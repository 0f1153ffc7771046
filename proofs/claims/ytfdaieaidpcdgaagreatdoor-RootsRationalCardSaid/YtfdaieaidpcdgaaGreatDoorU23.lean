/- Laws. -/
import Derived.Test.YtfdaieaidpcdgaaGreatDoorU22
set_option linter.all false
set_option maxHeartbeats 8000000
set_option maxRecDepth 99999
namespace Go.Proofs.YtfdaieaidpcdgaaGreatDoor
open Go.RowKit Sos
def UY(x y:Rat)(vx vy:Value)(w:World)(hG:Glob w)(hx:RatAt w vx x)(hy:RatAt w vy y)(b5:x.den≠1)(b6:y.den≠1)(K:Nat)(bx:RL K x)(bY:RL K y)(hK:20*K+60<=aJ):
  Calls Tryz.prog 54 #[vx,vy] w (iF w (x+y)):=by
 obtain⟨s,A,k,c,s',A',k',c',rfl⟩:=hx.form;obtain⟨t,C,l,e,t',Z,l',S,rfl⟩:=hy.form;have ba:aJ=17592186044416:=rfl;rw[ba] at hK;have⟨cg,ax⟩:=bx;have⟨ch,a4⟩:=bY;obtain⟨n,am⟩:∃n,n=Nat.gcd x.den y.den:=⟨_,rfl⟩;obtain⟨L,hL⟩:∃L,L=(y.den:Int).tdiv (n:Int):=⟨_,rfl⟩;obtain⟨T,hT⟩:∃T,T=(x.den:Int).tdiv (n:Int):=⟨_,rfl⟩;obtain⟨N,hN⟩:∃N,N=x.num*L+y.num*T:=⟨_,rfl⟩;have b7:N=0->x+y=0:=fun h=>UC am hL hT hN h;have b3:=fun r (hr:r=Nat.gcd N.natAbs n)=>BS x y n r L T N am hL hT hN hr;have ct:n≠0:=fun h=>x.den_nz (Nat.eq_zero_of_gcd_eq_zero_left (by rw[<-am];exact h));have bL:nl L.natAbs<=K:=by rw[hL];exact jN _ _ _ a4
 have bT:nl T.natAbs<=K:=by rw[hT];exact jN _ _ _ ax
 have bg:nl n<=K:=by rw[am];exact wQ _ _ _ x.den_nz ax
 obtain⟨W,eW,d,X,Y,R⟩:=gE w [.bool s,.slice A k c,.bool s',.slice A' k' c'] 48 [.bool t,.slice C l e,.bool t',.slice Z l' S] 48 [.bool false,.slice none 0 0,.bool false,.slice none 0 0] 48;have J:=aa X.g4 (aa Y.g4 R.g4);go_enter Tryz.func54,Tryz.ntmps54;go_wp2_with fail;(try rw[eW]);clear eW;have O:IntAt W (.agg #[.bool s,.slice A k c]) x.num:=(hx.be d).num;have P:IntAt W (.agg #[.bool t,.slice C l e]) y.num:=(hy.be d).num;have g:IntAt W (.agg #[.bool s',.slice A' k' c']) (x.den:Int):=(hx.be d).denN b5;have i:IntAt W (.agg #[.bool t',.slice Z l' S]) (y.den:Int):=(hy.be d).denN b6;have bj:Hid (decide ((x.den:Int)=0)=false):=by have:=x.den_nz;unfold Hid;simpa using this
 have b9:Hid (decide ((y.den:Int)=0)=false):=by have:=y.den_nz;unfold Hid;simpa using this
 have bk:nl (x.den:Int).natAbs<=K:=ax;have a5:nl (y.den:Int).natAbs<=K:=a4;have b0:((Nat.gcd (x.den:Int).natAbs (y.den:Int).natAbs:Nat):Int)=(n:Int):=by rw[am];rfl
 have cc:=aB b0;have HL:=aB hL;have HT:=aB hT;have HN:=aB hN;have HZ:=aB b7;have HP:=aB b3;have di:Hid ((x+y).den≠1->bS (x+y)=((x+y).den:Int)):=fun h=>mI h;clear b0 hL hT hN b7 b3 am b5 b6 a4 bY bx ax hx hy;generalize x.num=xn at *;generalize y.num=yn at *;generalize cx:(x.den:Int)=xd at *;generalize cy:(y.den:Int)=I at *;clear cx cy;generalize x+y=q at *;have em:=gT xn L K K cg bL;have en:=gT yn T K K ch bT;have bN:nl N.natAbs<=2*K+1:=by rw[HN.out];exact aH (wX _ _ (2*K) (by omega) (by omega)) aE
 refine(g9 xd _ _ g (by omega)).mono ?_;rintro e1 w1 ⟨rfl,ai⟩;replace X:=X.be ai;replace Y:=Y.be ai;replace R:=R.be ai;replace J:=aa X.k4 (aa Y.k4 R.g4);replace f:=Keep.be ai;replace O:=O.ke f;replace g:=g.ke f;replace P:=P.ke f;replace i:=i.ke f;replace d:=aC d ai;rw[bj.out];go_wp2_with fail;refine(g9 xd _ _ g (by omega)).mono ?_;rintro e2 w2 ⟨rfl,aj⟩;replace X:=X.be aj;replace Y:=Y.be aj;replace R:=R.be aj;replace J:=aa X.k4 (aa Y.k4 R.g4);replace f:=Keep.be aj;replace O:=O.ke f;replace g:=g.ke f;replace P:=P.ke f;replace i:=i.ke f;replace d:=aC d aj;rw[bj.out];go_wp2_with fail;refine(g9 I _ _ i (by omega)).mono ?_;rintro e3 w3 ⟨rfl,ak⟩;replace X:=X.be ak;replace Y:=Y.be ak;replace R:=R.be ak;replace J:=aa X.k4 (aa Y.k4 R.g4);replace f:=Keep.be ak;replace O:=O.ke f;replace g:=g.ke f;replace P:=P.ke f;replace i:=i.ke f;replace d:=aC d ak;rw[b9.out];go_wp2_with fail;refine(qF xd I _ _ _ (hG.be d) g i K bk a5 (by rw[ba];omega)).mono ?_;rintro e4 w4 ⟨v4,rfl,E,al⟩;obtain⟨s4,A4,k4,c4,rfl⟩:=E.form;replace X:=X.be al;replace Y:=Y.be al;replace R:=R.be al;replace J:=aa X.k4 (aa Y.k4 R.g4);replace f:=Keep.be al;replace O:=O.ke f;replace g:=g.ke f;replace P:=P.ke f;replace i:=i.ke f;replace d:=aC d al;rw[cc.out] at E;go_wp2_with fail;have ds:=X.lt;have dw:=Y.lt;have dm:=R.lt;have cw:=d.size;obtain⟨w5,bn,M,G⟩:=bI w4 [.bool s4,.slice A4 k4 c4] 42;replace X:=X.be M;replace Y:=Y.be M;replace R:=R.be M;replace f:=Keep.be M;replace d:=aC d M;replace E:=E.ke f;replace O:=O.ke f;replace g:=g.ke f;replace P:=P.ke f;replace i:=i.ke f;rw[bn];clear bn;replace J:=aa X.k4 (aa Y.k4 (aa R.g4 G.k2));have bz:(n:Int)≠0:=by omega
 have d1:nl (n:Int).natAbs<=K:=by rw[dD];exact bg
 have bh:=fun W o p=>mZ I n (.agg #[.bool t',.slice Z l' S]) (.agg #[.bool s4,.slice A4 k4 c4]) W o p bz (by show nl I.natAbs+4*nl n+4<=_;omega);have bi:=fun W o p=>mZ xd n (.agg #[.bool s',.slice A' k' c']) (.agg #[.bool s4,.slice A4 k4 c4]) W o p bz (by show nl xd.natAbs+4*nl n+4<=_;omega);rw[<-HL.out] at bh;rw[<-HT.out] at bi;clear f ai aj ak al;replace J:=aa X.k4 (aa Y.k4 (aa R.k4 G.k2));have dt:=X.lt;have dx:=Y.lt;have dh:=G.lt;go_cut [6,7] (fun s6 s7 wx=>∃g6 g7,s6= .pointer (some ⟨g6,0,none⟩)∧s7= .pointer (some ⟨g7,0,none⟩)∧w5.1.size<=g6∧w5.1.size<=g7∧g6≠g7∧IntBx wx g6 (L)∧IntBx wx g7 (T)∧Below w5.1.size w5 wx)
 case first=>
  go_region_held3 (fun F=>C4 F w.1.size (.bool s) (.slice A k c) (.bool s') (.slice A' k' c')∧C4 F (w.1.size+1) (.bool t) (.slice C l e) (.bool t') (.slice Z l' S)∧C2 F w4.1.size (.bool s4) (.slice A4 k4 c4))
   (with_reducible exact⟨X.up.k4,Y.up.k4,G.up.k2⟩)
   (first
    |(go_at_call 44;(with_reducible refine(bh _ i.up E.up).mono ?_);rintro e6 w6 ⟨v6,rfl,h6,bu⟩;have l6:=bu.size;(try simp at l6);have:=St.mk bu;obtain⟨s6,A6,k6,c6,rfl⟩:=h6.form)
    |(go_at_call 44;(with_reducible refine(bi _ g.up E.up).mono ?_);rintro e7 w7 ⟨v7,rfl,h7,bv⟩;have l7:=bv.size;(try simp at l7);have:=St.mk bv;have ag:=Up.out (a:=w5) (b:=w7);have e0:=ag.size;have au:=h6.up (b:=w7);(try have⟨_,_,_,_,_⟩:=nG w5 w7);(try have⟨_,_,_,_,_⟩:=pH w5 w7);(try have⟨_,_,_,_,_⟩:=nG w6 w7);(try have⟨_,_,_,_,_⟩:=pH w6 w7);obtain⟨s7,A7,k7,c7,rfl⟩:=h7.form))
  all_goals (
   go_wp2;go_meet;refine⟨_,_,rfl,rfl,by omega,by omega,by omega,?_⟩
   first
    |(with_reducible exact tR au h7 ag)
    |(with_reducible exact xF au h7 ag)
    |(with_reducible exact xG au h7 (zb ‹_›) ag (by omega))
    |(with_reducible exact xH (zb ‹_›) au h7 ag (by omega))
    |(with_reducible exact tP (zb ‹_›) (zb ‹_›) au h7 (by omega) ag (by omega) (by omega)))
 case rest=>
  obtain⟨g6,g7,rfl,rfl,ei,ej,eo,I6,I7,j⟩:=hcut;generalize wc=w8 at *;have B:=X.be j;have m:=Y.be j;have R8:=R.be j;have H:=G.be j;have eq:=X.lt;have er:=Y.lt;have ep:=R.lt;have el:=G.lt;replace O:=O.be j;replace P:=P.be j;replace g:=g.be j;replace i:=i.be j;replace E:=E.be j;replace d:=aC d j;obtain⟨s6,A6,k6,c6,L8,hl⟩:=I6;obtain⟨s7,A7,k7,c7,z,Q⟩:=I7;have et:=j.size;clear X Y R G bh bi J j ct;have b1:=fun W o p=>jB xn L (.agg #[.bool s,.slice A k c]) (.agg #[.bool s6,.slice A6 k6 c6]) W o p (by omega);have b2:=fun W o p=>jB yn T (.agg #[.bool t,.slice C l e]) (.agg #[.bool s7,.slice A7 k7 c7]) W o p (by omega);have bb:=fun W v u o p=>rJ (xn*L) (yn*T) v u W o p (by omega) (by omega);rw[<-HN.out] at bb;go_wp2_with fail;have dr:=B.lt;have dv:=m.lt;have dj:=L8.lt;have dp:=z.lt;go_cut [8] (fun s8 wx=>∃g8,s8= .pointer (some ⟨g8,0,none⟩)∧w8.1.size<=g8∧IntBx wx g8 (N)∧Below w8.1.size w8 wx)
  case first=>
   go_region_held3 (fun F=>C4 F w.1.size (.bool s) (.slice A k c) (.bool s') (.slice A' k' c')∧C4 F (w.1.size+1) (.bool t) (.slice C l e) (.bool t') (.slice Z l' S)∧C2 F g6 (.bool s6) (.slice A6 k6 c6)∧C2 F g7 (.bool s7) (.slice A7 k7 c7))
    (with_reducible exact⟨B.up.k4,m.up.k4,L8.up.k2,z.up.k2⟩)
    (first
     |(go_at_call 58;(with_reducible refine(b1 _ O.up hl.up).mono ?_);rintro e9 w9 ⟨v9,rfl,h9,bw⟩;have l9:=bw.size;(try simp at l9);have:=St.mk bw;obtain⟨s9,A9,k9,c9,rfl⟩:=h9.form)
     |(go_at_call 58;(with_reducible refine(b2 _ P.up Q.up).mono ?_);rintro d7 c2 ⟨fd,rfl,a8,bs⟩;have cz:=bs.size;(try simp at cz);have:=St.mk bs;obtain⟨e5,c5,eu,d2,rfl⟩:=a8.form)
     |(go_at_call 104;refine(bb _ _ _ h9.up a8.up).mono ?_;rintro d8 an ⟨fe,rfl,a9,bt⟩;have c0:=bt.size;(try simp at c0);have:=St.mk bt;have a3:=Up.out (a:=w8) (b:=an);have ez:=a3.size;have eh:=h9.up (b:=an);have eg:=a8.up (b:=an);(try have⟨_,_,_,_,_⟩:=nG w8 an);(try have⟨_,_,_,_,_⟩:=nG w9 an);(try have⟨_,_,_,_,_⟩:=nG c2 an);obtain⟨e8,da,ev,d3,rfl⟩:=a9.form))
   all_goals (
    go_wp2;go_meet;refine⟨_,rfl,by omega,?_⟩
    first|(with_reducible exact V4 a9 a3)|(with_reducible exact V6 (zb ‹_›) a9 a3 (by omega)))
  case rest=>
   obtain⟨g8,rfl,ek,I8,j⟩:=hcut;generalize wc=fl at *;have es:=j.size;replace B:=B.be j;replace m:=m.be j;replace R8:=R8.be j;replace H:=H.be j;replace z:=z.be j;replace g:=g.be j;replace i:=i.be j;replace E:=E.be j;replace Q:=Q.be j;replace d:=aC d j;obtain⟨s8,A8,k8,c8,D,hn⟩:=I8;clear b1 b2 bb O P hl L8 j;replace J:=aa B.k4 (aa m.k4 (aa R8.g4 (aa H.k2 (aa z.k2 D.k2))));go_wp2_with fail;refine(g9 N _ _ hn (by omega)).mono ?_;rintro d9 fm ⟨rfl,ae⟩;replace B:=B.be ae;replace m:=m.be ae;replace R8:=R8.be ae;replace H:=H.be ae;replace z:=z.be ae;replace D:=D.be ae;replace J:=aa B.k4 (aa m.k4 (aa R8.g4 (aa H.k2 (aa z.k2 D.k2))));replace f:=Keep.be ae;replace g:=g.ke f;replace i:=i.ke f;replace E:=E.ke f;replace Q:=Q.ke f;replace hn:=hn.ke f;replace d:=aC d ae;by_cases ah:N=0
   ·have U:decide (N=0)=true:=by simpa using ah
    have HQ:=aB (HZ.out ah);rw[U];clear U ah;go_wp2_with fail;obtain⟨W6,ad,R8,d,f,ff⟩:=R8.put4 d (by omega) (.bool false) (.slice none 0 0) (.bool false) (.slice none 0 0) rfl rfl;rw[ad];clear ad;replace J:=R8.k4;exact aM (v:= .agg #[.bool false,.slice none 0 0,.bool false,.slice none 0 0]) (by simp[results,Tryz.results54,go_sem,R8.k4]) rfl ⟨_,rfl,RatAt.of (IntAt.zero _) (IntAt.zero _) (by rw[HQ.out];rfl) (by rw[HQ.out];rfl),d⟩
   ·have U:decide (N=0)=false:=by simpa using ah
    rw[U];clear U;go_wp2_with fail;refine(n6 n _ _ E (by omega)).mono ?_;rintro ea c3 ⟨rfl,af⟩;replace B:=B.be af;replace m:=m.be af;replace R8:=R8.be af;replace H:=H.be af;replace z:=z.be af;replace D:=D.be af;replace J:=aa B.k4 (aa m.k4 (aa R8.g4 (aa H.k2 (aa z.k2 D.k2))));replace f:=Keep.be af;replace g:=g.ke f;replace i:=i.ke f;replace E:=E.ke f;replace Q:=Q.ke f;replace hn:=hn.ke f;replace d:=aC d af;by_cases a0:n=1
    ·have U:decide ((n:Int)=1)=true:=decide_eq_true (by omega);have HQ:Hid (q.num=N∧(q.den:Int)=xd*I):=by
      obtain⟨e1,e2⟩:=HP.out 1 (by rw[a0];simp);refine⟨by rw[e1];simp,?_⟩;rw[e2,HT.out,a0];simp
     rw[U];clear U a0 ah;have bf:=fun W o p=>jB xd I (.agg #[.bool s',.slice A' k' c']) (.agg #[.bool t',.slice Z l' S]) W o p (by omega);have cd:=gT xd I K K bk a5;have bc:=fun W v o p=>vK q N (xd*I) (.agg #[.bool s8,.slice A8 k8 c8]) v W o p HQ.out.1 HQ.out.2 (by omega);go_wp2_with fail;have cl:w.1.size+1+1≠w.1.size:=by omega
     have a7:w.1.size+1+1≠w.1.size+1:=by omega
     have a6:w.1.size+1+1≠g8:=by omega
     go_region_held3 (fun F=>C4 F w.1.size (.bool s) (.slice A k c) (.bool s') (.slice A' k' c')∧C4 F (w.1.size+1) (.bool t) (.slice C l e) (.bool t') (.slice Z l' S)∧C2 F g8 (.bool s8) (.slice A8 k8 c8))
      (first|(with_reducible exact⟨B.up.k4,m.up.k4,D.up.k2⟩)|(with_reducible exact⟨(B.up.far4 cl).k4,(m.up.far4 a7).k4,(D.up.far4 a6).k2⟩))
      (first
       |(go_at_call 58;refine(bf _ g.up i.up).mono ?_;rintro ci a1 ⟨c1,rfl,ac,V⟩;have:=St.mk V;obtain⟨aw,ao,av,ar,rfl⟩:=ac.form)
       |(go_at_call 45;refine(bc _ _ hn.up ac.up).mono ?_;rintro eb a2 ⟨fg,rfl,ay,co⟩;have:=St.mk co;have cm:=Up.out (a:=c3) (b:=a2);have ap:=R8.up (b:=a2);have dy:=ap.g4;obtain⟨sa,Aa,ka,ca,sb,Ab,kb,cb,rfl⟩:=ay.form))
     all_goals (
      go_wp2_with fail;replace d:=aC d cm;obtain⟨W6,ad,ap,d,f,ff⟩:=ap.put4 d (by omega) (.bool sa) (.slice Aa ka ca) (.bool sb) (.slice Ab kb cb) rfl rfl;replace ay:=ay.ke f;rw[ad];clear ad;replace J:=ap.k4;exact aM (v:= .agg #[.bool sa,.slice Aa ka ca,.bool sb,.slice Ab kb cb]) (by simp[results,Tryz.results54,go_sem,ap.k4]) rfl ⟨_,rfl,ay,d⟩;)
    ·have U:decide ((n:Int)=1)=false:=decide_eq_false (by omega);rw[U];clear U a0;go_wp2_with fail;refine(qF N n _ _ _ (hG.be d) hn E (2*K+1) bN (by omega) (by rw[ba];omega)).mono ?_;rintro ci a1 ⟨c1,rfl,ac,V⟩;obtain⟨aw,ao,av,ar,rfl⟩:=ac.form;replace B:=B.be V;replace m:=m.be V;replace R8:=R8.be V;replace H:=H.be V;replace z:=z.be V;replace D:=D.be V;replace J:=aa B.k4 (aa m.k4 (aa R8.g4 (aa H.k2 (aa z.k2 D.k2))));replace f:=Keep.be V;replace g:=g.ke f;replace i:=i.ke f;replace E:=E.ke f;replace Q:=Q.ke f;replace hn:=hn.ke f;replace d:=aC d V;obtain⟨r,hr⟩:∃r,r=Nat.gcd N.natAbs (n:Int).natAbs:=⟨_,rfl⟩;rw[<-hr] at ac;have HQ:Hid (q.num=N.tdiv r∧(q.den:Int)=T*I.tdiv r):=HP.out r hr
     have b4:(r:Int)≠0:=fun e=>ah (by
      have S:Nat.gcd N.natAbs (n:Int).natAbs=0:=by rw[<-hr];omega
      have:=Nat.eq_zero_of_gcd_eq_zero_left S;omega)
     have br:nl r<=2*K+1:=by rw[hr];exact wQ _ _ _ (by omega) bN
     clear hr;go_wp2_with fail;have dq:=B.lt;have du:=m.lt;have dl:=R8.lt;have df:=H.lt;have dn:=z.lt;have dk:=D.lt;have cw:=d.size;obtain⟨a2,bm,M,D8⟩:=bI a1 [.bool aw,.slice ao av ar] 42;replace B:=B.be M;replace m:=m.be M;replace R8:=R8.be M;replace H:=H.be M;replace z:=z.be M;replace D:=D.be M;replace f:=Keep.be M;replace d:=aC d M;replace ac:=ac.ke f;replace g:=g.ke f;replace i:=i.ke f;replace Q:=Q.ke f;replace hn:=hn.ke f;rw[bm];clear bm;replace J:=aa B.k4 (aa m.k4 (aa R8.g4 (aa H.k2 (aa z.k2 (aa D.k2 D8.k2)))));have cv:=fun W o p=>mZ N r (.agg #[.bool s8,.slice A8 k8 c8]) (.agg #[.bool aw,.slice ao av ar]) W o p b4 (by show _+4*nl r+4<=_;omega);have cu:=fun W o p=>mZ I r (.agg #[.bool t',.slice Z l' S]) (.agg #[.bool aw,.slice ao av ar]) W o p b4 (by show _+4*nl r+4<=_;omega);have ce:=jN I r K a5;have cd:=gT T (I.tdiv r) K K bT ce;have bf:=fun W v o p=>jB T (I.tdiv r) (.agg #[.bool s7,.slice A7 k7 c7]) v W o p (by omega);have bc:=fun W u v o p=>vK q (N.tdiv r) (T*I.tdiv r) u v W o p HQ.out.1 HQ.out.2 (by omega);generalize N.tdiv r=Nr at *;generalize T*I.tdiv r=Dr at *;generalize I.tdiv r=Yr at *;have a7:w.1.size+1+1≠w.1.size+1:=by omega
     have a6:w.1.size+1+1≠g8:=by omega
     have ck:w.1.size+1+1≠g7:=by omega
     have cj:w.1.size+1+1≠a1.1.size:=by omega
     go_region_held3 (fun F=>C4 F (w.1.size+1) (.bool t) (.slice C l e) (.bool t') (.slice Z l' S)∧C2 F g8 (.bool s8) (.slice A8 k8 c8)∧C2 F g7 (.bool s7) (.slice A7 k7 c7)∧C2 F a1.1.size (.bool aw) (.slice ao av ar))
      (first|(with_reducible exact⟨m.up.k4,D.up.k2,z.up.k2,D8.up.k2⟩)|(with_reducible exact⟨(m.up.far4 a7).k4,(D.up.far4 a6).k2,(z.up.far4 ck).k2,(D8.up.far4 cj).k2⟩))
      (first
       |(go_at_call 44;(with_reducible refine(cv _ hn.up ac.up).mono ?_);rintro ec fn ⟨fh,rfl,bo,cp⟩;have:=St.mk cp;obtain⟨fa,db,ew,d4,rfl⟩:=bo.form)
       |(go_at_call 44;(with_reducible refine(cu _ i.up ac.up).mono ?_);rintro ed fo ⟨fi,rfl,bp,cq⟩;have:=St.mk cq;obtain⟨fb,dc,ex,d5,rfl⟩:=bp.form)
       |(go_at_call 58;refine(bf _ _ Q.up bp.up).mono ?_;rintro ee fp ⟨fj,rfl,bq,cr⟩;have:=St.mk cr;obtain⟨fc,de,ey,d6,rfl⟩:=bq.form)
       |(go_at_call 45;refine(bc _ _ _ bo.up bq.up).mono ?_;rintro ef b8 ⟨fk,rfl,az,cs⟩;have:=St.mk cs;have cn:=Up.out (a:=a2) (b:=b8);have aq:=R8.up (b:=b8);have d0:=aq.g4;obtain⟨sa,Aa,ka,ca,sb,Ab,kb,cb,rfl⟩:=az.form))
     all_goals (
      go_wp2_with fail;replace d:=aC d cn;obtain⟨W6,ad,aq,d,f,ff⟩:=aq.put4 d (by omega) (.bool sa) (.slice Aa ka ca) (.bool sb) (.slice Ab kb cb) rfl rfl;replace az:=az.ke f;rw[ad];clear ad;replace J:=aq.k4;exact aM (v:= .agg #[.bool sa,.slice Aa ka ca,.bool sb,.slice Ab kb cb]) (by simp[results,Tryz.results54,go_sem,aq.k4]) rfl ⟨_,rfl,az,d⟩;)
