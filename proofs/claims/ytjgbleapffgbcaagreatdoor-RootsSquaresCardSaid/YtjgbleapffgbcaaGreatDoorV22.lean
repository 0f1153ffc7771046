/- Laws. -/
import Derived.Test.YtjgbleapffgbcaaGreatDoorV21
set_option linter.all false
set_option maxHeartbeats 8000000
set_option maxRecDepth 99999
namespace Go.Proofs.YtjgbleapffgbcaaGreatDoor
open Go.RowKit Sos Tryz
variable{g p s:List Int}
def WsAt.up{a b:World}[u:Up a b]{B:Nat}{v:Value}{c:List (List Int)}(h:WsAt a B 64 v c):WsAt b B 64 v c:=h.be u.out
def BV(e:List (List Int))(B:Nat)(i:Int)(x:Rat)(v u:Value)(w:World)(hv:WsAt w B 64 v e)(U:EndAt w u i x)(hi: -1<=i∧i<=1)(ak:e.length<=1024)(K:Nat)(q:∀a∈e,a≠[]∧a.length<=65∧∀n∈a,nl n.natAbs<=K)(kx:RL K x)(ac:140*K+10<=17592186044416):
  Calls prog 142 #[v,u] w (eO w (aY 0 (e.map (fun a=>aP a i x)):Nat)):=by
 obtain⟨J,r,H,y,L,s,I,z,rfl⟩:=U.form;obtain⟨A,c,rfl,hc⟩:=hv.form;have P:=fun a W u h h' (E:a∈e)=>UM i x a (.agg #[.bool J,.slice r H y,.bool L,.slice s I z,.int .i64 i]) u W h h' hi (q a E).1 (q a E).2.1 K (q a E).2.2 kx ac;unfold eO at P;unfold eO;obtain⟨V,D⟩:∃V,aY 0 (e.map (fun a=>aP a i x))=V:=⟨_,rfl⟩;rw[D];have M:Hid (0+aY 0 ((e.drop 0).map (fun a=>aP a i x))=V):=by unfold Hid;rw[azZ,bA];exact D
 clear D q;obtain⟨W,O,d,X⟩:=bI w [.bool J,.slice r H y,.bool L,.slice s I z,.int .i64 i] 107;have cM:=X.g5;go_enter func142,ntmps142;go_wp2_with fail;(try rw[O]);clear O;go_loopg [5,6,12] e.length (fun k vc vb vi wr=>∃(j C:Nat) (b:Int),Hid (j+k=e.length)∧vc= .int .i64 C∧vb= .int .i64 b∧vi= .int .i64 j∧C<=j∧ -1<=b∧b<=1∧Hid (C+aY b ((e.drop j).map (fun a=>aP a i x))=V)∧Bx wr w.1.size [.bool J,.slice r H y,.bool L,.slice s I z,.int .i64 i] 107∧Below w.1.size w wr)
 case atStart=>exact⟨0,0,0,by unfold Hid;omega,rfl,rfl,rfl,aE,by decide,by decide,M,X,d⟩
 case round=>
  clear M X d;obtain⟨j,C,b,l,rfl,rfl,rfl,hC,ad,ae,t,X,d⟩:=hrel;generalize wr=wy at *;have ai:(0:Int)<=(j:Int):=by omega
  cases gk with
  |zero=>
   have R:j=e.length:=l.out;have HC:Hid (C=V):=by
    have:=t.out;rw[R,azY] at this;exact this
   subst R;go_wp2;go_ret;exact⟨by rw[HC.out];rfl,d⟩
  |succ k=>
   have af:j<e.length:=by have:=l.out;omega
   have aj:(j:Int)<(e.length:Int):=by omega
   obtain⟨a,p⟩:∃a,e[j]? =some a:=⟨_,aR af⟩;obtain⟨bb,u,rfl,ag,hu,Q⟩:=(hv.be d).at_ p;obtain⟨Z,cu,rfl,ah⟩:=Q.form;have T:aY b ((e.drop j).map (fun a=>aP a i x))=if aP a i x=0 then aY b ((e.drop (j+1)).map (fun a=>aP a i x)) else (if b≠0∧aP a i x≠b then 1 else 0)+aY (aP a i x) ((e.drop (j+1)).map (fun a=>aP a i x)):=KD (fun a=>aP a i x) p b;have o:=YT a i x;have G:=P a wy (.slice Z a.length cu) (U.be d) Q (dG p);have f:=t.out;rw[T] at f;clear T p t;generalize aP a i x=S at *;have cX:=X.k5;have hw:IntKind.i64.wrap (-S)= -S:=IntWalk.i64_in _ ⟨by omega,by omega⟩;by_cases m:S=0
   ·subst m;rw[if_pos rfl] at f;replace f:=aB f;go_wp2_with fail;refine G.mono ?_;rintro N Y ⟨rfl,g⟩;replace X:=X.be g;replace d:=aC d g;go_wp2;go_roundg k
    case rel=>exact⟨j+1,C,b,by have:=l.out;unfold Hid;omega,rfl,rfl,by go_num,by omega,ad,ae,f.out,X,d⟩
    case measure=>omega
   ·rw[if_neg m] at f;have q0:(S==0)=false:=by simpa using m
    by_cases F:b= -S
    ·subst F;rw[if_pos (by omega)] at f;replace f:=aB f;clear m;go_wp2_with fail;refine G.mono ?_;rintro N Y ⟨rfl,g⟩;replace X:=X.be g;replace d:=aC d g;go_wp2;go_roundg k
     case rel=>exact⟨j+1,C+1,S,by have:=l.out;unfold Hid;omega,by go_num,rfl,by go_num,by omega,o.1,o.2,by have:=f.out;unfold Hid;omega,X,d⟩
     case measure=>omega
    ·rw[if_neg (by omega),bA] at f;replace f:=aB f;have q1:(b== -S)=false:=by simpa using F
     clear m F;go_wp2_with fail;refine G.mono ?_;rintro N Y ⟨rfl,g⟩;replace X:=X.be g;replace d:=aC d g;go_wp2;go_roundg k
     case rel=>exact⟨j+1,C,S,by have:=l.out;unfold Hid;omega,rfl,rfl,by go_num,by omega,o.1,o.2,f.out,X,d⟩
     case measure=>omega
def xA(w:World)(s:List Int)(i:Int)(x:Rat)(j:Int)(y:Rat)(e:Ending)(w':World):Prop:=∃n:Int,e= .returned (.int .i64 n)∧ -1024<=n∧n<=1024∧(jO i x j y=false->n=0)∧(jO i x j y=true->∃c,StT 110079 s (aS (bB s)) c∧n=fF s c i x j y)∧Below w.1.size w w'
def J0(s:List Int)(i j:Int)(x y:Rat)(v u1 u2:Value)(w:World)(J:Glob w)(hv:WholeAt w v s)(ts:aN s)(h0:s≠[])(f:Sz s)(g:EndAt w u1 i x)(k:EndAt w u2 j y)(hi: -1<=i∧i<=1)(hj: -1<=j∧j<=1)(kx:RL 30000000 x)(ky:RL 30000000 y):
  Calls prog 110 #[v,u1,u2] w (xA w s i x j y):=by
 obtain⟨F,l,B,q,G,m,C,r,rfl⟩:=g.form;obtain⟨H,o,D,t,I,p,E,u,rfl⟩:=k.form;have z:=fun W h e=>UL i j x y (.agg #[.bool F,.slice l B q,.bool G,.slice m C r,.int .i64 i]) (.agg #[.bool H,.slice o D t,.bool I,.slice p E u,.int .i64 j]) W h e hi hj 30000000 kx ky (by omega);have A:=fun W J h=>KE s v W J h ts h0 f;have td:=Q5 (lE ts);have kd:∀n∈aS (bB s),nl n.natAbs<=110079:=fun n hn=>by
  obtain⟨K,hK,ag,ah, -⟩:=f.ex;exact aH (gU (pL hK (by have:=f.1;omega)) n hn) (by omega)
 have ld:(aS (bB s)).length=s.length-1:=by rw[dF,lZ]
 have Q:∀c,StT 110079 s (aS (bB s)) c->(s :: c).length<=8∧∀a∈s :: c,a≠[]∧a.length<=65∧∀n∈a,nl n.natAbs<=30000000:=fun c h=>by
  have h1:=h.len;have h7:=f.1;refine⟨by rw[eG];omega,fun a N=> ?_⟩;rcases List.mem_cons.1 N with rfl|N
  ·exact⟨h0,by omega,fun n hn=>aH (f.nums n hn) (by omega)⟩
  ·obtain⟨Z,e2,e3,e4⟩:=h.mem td kd a N;exact⟨Z,by omega,fun n hn=>aH (e4 n hn) (by decide)⟩
 unfold y6 at A;unfold xA;obtain⟨L,hL⟩:∃L,jO i x j y=L:=⟨_,rfl⟩;rw[hL] at z⊢;clear hL td kd ld;obtain⟨W,eW,d,X,Y⟩:=eL w [.bool F,.slice l B q,.bool G,.slice m C r,.int .i64 i] 107 [.bool H,.slice o D t,.bool I,.slice p E u,.int .i64 j] 107;have cM:=aa X.g5 Y.g5;go_enter func110,ntmps110;go_wp2_with fail;(try rw[eW]);clear eW;refine(z _ (g.be d) (k.be d)).mono ?_;rintro Z w1 ⟨rfl,O⟩;replace X:=X.be O;replace Y:=Y.be O;replace d:=aC d O;cases L with
 |false=>
  clear A Q z;go_wp2;go_ret
  first
   |exact⟨0,rfl,by decide,by decide,rfl,d⟩
   |exact⟨0,rfl,by decide,by decide,fun _=>rfl,(fun h=>absurd h (by decide)),d⟩
 |true=>
  clear z;go_wp2_with fail;refine(A _ (J.be d) (hv.be d)).mono ?_;rintro e2 w2 ⟨v2,c,rfl,h2,M,P⟩;replace X:=X.be P;replace Y:=Y.be P;replace d:=aC d P;obtain⟨ai,R⟩:=Q c M;have ac:=fun W h e=>BV (s :: c) w1.1.size i x v2 (.agg #[.bool F,.slice l B q,.bool G,.slice m C r,.int .i64 i]) W h e hi (by omega) 30000000 R kx (by omega);have ad:=fun W h e=>BV (s :: c) w1.1.size j y v2 (.agg #[.bool H,.slice o D t,.bool I,.slice p E u,.int .i64 j]) W h e hj (by omega) 30000000 R ky (by omega);have bx:=qR ((s :: c).map (fun a=>aP a i x)) 0;have bY:=qR ((s :: c).map (fun a=>aP a j y)) 0;rw[cH] at bx bY;unfold eO at ac ad;have S:Hid (fF s c i x j y=(aY 0 ((s :: c).map (fun a=>aP a i x)):Int)-(aY 0 ((s :: c).map (fun a=>aP a j y)):Int)):=rfl;have T:=aB M;clear A Q R M;generalize aY 0 ((s :: c).map (fun a=>aP a i x))=U at *;generalize aY 0 ((s :: c).map (fun a=>aP a j y))=V at *;replace g:=g.be d;replace k:=k.be d;have hw:IntKind.i64.wrap ((U:Int)-(V:Int))=(U:Int)-(V:Int):=IntWalk.i64_in _ ⟨by omega,by omega⟩;go_wp2_with fail
  go_region_held3 (fun w'=>C5 w' w.1.size (.bool F) (.slice l B q) (.bool G) (.slice m C r) (.int .i64 i)∧C5 w' (w.1.size+1) (.bool H) (.slice o D t) (.bool I) (.slice p E u) (.int .i64 j)) (with_reducible exact⟨X.up.k5,Y.up.k5⟩)
   (first
    |(go_at_call 142;first|(with_reducible refine(ac _ h2.up g.up).mono ?_;rintro e5 w5 ⟨rfl,ae⟩;have:=St.mk ae)|(with_reducible refine(ad _ h2.up k.up).mono ?_;rintro e6 w6 ⟨rfl,af⟩;have:=St.mk af)))
  all_goals (
   go_wp2;go_ret
   first
    |exact⟨_,rfl,by omega,by omega,⟨c,T.out,S.out.symm⟩,bJ (b:=w5) d⟩
    |exact⟨_,rfl,by omega,by omega,⟨c,T.out,S.out.symm⟩,bJ (b:=w6) d⟩)
def Sy(s:List Int):Prop:=s.length<=9∧∀n∈s,nl n.natAbs<=437020
def Sy.nums(h:Sy s):∀n∈s,nl n.natAbs<=437020:=h.2
def Sy.ex(h:Sy s):∃K,(∀n∈s,nl n.natAbs<=K)∧1<=K∧K<=437020∧(K+2)*3*3^(s.length-2)<=9000000000:=
 ⟨437020,h.2,by decide,aE,aH (eV _ (cO (by decide) (show s.length-2<=7 by have:=h.1;omega))) (by decide)⟩
def dzB(e:p≠[])(f:aN p)(a:g≠[])(d:∀n∈p,nl n.natAbs<=23000)(b:∀i,cf p i=conv (cf s) (cf g) i)(j:s.length+g.length=p.length+1)(c:p.length<=9):Sy s:=by
 have h:=List.length_pos_iff.2 a;exact⟨by omega,fun n hn=>aH (cx8 e f d b (by omega) c (by decide) n hn) (by decide)⟩
def dzC(b:List Int)(v:Value)(w:World)(q:Glob w)(hv:WholeAt w v b)(t:aN b)(y:b≠[])(hl:b.length<=9)(z:∀n∈b,nl n.natAbs<=23000):
  Calls prog 36 #[v] w fun e w'=>∃X s,e= .returned X∧WholeAt w' X s∧Sqp 9000000000 (aS b) s∧Sy s∧Below w.1.size w w':=by
 obtain⟨A,c,rfl,hc⟩:=hv.form;have U:=qQ b _ w q hv t 23000 z (by unfold aJ;decide) (by omega);have T:=dF b;have m:=gU z;have l:=Q5 t;have D:=xZ (nI t y);have r:aS b≠[]:=fun e=>y (bX (by rw[<-T,e];rfl));generalize aS b=p at *;have ae:p.length<=9:=by omega
 have P:=fun W v h=>JN p v W h 23000 m (by unfold aJ;decide) (by omega);have C:=pL m (by omega);have ad:=lZ p;have E:=lE l;have V:23002*(p.length-(bB p).length+2)*3^(bB p).length<=9000000000:=by
  have a:=List.length_pos_iff.2 r;rw[show p.length-(bB p).length+2=3 by omega];exact aH (eV _ (cO (by decide) (show(bB p).length<=8 by omega))) (by decide)
 have R:=fun W v u q a k=>XV p (bB p) v u W q a k l E 23001 9000000000 (fun n hn=>aH (m n hn) (by decide)) C (by decide) (fun h=>absurd h (by omega)) (fun _=>V) (by unfold aJ;decide) (by omega) (by omega);have Q:∀g,pO 9000000000 p (bB p) g->∃s,Sqp 9000000000 p s∧Sy s∧g≠[]∧aN g∧(∀n∈g,nl n.natAbs<=9000000000)∧g.length<=10∧∀i,cf p i=conv (cf s) (cf g) i:=fun g j=>by
  unfold pO at j;rw[if_neg (by omega),XC D] at j;obtain⟨G,o2,o3⟩:=y5 j (by decide) l (Q5 E) (fun n hn=>aH (m n hn) (by decide)) (gU (fun n hn=>aH (C n hn) (by decide)));rw[dF] at o3;obtain⟨I,o,s,J,K,L,x⟩:=XD r l D j G;exact⟨s,⟨⟨g,j,o,G,I,L,x⟩,J,K⟩,dzB r l o m x L ae,o,G,o2,by omega,x⟩
 clear C ad E V D r z y t T;generalize bB p=d at *;go_enter func36,ntmps36;go_wp2_with fail;refine U.mono ?_;rintro I w1 ⟨v1,rfl,a,f⟩;obtain⟨Y,c1,rfl,ag⟩:=a.form;clear U;go_wp2_with fail;refine(P _ _ a).mono ?_;rintro o w2 ⟨v2,rfl,k,N⟩;obtain⟨A2,c2,rfl,ah⟩:=k.form;replace a:=a.be N;replace f:=aC f N;clear P;go_wp2_with fail;refine(R _ _ _ (q.be f) a k).mono ?_;rintro J w3 ⟨v3,g,rfl,M,j,O⟩;obtain⟨Z,c3,rfl,ai⟩:=M.form;replace a:=a.be O;replace f:=aC f O;obtain⟨s,B,F,g0,tg,kg,lg,S⟩:=Q g j;have af:=fun W a k=>YI s p g (.slice Y p.length c1) (.slice Z g.length c3) W a k g0 B.ts l tg S 9000000000 (fun n hn=>aH (F.nums n hn) (by decide)) kg (by unfold aJ;decide) (by omega) (by omega);have H:=aB (And.intro B F);clear j Q R k B F S l m;go_wp2_with fail;refine(af _ a M).mono ?_;rintro K w4 ⟨v4,rfl,h4,ac⟩;go_wp2;go_ret;exact⟨_,s,rfl,h4,H.out.1,H.out.2,aC f ac⟩
def QX(w:World)(s:List Int)(e:Ending)(w':World):Prop:=∃a c,e= .returned a∧WsAt w' w.1.size 64 a (s :: c)∧StT 9000000000 s (aS (bB s)) c∧Below w.1.size w w'
def dxO(s:List Int)(v:Value)(w:World)(N:Glob w)(hv:WholeAt w v s)(ts:aN s)(y:s≠[])(hs:Sy s):
  Calls prog 93 #[v] w (QX w s):=by
 obtain⟨A,c,rfl,hc⟩:=hv.form;obtain⟨K,hK,b2,b3,a6⟩:=hs.ex;have hl:=hs.1;have R:=List.length_pos_iff.2 y;have bb:=fun W h=>JN s (.slice A s.length c) W h K hK (by unfold aJ;omega) (by omega);have td:=lE ts;have kd:=pL hK (by omega);have ld:=lZ s;have ae:=fun W u N h=>qQ (bB s) u W N h td (K+1) kd (by unfold aJ;omega) (by omega);have tp:=Q5 td;have kp:=gU kd;have lp:=dF (bB s);have ks:∀n∈s,nl n.natAbs<=K+1:=fun n hn=>aH (hK n hn) (Nat.le_succ _);unfold QX;generalize aS (bB s)=d at *;generalize bB s=ds at *;have bu:d.length=s.length-1:=by omega
 have a8:d.length≠0->(K+1+1)*(s.length-d.length+2)*3^(d.length-1)<=9000000000:=fun h=>by
  rw[show s.length-d.length+2=3 by omega,show d.length-1=s.length-2 by omega];exact a6
 have a1:=aB a8;obtain⟨w0,e0,g,X⟩:=bI w [.slice A s.length c] 64;have i:=WsAt.one hv aE;have ar:w.alloc (.cells #[.slice A s.length c] 64)=w0:=e0;rw[ar] at i;replace hv:=hv.be g;have bc:d.length<=s.length:=by omega
 have bv:d.length+1<=10:=by omega
 clear a8 a6 hs y X hK kd ld lp bu;go_enter func93,ntmps93;go_wp2_with fail;(try rw[ar]);clear e0 ar;refine(bb _ hv).mono ?_;rintro e1 w1 ⟨v1,rfl,h1,av⟩;obtain⟨A1,c1,rfl,bs⟩:=h1.form;replace hv:=hv.be av;replace i:=i.be av;replace g:=aC g av;clear bb;go_wp2_with fail;refine(ae _ _ (N.be g) h1).mono ?_;rintro e2 w2 ⟨v2,rfl,h2,aw⟩;obtain⟨A2,c2,rfl,bt⟩:=h2.form;replace hv:=hv.be aw;replace i:=i.be aw;replace g:=aC g aw;clear ae h1;go_wp2_with fail
 go_loopg [3,4,5] d.length (fun k vc vb vl wr=>∃a b Aa ca p x o B,Hid (b.length=k)∧vb= .slice Aa a.length ca∧vl= .slice p b.length x∧WholeAt wr (.slice Aa a.length ca) a∧WholeAt wr (.slice p b.length x) b∧WsAt wr w.1.size 64 vc B∧Hid (aN a)∧Hid (aN b)∧Hid (∃C,B=s :: C∧∀c,StT 9000000000 a b c->StT 9000000000 s d (C++c))∧
  (∀n∈a,nl n.natAbs<=o)∧(∀n∈b,nl n.natAbs<=o)∧1<=o∧b.length<=a.length∧a.length<=9∧B.length+b.length<=10∧Hid (b.length≠0->(o+1)*(a.length-b.length+2)*3^(b.length-1)<=9000000000)∧Below w.1.size w wr)
 case atStart=>exact⟨s,d,A,c,A2,c2,K+1,[s],rfl,rfl,rfl,hv,h2,i,ts,tp,⟨[],rfl,fun c h=>h⟩,ks,kp,by omega,bc,hl,by rw[iJ];omega,a1,g⟩
 case round=>
  clear h2 hv i g a1 tp kp ks ts R hl hc bs bt bc bv;obtain⟨a,b,Aa,ca,p,x,o,B,HL,rfl,rfl,O,H,i,bq,aq,HE,ka,kb,a5,a9,cc,cd,HP,g⟩:=hrel;generalize wr=T at *;obtain⟨Af,b1,rfl,b8⟩:=i.form;by_cases y:b.length=0
  ·have q0:¬(0:Int)<(b.length:Int):=by omega
   have Q:b=[]:=bX y;obtain⟨C,R,E⟩:=HE.out;have E:=E [] (by rw[Q];exact .done a);rw[fH] at E;have J:=aB (And.intro R E);clear Q y E R;go_wp2;go_ret
   first
    |exact⟨_,C,rfl,by rw[J.out.1] at i;rw[J.out.1];exact i,J.out.2,g⟩
    |exact⟨_,rfl,C,by rw[J.out.1] at i;rw[J.out.1];exact i,J.out.2,g⟩
  ·have q0:(0:Int)<(b.length:Int):=by omega
   have Q:b≠[]:=fun e=>y (by rw[e];rfl);have b4:=YV (HP.out y) a9;have pq:=fun W O H=>BU a b (.slice Aa a.length ca) (.slice p b.length x) W O H Q bq.out aq.out o _ ka kb a5 aE (by unfold aJ;omega) (by omega) (by omega);unfold wZ at pq;have Z:Below T.1.size T (T.alloc (.cells #[.slice p b.length x] 64)):=(aG _ _).alloc aE _;have X:=Bx.new T [.slice p b.length x] 64;replace O:=O.be Z;replace H:=H.be Z;replace i:=i.be Z;have ce:w.1.size<=T.1.size:=g.size;replace g:=aC g Z;have a2:=X.cell 0 rfl;obtain⟨b0,S,ao,bo⟩:=id i;go_wp2_with (at_builtin;refine K4 rfl rfl 64 24 underlying129 Y3 w.1.size _ b0 rfl S T.1.size (.slice p b.length x) rfl a2 ⟨_,_,_,rfl⟩ (by rw[ao];omega) (by rw[ao];unfold maxLen;omega) g.size ?_;intro v8 w8 bj al ac);have l:=WsAt.push S ao bo H bj al ac;have za:=O.grown S al ac;have f:=K5 g ac S aE;have j:=H.grown S al ac;obtain⟨A8,c8,rfl,b6⟩:=l.form;have a3:∃U,B++[b]=s :: U∧∀q r m c,PQRes a b 9000000000 m q r->StT 9000000000 b (if 0<m then (aS r).map (·*(-1)) else aS r) c->StT 9000000000 s d (U++c):=by
    obtain⟨C,R,E⟩:=HE.out;exact⟨C++[b],by rw[R];rfl,fun q r m c h t=>by rw[eK];exact E _ (.step Q h t)⟩
   have az:=aB a3;have a7:(B++[b]).length=B.length+1:=by rw[dA];rfl
   have a0:=aB a7;clear a7 a3 O H i X a2 Z bj al ac S ao bo g HE;generalize B++[b]=LS at *;go_wp2_with fail;refine(pq _ za j).mono ?_;rintro e3 w3 ⟨vq,vr,vm,q,r,m,rfl,hq,hr,I,z,ax⟩;obtain⟨Aq,cq,rfl, -⟩:=hq.form;obtain⟨Ar,cr,rfl,b9⟩:=hr.form;obtain⟨s3,A3,k3,c3,rfl⟩:=I.form;have bx:=z.r_lt;have ae:=fun W N h=>qQ r (.slice Ar r.length cr) W N h z.r_trim _ z.br (by unfold aJ;omega) (by omega);have bn:=fun W h=>qG m (.agg #[.bool s3,.slice A3 k3 c3]) W h (aH z.bm (by omega));have an:=Q5 z.r_trim;have am:=gU z.br;have bf:=dF r;have bg:=z.m0;have ai:=az.out;obtain⟨U,ba,ai⟩:=ai;have a4:=fun c=>ai q r m c (z.mono (by omega));have bi:r.length≠0->(o+(a.length+1-b.length)*(o+1)+1)*(b.length-r.length+2)*3^(r.length-1)<=9000000000:=fun h=>YU (HP.out y) bx a9 h;have bp:∀n∈b,nl n.natAbs<=o+(a.length+1-b.length)*(o+1):=fun n hn=>aH (kb n hn) (byR _ _);have au:1<=o+(a.length+1-b.length)*(o+1):=aH a5 (byR _ _);have HH:=aB (And.intro ba bi);have ag:=aB a4;have L:=aB bf;clear ai a4 az ba bi HP Q y z pq hq za bf;generalize aS r=P at *;generalize o+(a.length+1-b.length)*(o+1)=KK at *;replace j:=j.be ax;replace l:=l.be ax;replace f:=aC f ax;obtain⟨w4,e4,V,F⟩:=bI w3 [.bool s3,.slice A3 k3 c3] 60;replace j:=j.be V;replace l:=l.be V;replace hr:=hr.be V;replace I:=I.be V;replace f:=aC f V;have cF:=F.k2;go_wp2_with fail;(try rw[e4]);clear e4;refine(ae _ (N.be f) hr).mono ?_;rintro e5 w5 ⟨v5,rfl,D,Y⟩;obtain⟨A5,c5,rfl,b5⟩:=D.form;replace j:=j.be Y;replace l:=l.be Y;replace I:=I.be Y;replace F:=F.be Y;replace f:=aC f Y;replace cF:=F.k2;clear ae hr;go_wp2_with fail;refine(bn _ I).mono ?_;rintro e6 w6 ⟨rfl,aj⟩;replace j:=j.be aj;replace l:=l.be aj;replace D:=D.be aj;replace f:=aC f aj;clear bn cF F I;by_cases ad:0<m
   ·have af:m.sign=1:=aqI ad;rw[af];have G:=ag.out;rw[if_pos ad] at G;have ap:=aB G;have bh:=YX an;have bk:=fun W u h h'=>OD P (-1) (.slice A5 P.length c5) u W h h' KK am (aH (cJ (m:=1) (by unfold BN;decide)) au) (by omega) (by have:=L.out;omega);rw[bh] at bk;have bz:=xM (show(-1:Int)≠0 by decide) an;have bw:∀n∈P.map (·*(-1)),nl n.natAbs<=KK:=fun n hn=>by
     obtain⟨k,hk,rfl⟩:=List.mem_map.1 hn;rw[fL];simpa using am k hk
    have ah:Hid ((P.map (·*(-1))).length=r.length):=by unfold Hid;rw[cH];exact L.out
    clear G ag bh an am af ad bg;generalize P.map (·*(-1))=M at *;go_wp2_with fail;refine(lL (-1) _ (by decide) (by decide)).mono ?_;rintro e7 w7 ⟨v7,rfl,h7,ak⟩;replace j:=j.be ak;replace l:=l.be ak;replace D:=D.be ak;replace f:=aC f ak;go_wp2_with fail;refine(bk _ _ D h7).mono ?_;rintro e9 w9 ⟨v9,rfl,h9,ay⟩;obtain⟨A9,c9,rfl,b7⟩:=h9.form;replace j:=j.be ay;replace l:=l.be ay;replace f:=aC f ay;go_wp2;go_roundg M.length
    case rel=>exact⟨b,M,p,x,A9,c9,KK,LS,rfl,rfl,rfl,j,h9,l,aq,bz,⟨U,HH.out.1,ap.out⟩,bp,bw,au,by have:=ah.out;omega,by omega,by have:=ah.out;have:=a0.out;omega,by rw[ah.out];exact HH.out.2,f⟩
    case measure=>have:=HL.out;have:=ah.out;omega
   ·have af:m.sign= -1:=aqT (by omega);rw[af];have G:=ag.out;rw[if_neg ad] at G;have ap:=aB G;clear G ag af ad bg;go_wp2;go_roundg P.length
    case rel=>exact⟨b,P,p,x,A5,c5,KK,LS,rfl,rfl,rfl,j,D,l,aq,an,⟨U,HH.out.1,ap.out⟩,bp,am,au,by have:=L.out;omega,by omega,by have:=L.out;have:=a0.out;omega,by rw[L.out];exact HH.out.2,f⟩
    case measure=>have:=HL.out;have:=L.out;omega
def BA(w:World)(s:List Int)(i:Int)(x:Rat)(j:Int)(y:Rat)(e:Ending)(w':World):Prop:=∃n:Int,e= .returned (.int .i64 n)∧ -1024<=n∧n<=1024∧(jO i x j y=false->n=0)∧(jO i x j y=true->∃c,StT 9000000000 s (aS (bB s)) c∧n=fF s c i x j y)∧Below w.1.size w w'
def dxP(s:List Int)(i j:Int)(x y:Rat)(v u1 u2:Value)(w:World)(J:Glob w)(hv:WholeAt w v s)(ts:aN s)(h0:s≠[])(f:Sy s)(g:EndAt w u1 i x)(k:EndAt w u2 j y)(hi: -1<=i∧i<=1)(hj: -1<=j∧j<=1)(kx:RL 9000000000 x)(ky:RL 9000000000 y):
  Calls prog 110 #[v,u1,u2] w (BA w s i x j y):=by
 obtain⟨F,l,B,q,G,m,C,r,rfl⟩:=g.form;obtain⟨H,o,D,t,I,p,E,u,rfl⟩:=k.form;have z:=fun W h e=>UL i j x y (.agg #[.bool F,.slice l B q,.bool G,.slice m C r,.int .i64 i]) (.agg #[.bool H,.slice o D t,.bool I,.slice p E u,.int .i64 j]) W h e hi hj 9000000000 kx ky (by omega);have A:=fun W J h=>dxO s v W J h ts h0 f;have td:=Q5 (lE ts);have kd:∀n∈aS (bB s),nl n.natAbs<=9000000000:=fun n hn=>by
  obtain⟨K,hK,ag,ah, -⟩:=f.ex;exact aH (gU (pL hK (by have:=f.1;omega)) n hn) (by omega)
 have ld:(aS (bB s)).length=s.length-1:=by rw[dF,lZ]
 have Q:∀c,StT 9000000000 s (aS (bB s)) c->(s :: c).length<=10∧∀a∈s :: c,a≠[]∧a.length<=65∧∀n∈a,nl n.natAbs<=9000000000:=fun c h=>by
  have h1:=h.len;have h7:=f.1;refine⟨by rw[eG];omega,fun a N=> ?_⟩;rcases List.mem_cons.1 N with rfl|N
  ·exact⟨h0,by omega,fun n hn=>aH (f.nums n hn) (by omega)⟩
  ·obtain⟨Z,e2,e3,e4⟩:=h.mem td kd a N;exact⟨Z,by omega,fun n hn=>aH (e4 n hn) (by decide)⟩
 unfold QX at A;unfold BA;obtain⟨L,hL⟩:∃L,jO i x j y=L:=⟨_,rfl⟩;rw[hL] at z⊢;clear hL td kd ld;obtain⟨W,eW,d,X,Y⟩:=eL w [.bool F,.slice l B q,.bool G,.slice m C r,.int .i64 i] 107 [.bool H,.slice o D t,.bool I,.slice p E u,.int .i64 j] 107;have cM:=aa X.g5 Y.g5;go_enter func110,ntmps110;go_wp2_with fail;(try rw[eW]);clear eW;refine(z _ (g.be d) (k.be d)).mono ?_;rintro Z w1 ⟨rfl,O⟩;replace X:=X.be O;replace Y:=Y.be O;replace d:=aC d O;cases L with
 |false=>
  clear A Q z;go_wp2;go_ret
  first
   |exact⟨0,rfl,by decide,by decide,rfl,d⟩
   |exact⟨0,rfl,by decide,by decide,fun _=>rfl,(fun h=>absurd h (by decide)),d⟩
 |true=>
  clear z;go_wp2_with fail;refine(A _ (J.be d) (hv.be d)).mono ?_;rintro e2 w2 ⟨v2,c,rfl,h2,M,P⟩;replace X:=X.be P;replace Y:=Y.be P;replace d:=aC d P;obtain⟨ai,R⟩:=Q c M;have ac:=fun W h e=>BV (s :: c) w1.1.size i x v2 (.agg #[.bool F,.slice l B q,.bool G,.slice m C r,.int .i64 i]) W h e hi (by omega) 9000000000 R kx (by omega);have ad:=fun W h e=>BV (s :: c) w1.1.size j y v2 (.agg #[.bool H,.slice o D t,.bool I,.slice p E u,.int .i64 j]) W h e hj (by omega) 9000000000 R ky (by omega);have bx:=qR ((s :: c).map (fun a=>aP a i x)) 0;have bY:=qR ((s :: c).map (fun a=>aP a j y)) 0;rw[cH] at bx bY;unfold eO at ac ad;have S:Hid (fF s c i x j y=(aY 0 ((s :: c).map (fun a=>aP a i x)):Int)-(aY 0 ((s :: c).map (fun a=>aP a j y)):Int)):=rfl;have T:=aB M;clear A Q R M;generalize aY 0 ((s :: c).map (fun a=>aP a i x))=U at *;generalize aY 0 ((s :: c).map (fun a=>aP a j y))=V at *;replace g:=g.be d;replace k:=k.be d;have hw:IntKind.i64.wrap ((U:Int)-(V:Int))=(U:Int)-(V:Int):=IntWalk.i64_in _ ⟨by omega,by omega⟩;go_wp2_with fail
  go_region_held3 (fun w'=>C5 w' w.1.size (.bool F) (.slice l B q) (.bool G) (.slice m C r) (.int .i64 i)∧C5 w' (w.1.size+1) (.bool H) (.slice o D t) (.bool I) (.slice p E u) (.int .i64 j)) (with_reducible exact⟨X.up.k5,Y.up.k5⟩)
   (first
    |(go_at_call 142;first|(with_reducible refine(ac _ h2.up g.up).mono ?_;rintro e5 w5 ⟨rfl,ae⟩;have:=St.mk ae)|(with_reducible refine(ad _ h2.up k.up).mono ?_;rintro e6 w6 ⟨rfl,af⟩;have:=St.mk af)))
  all_goals (
   go_wp2;go_ret
   first
    |exact⟨_,rfl,by omega,by omega,⟨c,T.out,S.out.symm⟩,bJ (b:=w5) d⟩
    |exact⟨_,rfl,by omega,by omega,⟨c,T.out,S.out.symm⟩,bJ (b:=w6) d⟩)
end Go.Proofs.YtjgbleapffgbcaaGreatDoor
namespace Go.Proofs.YtjgbleapffgbcaaGreatDoor
open Sos
variable{Q a c f g p p' r s w z:List Int}{b d e h q u v y:List Rat}{l:List (List Rat)}{B K N:Nat}
def kC{c p:List Rat}(j:∃x,aI c x≠0)(h:∀x,aI c x*aI p x=aI c x*aI q x)(x:Rat):aI p x=aI q x:=by
 have f:∀x,aI (j0 p (q.map (fun y=>(-1)*y))) x=aI p x-aI q x:=fun x=>by rw[lG,iI];grind
 have m:∀x,aI (fG c (j0 p (q.map (fun y=>(-1)*y)))) x=0:=fun x=>by rw[fY,f];have:=h x;grind
 generalize j0 p (q.map (fun y=>(-1)*y))=d at *;have k:=DQ m;by_cases b:aW aV d=[]
 ·have:=f x;rw[<-oT (iS d) x,b,show aI [] x=0 from rfl] at this;grind
 ·exfalso;by_cases a:aW aV c=[]
  ·obtain⟨y,g⟩:=j;rw[<-oT (iS c) y,a] at g;exact g rfl
  ·have n:=(dR a).1 (jS c);have o:=(dR b).1 (jS d);have e:conv (cf (aW aV c)) (cf (aW aV d)) ((aW aV c).length-1+((aW aV d).length-1))=0:=by
    rw[gL (iS c) (iS d),<-uU];exact k _
   rw[p5 (fun i l=>bV (by have:=List.length_pos_iff.2 a;omega)) (fun i l=>bV (by have:=List.length_pos_iff.2 b;omega))] at e;exact m6 n o e
def Cop(a b:List Rat):Prop:=∃u v:List Rat,∀x,aI u x*aI a x+aI v x*aI b x=1
def Cop.symm{a:List Rat}(h:Cop a b):Cop b a:=by
 obtain⟨u,v,h⟩:=h;exact⟨v,u,fun x=>by have:=h x;grind⟩
def Cop.dv(h:Cop e b)(k:DvE (aI b) d):Cop e d:=by
 obtain⟨u,v,h⟩:=h;obtain⟨q,k⟩:=k;exact⟨u,fG v q,fun x=>by have:=h x;rw[fY];rw[k] at this;grind⟩
def Cop.mul{a c:List Rat}(h:Cop e a)(k:Cop e b)(j:∀x,aI c x=aI a x*aI b x):Cop e c:=by
 obtain⟨u,v,h⟩:=h;obtain⟨d,f,k⟩:=k;refine⟨j0 (fG u (j0 (fG d e) (fG f b))) (fG (fG v d) a),fG v f,fun x=> ?_⟩;have g:=h x;have i:=k x;rw[lG,fY,lG,fY,fY,fY,fY,fY,j];have l:(aI u x*aI e x+aI v x*aI a x)*(aI d x*aI e x+aI f x*aI b x)=1:=by rw[g,i,aqP]
 grind
def Cop.const{c:List Rat}{k:Rat}(b:k≠0)(a:∀x,aI c x=k):Cop e c:=⟨[],[1/k],fun x=>by
 rw[a];show 0*aI e x+(0*x+1/k)*k=1
 have:1/k*k=1:=gW b;grind⟩
def Cop.euclid{s:List Rat}(b:Cop h s)(c:∀x,aI s x*aI y x=aI q x*aI h x):DvE (aI y) h:=by
 obtain⟨u,v,k⟩:=b;refine⟨j0 (fG u y) (fG v q),fun x=> ?_⟩;have a:=k x;have d:=c x;rw[lG,fY,fY];have:aI y x=(aI u x*aI h x+aI v x*aI s x)*aI y x:=by rw[a,azF]
 grind
structure Gc(f r:List Rat):Prop where
 dv:DvE (aI f) r
 dd:DvE (bM f) r
 bz:∃u v:List Rat,∀x,aI r x=aI u x*aI f x+aI v x*bM f x
def E4{f r a n:List Rat}(h:Gc f r)(w:∀x,aI f x=aI a x*aI r x)(o:Gc r n)(j:∀x,aI r x=aI b x*aI n x)(r0:∃x,aI r x≠0):∃e,(∀x,aI a x=aI e x*aI b x)∧Cop e b∧Cop e (fW e):=by
 obtain⟨T,v⟩:=h.dd;obtain⟨U,V,E⟩:=h.bz;obtain⟨t,z⟩:=o.dd;obtain⟨k,l,F⟩:=o.bz;have C:∃x,aI n x≠0:=by
  obtain⟨x,m⟩:=r0;exact⟨x,fun e=>m (by rw[j,e,dU])⟩
 have D:∃x,aI b x≠0:=by
  obtain⟨x,m⟩:=r0;exact⟨x,fun e=>m (by rw[j,e,aqQ])⟩
 have H:=uV (f:=f) (u:=a) (d:=r) w;have I:∀x,aI U x*aI a x+aI V x*aI T x=1:=fun x=>by
  have:=kC r0 (p:=j0 (fG U a) (fG V T)) (q:=[1]) (fun x=>by
   rw[lG,fY,fY,show aI [1] x=0*x+1 from rfl];have c:=E x;rw[v,w] at c;grind) x
  rw[lG,fY,fY,show aI [1] x=0*x+1 from rfl] at this;grind
 have J:∀x,aI k x*aI b x+aI l x*aI t x=1:=fun x=>by
  have:=kC C (p:=j0 (fG k b) (fG l t)) (q:=[1]) (fun x=>by
   rw[lG,fY,fY,show aI [1] x=0*x+1 from rfl];have c:=F x;rw[z,j] at c;grind) x
  rw[lG,fY,fY,show aI [1] x=0*x+1 from rfl] at this;grind
 have g:∀x,bM a x=aI (fW a) x:=fun x=>qW a x;have A:∀x,aI t x*aI a x=(aI T x-bM a x)*aI b x:=fun x=>by
  have:=kC C (p:=fG t a) (q:=fG (j0 T ((fW a).map (fun y=>(-1)*y))) b) (fun x=>by
   rw[fY,fY,lG,iI,<-g];have c:=H x;rw[v,z,j] at c;grind) x
  rw[fY,fY,lG,iI,<-g] at this;grind
 obtain⟨e,i⟩:=Cop.euclid (h:=b) (s:=t) (y:=a) ⟨k,l,J⟩ (q:=j0 T ((fW a).map (fun y=>(-1)*y))) (fun x=>by
  rw[A,lG,iI,<-g];grind)
 have G:=uV (f:=a) (u:=e) (d:=b) i;have K:∀x,aI e x*aI t x=aI T x-bM a x:=fun x=>by
  have:=kC D (p:=fG e t) (q:=j0 T ((fW a).map (fun y=>(-1)*y))) (fun x=>by
   rw[fY,lG,iI,<-g];have c:=A x;rw[i] at c;grind) x
  rw[fY,lG,iI,<-g] at this;grind
 have B:∀x,(aI U x*aI b x+(aI V x*aI t x+aI V x*aI (fW b) x))*aI e x+aI V x*aI (fW e) x*aI b x=1:=fun x=>by
  rw[<-qW,<-qW];have c:=I x;have L:=K x;have M:=G x;rw[i] at c;have:aI T x=aI e x*aI t x+(bM e x*aI b x+aI e x*bM b x):=by grind
  rw[this] at c;grind
 refine⟨e,i,⟨j0 (fG U b) (j0 (fG V t) (fG V (fW b))),fG V (fW e),fun x=> ?_⟩,⟨j0 (fG U b) (j0 (fG V t) (fG V (fW b))),fG V b,fun x=> ?_⟩⟩
 ·rw[lG,lG,fY,fY,fY,fY];exact B x
 ·rw[lG,lG,fY,fY,fY,fY];have:=B x;grind
inductive Rds:List Rat->List (List Rat)->Prop
 |stop {r:List Rat} {k:Rat} (hk:k≠0) (h:∀x,aI r x=k):Rds r []
 |step {r r2 b:List Rat} {l:List (List Rat)} (h:Gc r r2) (hr:∀x,aI r x=aI b x*aI r2 x) (h0:∃x,aI r x≠0) (t:Rds r2 l):Rds r (b :: l)
def dqT{r:List Rat}(h:Rds r l):∀{b:List Rat},l.head?=some b->Cop e b->Cop e r:=by
 induction h with
 |stop=>intro b c;cases c
 | @step r s b l h f q t o=>
  intro g c d;obtain rfl:b=g:=by simpa using c
  cases t with
  |stop m a=>exact d.mul (Cop.const m a) f
  | @step _ u p l a n j v=>
   obtain⟨i,k, -⟩:=E4 h f a n j;exact d.mul (o rfl (d.dv ⟨i,k⟩)) f
def dqU{f r a c:List Rat}(h:Gc f r)(w:∀x,aI f x=aI a x*aI r x)(t:Rds r (b :: l))(m:DvE (aI a) c)(n:DvE (aI r) c):DvE (aI b) c:=by
 cases t with
 | @step _ D _ _ g i d t=>
  obtain⟨e,s,o, -⟩:=E4 h w g i d;obtain⟨u,v,k⟩:=dqT (Rds.step g i d t) rfl o;obtain⟨p,y⟩:=m;obtain⟨q,z⟩:=n;refine⟨j0 (fG u p) (fG (fG v b) q),fun x=> ?_⟩;rw[lG,fY,fY,fY];have j:=k x;have A:=s x;have:aI b x=(aI u x*aI e x+aI v x*aI r x)*aI b x:=by rw[j,azF]
  have B:=y x;have C:=z x;grind
def o9{b:List Int}(h:Euc B a b g):aN a->aN b->aN g:=by
 induction h with
 |done a=>exact fun h _=>h
 |one d=>
  intro _ _ a c;obtain rfl:(1:Int)=a:=by simpa using c
  decide
 |step d h t e=>exact fun _ f=>e f (Q5 h.r_trim)
def F6(a:bC g=1)(x:aN g)(w:aN f)(p:f≠[])(h:Dv (cf f) g):g≠[]∧∃s,s≠[]∧aN s∧s.length+g.length=f.length+1∧∀i,cf f i=conv (cf s) (cf g) i:=by
 have b:g≠[]:=fun e=>by rw[e] at a;cases a
 refine⟨b,?_⟩;obtain⟨k,u,d,m⟩:=h;have y:=gJ d
 obtain⟨q, -,r⟩:=D7 (xs:=f) (Q:=aT (1/(k:Rat)) u) a (fun i=>by
  rw[gL (dS _ u) (fun _=>rfl),eI,<-oD,<-m i,eJ];grind)
 have c:∀i,cf f i=conv (cf (aW aV q)) (cf g) i:=fun i=>by
  rw[gL (iS q) (fun _=>rfl)];have n:=m i;have o:((k*cf f i:Int):Rat)=((k*conv (cf q) (cf g) i:Int):Rat):=by
   rw[n,eJ,oD,oD,gL (fun j=>(r j).symm) (fun _=>rfl),gL (dS _ u) (fun _=>rfl),eI];grind
  exact bzK d (Rat.intCast_inj.1 o)
 obtain⟨t,v⟩:=K7 (jS q) w x b c;have l:aW aV q≠[]:=fun e=>p (t e);exact⟨_,l,jS q,(v l).symm,c⟩
def y3(c:bC f=1)(a:∀i,cf f i=conv (cf s) (cf g) i):bC s=1:=by
 have h:bC s∣bC f:=CM (fun n hn=>by
  obtain⟨j,b,rfl⟩:=List.mem_iff_getElem.1 hn;rw[<-fZ b,a];unfold conv
  exact YN (fun k _=>Int.dvd_mul_of_dvd_left (WT (fun n h=>CL h) k)))
 rw[c] at h;exact Nat.dvd_one.1 h
def y4(a b:List Int):List Int:=(List.range (a.length+b.length)).map (fun i=>conv (cf a) (cf b) i)
def dy8(a b:List Int)(i:Nat):cf (y4 a b) i=conv (cf a) (cf b) i:=by
 by_cases d:i<a.length+b.length
 ·unfold y4;rw[fZ (by rw[cH,bxZ];exact d),List.getElem_map,List.getElem_range]
 ·rw[bV (by unfold y4;rw[cH,bxZ];omega),rG (fun j c=>bV c) (fun j c=>bV c) (by omega)]
structure DvW(w p:List Int):Prop where
 ne:p≠[]
 tr:aN p
 pr:bC p=1
 len:p.length<=w.length
 out:∃q,∀i,cf w i=conv (cf p) (cf q) i
def DvW.quo(h:DvW w p)(b:Q≠[])(k:aN Q)(d:c≠[])(l:aN c)(j:bC c=1)(n:Q.length+c.length=p.length+1)(a:∀i,cf p i=conv (cf Q) (cf c) i):DvW w Q∧DvW w c:=by
 obtain⟨q,e⟩:=h.out;have o:=List.length_pos_iff.2 b;have r:=List.length_pos_iff.2 d;have m:=h.len;have f:∀i,cf w i=conv (cf Q) (cf (y4 c q)) i:=fun i=>by
  rw[e,gL a (fun _=>rfl),cx4];exact gL (fun _=>rfl) (fun i=>(dy8 c q i).symm) i
 have g:∀i,cf w i=conv (cf c) (cf (y4 Q q)) i:=fun i=>by
  rw[e,gL (fun i=>(a i).trans (sO _ _ i)) (fun _=>rfl),cx4];exact gL (fun _=>rfl) (fun i=>(dy8 Q q i).symm) i
 exact⟨⟨b,k,y3 h.pr a,by omega,_,f⟩,⟨d,l,j,by omega,_,g⟩⟩
def DvW.nums(h:DvW w p)(e:w≠[])(f:aN w)(b:∀n∈w,nl n.natAbs<=K)(c:w.length<=N)(a:N<=1000):∀n∈p,nl n.natAbs<=K+2*N*(K+1)+1:=by
 obtain⟨q,d⟩:=h.out;exact cx8 e f b d h.len c a
def dqV(a:DvW w p)(b:DvW w r)(h:pO B p r c):∃e f,QuoOf p c e∧QuoOf r c f∧DvW w c∧DvW w e∧DvW w f∧e.length+c.length=p.length+1∧f.length+c.length=r.length+1:=by
 unfold pO at h;rw[XC a.pr,XC b.pr] at h;have v:bC c=1∧aN c∧Dv (cf p) c∧Dv (cf r) c:=by
  split at h
  ·exact⟨XA h b.pr (.inr a.pr),o9 h b.tr a.tr,(JS h).2,(JS h).1⟩
  ·exact⟨XA h a.pr (.inr b.pr),o9 h a.tr b.tr,(JS h).1,(JS h).2⟩
 obtain⟨i,d,s,t⟩:=v;obtain⟨g,e,x,o,m,j⟩:=F6 i d a.tr a.ne s;obtain⟨-,f,y,q,n,k⟩:=F6 i d b.tr b.ne t;have l:=a.quo x o g d i m j;have u:=b.quo y q g d i n k;exact⟨e,f,⟨o,g,d,j⟩,⟨q,g,d,k⟩,l.2,l.1,u.1,m,n⟩
def FB(w:List Int)(n:Nat)(p r:List Int):Prop:=DvW w p∧DvW w r∧n=p.length+r.length∧p.length+r.length<=w.length+1
def dqW{a n:Nat}(i:w≠[])(k:aN w)(f:∀n∈w,nl n.natAbs<=a)(g:w.length<=N)(d:N<=1000)(e:a+2*N*(a+1)+1<=K)(l:(K+1)*(N+2)*3^(N/2+1)<=B)(h:FB w n p r):GcdFit K B p r:=by
 obtain⟨b,c, -,m⟩:=h;have o:=b.len;have q:=c.len;have j:∀{x y:List Int},x.length<=N/2+1->y.length<=N->(K+1)*(y.length-x.length+2)*3^x.length<=B:=fun {x y} hx hy=>by
  refine aH (aqK (eV _ (by omega)) (cO (by decide) hx)) l
 exact⟨b.tr,c.tr,fun n hn=>aH (b.nums i k f g d n hn) e,fun n hn=>aH (c.nums i k f g d n hn) e,fun h=>j (by omega) (by omega),fun h=>j (by omega) (by omega),by omega,by omega⟩
def dqX{b:Nat}(m:w≠[])(o:aN w)(j:∀n∈w,nl n.natAbs<=b)(k:w.length<=N)(g:N<=1000)(i:b+2*N*(b+1)+1<=K)(s:(K+1)*(N+2)*3^(N/2+1)<=B):SqfInv K B (FB w):=by
 refine⟨fun n p r h=>dqW m o j k g i s h,fun n p r c h A t=> ?_⟩;obtain⟨u,v,rfl,C⟩:=h;obtain⟨q,f,y,z,a,l,d,D,E⟩:=dqV u v t;have F:=List.length_pos_iff.2 a.ne;have G:=List.length_pos_iff.2 l.ne;have H:=List.length_pos_iff.2 d.ne;have e:=fun {x:List Int} (h:DvW w x) (n:Int) (hn:n∈x)=>aH (h.nums m o j k g n hn) i;exact⟨q,f,c.length+f.length,by omega,y,z,e a,e l,e d,by have:=a.len;omega,a,d,rfl,by omega⟩
def dy7(x:Rat):aX [1] x=1:=by
 show(0:Rat)*x+1*((1:Int):Rat)=1
 rw[bxS];grind
def dV(a:List Int)(x:Rat):aI (aT 1 a) x=aX a x:=rfl
def dqS{b:List Int}(h:Euc B a b g):aN b->∃u v:List Rat,∀x,aX g x=aI u x*aX a x+aI v x*aX b x:=by
 induction h with
 |done a=>exact fun _=>⟨[1],[],fun x=>by show _=(0*x+1)*_+0*_;grind⟩
 | @one a b d=>
  intro f;obtain⟨y,rfl⟩:=List.length_eq_one_iff.1 d;have s:=gJ (f y rfl);refine⟨[],[1/(y:Rat)],fun x=> ?_⟩;have e:aX [y] x=y:=by show(0:Rat)*x+1*(y:Rat)=y;grind
  rw[dy7,e];show(1:Rat)=0*_+(0*x+1/(y:Rat))*y
  have:=gW (a:=1) s;grind
 | @step a b q r g m d h t w=>
  intro f;obtain⟨u,v,k⟩:=w (Q5 h.r_trim);by_cases c:r=[]
  ·have p:aS r=[]:=bX (by rw[dF,c];rfl);exact⟨[],u,fun x=>by rw[k,p,DS];show _=0*_+_;grind⟩
  ·have z:=gJ (nI h.r_trim c);refine⟨v.map (fun y=>((m:Rat)/((bC r:Int):Rat))*y),j0 u ((fG v (aT 1 q)).map (fun y=>(-(1/((bC r:Int):Rat)))*y)),fun x=> ?_⟩;have i:=sH h.id_ x;have j:=pR r x;rw[k,iI,lG,iI,fY,dV];have l:aX (aS r) x=(1/((bC r:Int):Rat))*aX r x:=by rw[j];grind
   have n:(m:Rat)/((bC r:Int):Rat)=(1/((bC r:Int):Rat))*(m:Rat):=by rw[azE,azE];grind
   rw[l,n];have o:aX r x=(m:Rat)*aX a x-aX q x*aX b x:=by rw[i];grind
   rw[o];grind
def kW(h:Dv (cf f) g):DvE (aX f) (aT 1 g):=by
 obtain⟨k,u,b,d⟩:=h;have c:=gJ b;refine⟨(aT 1 u).map (fun y=>(1/(k:Rat))*y),fun x=> ?_⟩;have e:=sH (A:=f) (Q:=u) (B:=g) (C:=[]) (m:=k) (fun i=>by rw[eR,d];omega) x;rw[DS] at e;rw[iI,dV,dV];have a:aX f x=(1/(k:Rat))*((k:Rat)*aX f x):=by rw[<-azC,gW c,azF]
 rw[a,e];grind
def dY(h:∀i,cf f i=conv (cf s) (cf g) i)(x:Rat):aX f x=aX s x*aX g x:=by
 have:=sH (A:=f) (Q:=s) (B:=g) (C:=[]) (m:=1) (fun i=>by rw[eR,az5,h];omega) x;rw[bxS,DS] at this;grind
def m7(l:aN r)(m:1<r.length)(h:Euc B r (aS (bB r)) g):Gc (aT 1 r) (aT 1 g):=by
 have b:=lE l;have i:bB r≠[]:=fun e=>by have:=lZ r;rw[e] at this;simp at this;omega
 have f:=gJ (nI b i);obtain⟨c,d⟩:=JS h;obtain⟨u,v,k⟩:=dqS h (Q5 b);have a:∀x,bM (aT 1 r) x=((bC (bB r):Int):Rat)*aX (aS (bB r)) x:=fun x=>by rw[<-yM,pR]
 refine⟨kW c,?_,u,v.map (fun y=>(1/((bC (bB r):Int):Rat))*y),fun x=> ?_⟩
 ·obtain⟨q,j⟩:=kW d;exact⟨q.map (fun y=>((bC (bB r):Int):Rat)*y),fun x=>by rw[a,j,iI];grind⟩
 ·rw[iI,a,dV,k,dV];have:(1/((bC (bB r):Int):Rat))*((bC (bB r):Int):Rat)=1:=gW f;grind
def dqR(h:∀x,aI u x*aI v x=1):∃c:Rat,c≠0∧∀x,aI u x=c:=by
 have g:∀i,conv (cf u) (cf v) i=cf [(1:Rat)] i:=fun i=>by
  rw[<-uU];exact LL (fun x=>by rw[fY,h];show(1:Rat)=0*x+1;grind) i
 have d:aW aV u≠[]:=fun e=>by
  have:=h 0;rw[<-oT (iS u) 0,e,show aI [] (0:Rat)=0 from rfl,aqQ] at this;exact absurd this (by decide)
 have hv:aW aV v≠[]:=fun e=>by
  have:=h 0;rw[<-oT (iS v) 0,e,show aI [] (0:Rat)=0 from rfl,dU] at this;exact absurd this (by decide)
 have a:=(dR d).1 (jS u);have m:=(dR hv).1 (jS v);have n:=List.length_pos_iff.2 d;have o:=List.length_pos_iff.2 hv;have e:conv (cf (aW aV u)) (cf (aW aV v)) ((aW aV u).length-1+((aW aV v).length-1))=cf [(1:Rat)] ((aW aV u).length-1+((aW aV v).length-1)):=by
  rw[gL (iS u) (iS v)];exact g _
 rw[p5 (fun i j=>bV (by omega)) (fun i j=>bV (by omega))] at e;have f:(aW aV u).length=1:=by
  rcases dE ((aW aV u).length-1+((aW aV v).length-1)) 1 with k|k
  ·omega
  ·rw[bV (l:=[(1:Rat)]) (by simpa using k)] at e;exact absurd e (m6 a m)
 obtain⟨c,b⟩:=List.length_eq_one_iff.1 f;rw[b] at a;refine⟨c,a,fun x=> ?_⟩;rw[<-oT (iS u) x,b];show 0*x+c=c
 grind
def Aso(p p':List Int):Prop:=∃c:Rat,c≠0∧∀x,aX p x=c*aX p' x
def Aso.symm(h:Aso p p'):Aso p' p:=by
 obtain⟨c,b,h⟩:=h;refine⟨1/c,?_,fun x=> ?_⟩
 ·have:=gW (a:=1) b;intro e;rw[e,aqQ] at this;exact absurd this (by decide)
 ·rw[h,<-azC,gW b,azF]
def gX(b:g≠[])(c:aN g):∃x,aI (aT 1 g) x≠0:=by
 apply bz0;intro h;have a:∀x,aI (aT 1 g) x=0:=fun x=>bz0 (fun k=>h ⟨x,k⟩);have:=DQ a (g.length-1);rw[dS,azF] at this;exact gJ ((dR b).1 c) this
def dy6(i:p≠[])(j:aN p)(h:DvE (aX p) (aT 1 p'))(k:DvE (aX p') (aT 1 p)):Aso p p':=by
 obtain⟨u,a⟩:=h;obtain⟨v,hv⟩:=k;have e:∀x,aI u x*aI v x=1:=fun x=>by
  have:=kC (gX i j) (p:=fG u v) (q:=[1]) (fun x=>by
   rw[fY,show aI [1] x=0*x+1 from rfl];have b:=a x;have d:=hv x;rw[dV] at b d;rw[dV];grind) x
  rw[fY,show aI [1] x=0*x+1 from rfl] at this;grind
 obtain⟨c,f,g⟩:=dqR e;exact⟨c,f,fun x=>by rw[a,g,dV]⟩
def Aso.co{c:Rat}(h:∀x,aX p x=c*aX p' x)(i:Nat):((cf p i:Int):Rat)=c*((cf p' i:Int):Rat):=by
 have:=LL (a:=aT 1 p) (b:=(aT 1 p').map (fun y=>c*y)) (fun x=>by rw[iI];exact h x) i;rwa [dS,mG (fun y=>c*y) (dU _),dS,azF,azF] at this
def Aso.len(h:Aso p p')(a:p≠[])(g:aN p)(b:p'≠[])(i:aN p'):p.length=p'.length:=by
 obtain⟨c,d,h⟩:=h;have e:=gJ ((dR a).1 g);have f:=gJ ((dR b).1 i);have j:=List.length_pos_iff.2 a;have m:=List.length_pos_iff.2 b;rcases bzH p.length p'.length with k|k|k
 ·exfalso;have:=Aso.co h (p'.length-1);rw[bV (l:=p) (by omega),aq4] at this;exact m6 d f this.symm
 ·exact k
 ·exfalso;have:=Aso.co h (p.length-1);rw[bV (l:=p') (by omega),aq4,dU] at this;exact e this
def Aso.mon(h:Aso p p')(g:p≠[])(j:aN p)(b:p'≠[])(d:aN p'):cE p=cE p':=by
 have a:=h.len g j b d;obtain⟨c,f,h⟩:=h;have k:=gJ ((dR b).1 d);rw[pN,pN];refine oR (by rw[fX,fX,a]) (fun i=> ?_);rw[dS,dS,Aso.co h i,Aso.co h (p.length-1),a];have e:1/(c*((cf p' (p'.length-1):Int):Rat))=(1/((cf p' (p'.length-1):Int):Rat))*(1/c):=by
  rw[azE,azE,azE,Rat.inv_mul_rev];grind
 rw[e];have:1/c*c=1:=gW f;grind
def UX{b e:List Int}(h:Aso p a)(k:Aso c b)(r:c≠[])(w:aN c)(n:∀x,aX p x=aX Q x*aX c x)(o:∀x,aX a x=aX e x*aX b x):Aso Q e:=by
 obtain⟨s,u,h⟩:=h;obtain⟨t,f,k⟩:=k
 have v:s*(1/t)≠0:=m6 u (fun e=>by
  have:=gW (a:=1) f;rw[e,aqQ] at this;exact absurd this (by decide))
 refine⟨s*(1/t),v,fun x=> ?_⟩
 have:=kC (gX r w) (p:=aT 1 Q) (q:=(aT 1 e).map (fun y=>(s*(1/t))*y)) (fun x=>by
  rw[iI,dV,dV,dV];have g:=n x;have i:=o x;have d:=h x;have j:=k x;have l:1/t*t=1:=gW f;have m:aX b x=(1/t)*aX c x:=by rw[j,<-azC,l,azF]
  rw[g] at d;rw[i,m] at d;grind) x
 rw[iI,dV,dV] at this;exact this
structure Pp(p:List Int):Prop where
 ne:p≠[]
 tr:aN p
 pr:bC p=1
inductive RfO(B:Nat):List Int->List Int->List Int->List (List Int)->Prop
 |last {r a g:List Int} (h1:1<r.length) (pr:Pp r) (pa:Pp a) (pg:Pp g) (h:Euc B r (aS (bB r)) g) (ha:∀i,cf r i=conv (cf a) (cf g) i) (hg:g.length=1):RfO B r a g [a]
 |step {r a g b g2 e:List Int} {es:List (List Int)} (h1:1<r.length) (pr:Pp r) (pa:Pp a) (pg:Pp g) (pe:Pp e) (h:Euc B r (aS (bB r)) g) (ha:∀i,cf r i=conv (cf a) (cf g) i) (he:∀i,cf a i=conv (cf e) (cf b) i) (t:RfO B g b g2 es):RfO B r a g (e :: es)
section
variable {B:Nat}{r a g:List Int}{es:List (List Int)}
def RfO.facts(h:RfO B r a g es):1<r.length∧Pp r∧Pp a∧Pp g∧Euc B r (aS (bB r)) g∧∀i,cf r i=conv (cf a) (cf g) i:=by
 cases h with
 |last b f d e h c k=>exact⟨b,f,d,e,h,c⟩
 |step b f d e l h c j t=>exact⟨b,f,d,e,h,c⟩
def U6(b:z.length=1)(c:aN z):∃k:Rat,k≠0∧∀x,aI (aT 1 z) x=k:=by
 obtain⟨y,rfl⟩:=List.length_eq_one_iff.1 b;exact⟨(y:Rat),gJ (c y rfl),fun x=>by show 0*x+1*(y:Rat)=y;grind⟩
def RfO.rds(h:RfO B r a g es):∃l,Rds (aT 1 r) (aT 1 a :: l):=by
 induction h with
 | @last r a g d c p i h f j=>
  obtain⟨k,m,e⟩:=U6 j i.tr;exact⟨[],.step (m7 c.tr d h) (fun x=>dY f x) (gX c.ne c.tr) (.stop m e)⟩
 | @step r a g b q e es d c p i u h f s t o=>
  obtain⟨l,n⟩:=o;exact⟨_,.step (m7 c.tr d h) (fun x=>dY f x) (gX c.ne c.tr) n⟩
def RfO.long(h:RfO B r a g es):1<a.length:=by
 obtain⟨q,f,d,b,i,j⟩:=h.facts;obtain⟨-,o⟩:=K7 d.tr f.tr b.tr b.ne j;have t:=o d.ne;have c:=lZ r;have p:=lE f.tr;have l:bB r≠[]:=fun e=>by rw[e] at c;simp at c;omega
 have s:g.length<=r.length-1:=by
  rcases dE (aS (bB r)).length g.length with k|k
  ·exfalso;have n:=(JS i).2.none k b.tr;have m:aS (bB r)≠[]:=fun e=>l (bX (by rw[<-dF,e];rfl));exact(dR m).1 (Q5 p) (n _)
  ·rw[dF] at k;omega
 omega
end
def E2(h:Aso p a)(k:DvE (aX p) d):DvE (aX a) d:=by
 obtain⟨c,e,h⟩:=h.symm;obtain⟨u,b⟩:=k;exact⟨u.map (fun y=>c*y),fun x=>by rw[h,b,iI];grind⟩
def dy5{q:List Int}(f:Pp p)(i:Pp q)(h:pO B p q c):Pp c∧Dv (cf p) c∧Dv (cf q) c∧∀d,DvE (aX p) d->DvE (aX q) d->DvE (aX c) d:=by
 unfold pO at h;rw[XC f.pr,XC i.pr] at h;split at h
 ·have b:=XA h i.pr (.inr f.pr);exact⟨⟨(fun e=>by rw[e] at b;cases b),o9 h i.tr f.tr,b⟩,(JS h).2,(JS h).1,fun d j k=>axV h f.tr d k j⟩
 ·have b:=XA h f.pr (.inr i.pr);exact⟨⟨(fun e=>by rw[e] at b;cases b),o9 h f.tr i.tr,b⟩,(JS h).1,(JS h).2,fun d j k=>axV h i.tr d j k⟩
def dqP{q:List Int}(d:Pp p)(e:Pp q)(i:1<p.length)(b:q.length=1)(h:pO B p q c):c=[1]:=by
 unfold pO at h;rw[XC d.pr,XC e.pr,if_neg (by omega)] at h;cases h with
 |done=>simp at b
 |one=>rfl
 |step f=>omega
def dqQ{es:List (List Int)}(h:RfO B r a g es):∀{E:Nat} {p q:List Int} {l:List (List Int)},Pp p->Pp q->Aso p a->Aso q g->Sqf E p q l->l.map cE=es.map cE:=by
 induction h with
 | @last r a g A D f w h C Z=>
  intro E p q l d n j s G;have hl:=(RfO.last A D f w h C Z).long;have lp:=j.len d.ne d.tr f.ne f.tr;have lq:=s.len n.ne n.tr w.ne w.tr;cases G with
  |done k=>omega
  | @step _ _ c z L l' k J o u t=>
   obtain rfl:=dqP d n (by omega) (by omega) J;cases t with
   |step k2=>simp at k2
   |done=>
    have e:∀x,aX p x=aX z x:=fun x=>by rw[dY o.id_,dy7,aqP]
    have hq:Aso z a:=by
     obtain⟨c,Y,h⟩:=j;exact⟨c,Y,fun x=>by rw[<-e,h]⟩
    have n0:z≠[]:=fun F=>by
     obtain⟨x,v⟩:=gX d.ne d.tr;rw[dV,e,F] at v;exact v rfl
    rw[fM,fM,hq.mon n0 o.trim f.ne f.tr]
 | @step r a g b M e es A D f w K h C I t ih=>
  intro E p q l d n j s G;have hl:=(RfO.step A D f w K h C I t).long;have lp:=j.len d.ne d.tr f.ne f.tr;obtain⟨t1, -,pb,ad,tE,O⟩:=t.facts;obtain⟨l0,X⟩:=t.rds;cases G with
  |done k=>omega
  | @step _ _ c z L l' k J o u t'=>
   obtain⟨m,S,T,U⟩:=dy5 d n J;have P:DvE (aX b) (aT 1 c):=dqU (m7 D.tr A h) (fun x=>dY C x) X (E2 j (kW S)) (E2 s (kW T));have R:DvE (aX c) (aT 1 b):=U _ (E2 j.symm ⟨aT 1 e,fun x=>dY I x⟩) (E2 s.symm ⟨aT 1 M,fun x=>by rw[dY O,dV,dV];grind⟩);have H:=dy6 m.ne m.tr R P;have V:=UX j H m.ne m.tr (fun x=>dY o.id_ x) (fun x=>dY I x);have W:=UX (e:=M) s H m.ne m.tr (fun x=>dY u.id_ x) (fun x=>by rw[dY O];grind);have N:∀{y Q:List Int},Pp y->(∀i,cf y i=conv (cf Q) (cf c) i)->Q≠[]:=fun {y Q} py hy F=>by
    obtain⟨x,v⟩:=gX py.ne py.tr;rw[dV,dY hy,F,DS,aqQ] at v;exact v rfl
   have ac:Pp L:=⟨N n u.id_,u.trim,y3 n.pr u.id_⟩;rw[fM,fM,V.mon (N d o.id_) o.trim K.ne K.tr,ih m ac H W t']
end Go.Proofs.YtjgbleapffgbcaaGreatDoor
namespace Go.Proofs.YtjgbleapffgbcaaGreatDoor
open Go.RowKit Sos
variable{a b p w xs ys:List Int}{B K:Nat}
def dy9{P:Program}{f:FuncId}{args:Array Value}{w:World}{R:Ending->World->Prop}(h:Calls P f args w R):∃e w',R e w':=by
 obtain⟨e,w',b,a, -⟩:=h [];exact⟨e,w',a⟩
def dqY(w:World)(n:Nat):∃w' A l c,Below w.1.size w w'∧NatAt w' (.slice A l c) n:=by
 refine⟨_,some ⟨w.1.size,0,none⟩,nl n,nl n,oI w (.cells ((dg n).map (fun z=>Value.int .u64 z)).toArray 119),⟨_,nl n,rfl,aE,.inr ⟨w.1.size,0,rfl,by simp,fun i a=> ?_⟩,Old.mk (by simp)⟩⟩;have B:=Bx.new w ((dg n).map (fun z=>Value.int .u64 z)) 119;rw[bA];refine B.cell i ?_;rw[iK,aR a,eE,aR a];rfl
def dqZ(w:World):∀ns:List Int,∃w' rows,Below w.1.size w w'∧rows.length=ns.length∧(∀r∈rows,r.length=2)∧IRow w' rows ns:=by
 intro ns;induction ns with
 |nil=>exact⟨w,[],aG _ _,rfl,(fun r h=>by cases h),(fun i n h=>by simp at h)⟩
 |cons n ns g=>
  obtain⟨j,rows,a,e,f,d⟩:=g;obtain⟨k,A,l,c,b,hn⟩:=dqY j n.natAbs;refine⟨k,[.bool (decide (n<0)),.slice A l c] :: rows,aC a b,by rw[eG,eG,e],fun r h=> ?_,fun i m h=> ?_⟩
  ·rcases List.mem_cons.1 h with rfl|h
   ·rfl
   ·exact f r h
  ·cases i with
   |zero=>
    obtain rfl:n=m:=by simpa using h
    exact⟨_,_,_,_,rfl,_,rfl,hn⟩
   |succ i=>exact(d.ke (Keep.be b)) i m h
def V1(w:World)(ns:List Int):∃w' v,Below w.1.size w w'∧WholeAt w' v ns:=by
 obtain⟨a,b,c,g,f,e⟩:=dqZ w ns;have B:=Bx.new a b.flatten 60;have d:=oI a (.cells b.flatten.toArray 60);exact⟨_,.slice (some ⟨a.1.size,0,none⟩) ns.length ns.length,aC c d,_,_,rfl,aE,.inr ⟨a.1.size,b,rfl,⟨B,f⟩,e.ke (Keep.be d)⟩⟩
def dyA{w:World}(j:Glob w)(h:GcdFit K B xs ys)(k:1<=K)(i:5*B+8<=aJ):∃g,pO B xs ys g:=by
 obtain⟨n,l,b,c⟩:=V1 w xs;obtain⟨o,m,a,d⟩:=V1 n ys;obtain⟨e,q,p,g, -, -,f, -⟩:=dy9 (U3 h l m o ((j.be b).be a) (c.be a) d k i);exact⟨g,f⟩
def dqN{e:List Rat}(d:Pp a)(o:Pp b)(h:∀x,aX a x=aI e x*aX b x):∃q,Pp q∧∀i,cf a i=conv (cf q) (cf b) i:=by
 have g:∀i,((cf a i:Int):Rat)=conv (cf e) (fun k=>((cf b k:Int):Rat)) i:=fun i=>by
  have:=LL (a:=aT 1 a) (b:=fG e (aT 1 b)) (fun x=>by rw[fY];exact h x) i;rw[dS,azF,uU] at this;rw[this];exact gL (fun _=>rfl) (fun k=>by rw[dS,azF]) i
 obtain⟨q, -,n⟩:=D7 o.pr g;have c:∀i,cf a i=conv (cf (aW aV q)) (cf b) i:=fun i=>by
  rw[gL (iS q) (fun _=>rfl)];have f:=g i;rw[gL n (fun _=>rfl),<-oD] at f;exact Rat.intCast_inj.1 f
 have m:aW aV q≠[]:=fun l=>by
  obtain⟨x,j⟩:=gX d.ne d.tr;rw[dV,dY c,l,DS,aqQ] at j;exact j rfl
 exact⟨_,⟨m,jS q,y3 d.pr c⟩,c⟩
def DvW.pp(h:DvW w p):Pp p:=⟨h.ne,h.tr,h.pr⟩
def dqO{m N:Nat}{W:World}(E:Glob W)(M:w≠[])(Z:aN w)(F:∀n∈w,nl n.natAbs<=m)(G:w.length<=N)(A:N<=1000)(hK:m+2*N*(m+1)+2<=K)(C:(K+1)*3^N<=B)(D:5*B+8<=aJ):∀(n:Nat) (r:List Int),r.length<=n->DvW w r->1<r.length->∃a g es,RfO B r a g es∧DvW w g:=by
 intro n;induction n with
 |zero=>intro r h _ i;omega
 |succ n P=>
  intro r hr c i;have l:=lE c.tr;have p:=lZ r;have hl:=c.len;have v:=c.nums M Z F G A;have I:GcdFit K B r (bB r):=by
   refine⟨c.tr,l,fun n hn=>aH (v n hn) (by omega),fun n hn=>aH (pL v (by omega) n hn) (by omega),fun h=>by omega,fun _=> ?_,by omega,by omega⟩;have e:(K+1)*(r.length-(bB r).length+2)*3^(bB r).length=(K+1)*3^r.length:=by
    rw[p,show r.length-(r.length-1)+2=3 by omega,iW,dN 3,<-dH,show(r.length-1).succ=r.length by omega]
   rw[e];exact aH (eV _ (cO (by decide) (show r.length<=N by omega))) C
  obtain⟨g,d⟩:=dyA E I (by omega) D;unfold pO at d;rw[if_neg (by omega),XC c.pr] at d;have t:bB r≠[]:=fun e=>by rw[e] at p;simp at p;omega
  have y:=XA d c.pr (.inr (xZ (nI l t)));have f:=o9 d c.tr (Q5 l);obtain⟨s,a,R,X,Q,j⟩:=F6 y f c.tr c.ne (JS d).1;obtain⟨o,dg⟩:=c.quo R X s f y Q j;by_cases z:g.length=1
  ·exact⟨a,g,_,.last i c.pp o.pp dg.pp d j z,dg⟩
  ·have lg:=List.length_pos_iff.2 s;have ac:g.length<=r.length-1:=by
    rcases dE (aS (bB r)).length g.length with k|k
    ·exfalso;have O:=(JS d).2.none k f;have J:aS (bB r)≠[]:=fun e=>t (bX (by rw[<-dF,e];rfl));exact(dR J).1 (Q5 l) (O _)
    ·rw[dF] at k;omega
   obtain⟨b,g2,es,u, -⟩:=P g (by omega) dg (by omega);obtain⟨U, -,S,ad,V,Y⟩:=u.facts;obtain⟨e,H, -⟩:=E4 (m7 c.tr i d) (fun x=>dY j x) (m7 f U V) (fun x=>dY Y x) (gX s f);obtain⟨q,T,L⟩:=dqN o.pp S H;exact⟨a,g,_,.step i c.pp o.pp dg.pp T d j L u,dg⟩
end Go.Proofs.YtjgbleapffgbcaaGreatDoor
namespace Go.Proofs.YtjgbleapffgbcaaGreatDoor
open Sos
variable{a g r s u w z:List Int}{D M R Z b d f h q t x y:Rat}{c es:List (List Int)}{B K T k n:Nat}{e p:List Rat}{l:List (Rat×Rat)}
def Cop.congr{a b c d:List Rat}(h:Cop a b)(e:∀x,aI c x=aI a x)(f:∀x,aI d x=aI b x):Cop c d:=by
 obtain⟨u,v,k⟩:=h;exact⟨u,v,fun x=>by rw[e,f];exact k x⟩
def x8:List (List Int)->Rat->Rat
 |[],_=>1
 |e :: es,x=>aX e x*x8 es x
def dZ:List (List Int)->Nat->Rat->Rat
 |[],_,_=>1
 |e :: es,n,x=>aX e x^n*dZ es (n+1) x
def dqM(es:List (List Int)):∀(n:Nat) (x:Rat),dZ es (n+1) x=x8 es x*dZ es n x:=by
 induction es with
 |nil=>intro n x;show(1:Rat)=1*1;rw[aqP]
 |cons e es a=>
  intro n x;show aX e x^(n+1)*dZ es (n+1+1) x=aX e x*x8 es x*(aX e x^n*dZ es (n+1) x)
  rw[a,azH];grind
def RfO.prod(h:RfO B r a g es):(∃k:Rat,k≠0∧∀x,aX r x=k*dZ es 1 x)∧∃k:Rat,k≠0∧∀x,aX a x=k*x8 es x:=by
 induction h with
 | @last r a g o u s m h d p=>
  obtain⟨k,f,e⟩:=U6 p m.tr;refine⟨⟨k,f,fun x=> ?_⟩,1,by decide,fun x=> ?_⟩
  ·rw[dY d,show aX g x=k from e x];show _=k*(aX a x^1*1)
   rw[azH,azM];grind
  ·show aX a x=1*(aX a x*1)
   grind
 | @step r a g b v e es o u s m w h d j t q=>
  obtain⟨⟨k,f,n⟩,c,l,i⟩:=q;refine⟨⟨k*c,m6 f l,fun x=> ?_⟩,c,l,fun x=> ?_⟩
  ·rw[dY d,dY j,n,i];show _=k*c*(aX e x^1*dZ es (1+1) x)
   rw[dqM es 1 x,azH,azM];grind
  ·rw[dY j,i];show _=c*(aX e x*x8 es x)
   grind
def RfO.cops(h:RfO B r a g es):(∀e∈es,Cop (aT 1 e) (fW (aT 1 e))∧DvE (aX a) (aT 1 e))∧es.Pairwise (fun e f=>Cop (aT 1 e) (aT 1 f)):=by
 induction h with
 | @last r a g m p P l h n z=>
  refine⟨fun e c=> ?_,List.pairwise_singleton ..⟩;obtain rfl:=List.mem_singleton.1 c;refine⟨?_,[1],fun x=>by rw[show aI [1] x=0*x+1 from rfl,dV];grind⟩;obtain⟨k,J,w⟩:=U6 z l.tr;obtain⟨u,v,I⟩:=(m7 p.tr m h).bz;have K:=uV (f:=aT 1 r) (u:=aT 1 e) (d:=aT 1 g) (fun x=>dY n x);have L:∀x,bM (aT 1 g) x=0:=fun x=>by
   obtain⟨y,rfl⟩:=List.length_eq_one_iff.1 z;show(0:Rat)*x+0=0
   grind
  refine⟨u,v,fun x=> ?_⟩;have G:=I x;rw[K,L,w,dV r,dY n,show aX g x=k from w x,dV e] at G;rw[<-qW,dV];have H:k*(aI u x*aX e x+aI v x*bM (aT 1 e) x-1)=0:=by grind
  rcases Rat.mul_eq_zero.1 H with s|s
  ·exact absurd s J
  ·grind
 | @step r a g b V e es m p P l X h n c t N=>
  obtain⟨S, -,C,Y,T,U⟩:=t.facts;obtain⟨A,M⟩:=N;obtain⟨q,O,D,F⟩:=E4 (m7 p.tr m h) (fun x=>dY n x) (m7 l.tr S T) (fun x=>dY U x) (gX l.ne l.tr)
  have o:∀x,aI (aT 1 e) x=aI q x:=kC (gX C.ne C.tr) (fun x=>by
   have m:=O x;have W:aI (aT 1 a) x=aI (aT 1 e) x*aI (aT 1 b) x:=dY c x;grind)
  have dd:∀x,aI (fW (aT 1 e)) x=aI (fW q) x:=fun x=>by
   rw[<-qW,<-qW];exact axS (fun i=>LL o i) x
  have E:Cop (aT 1 e) (aT 1 b):=D.congr o (fun _=>rfl);refine⟨fun f j=> ?_,List.pairwise_cons.2 ⟨fun f j=>E.dv (A f j).2,M⟩⟩;rcases List.mem_cons.1 j with rfl|j
  ·exact⟨F.congr o dd,aT 1 b,fun x=>by rw[dY c,dV,dV];grind⟩
  ·obtain⟨Q,u,R⟩:=A f j;exact⟨Q,fG (aT 1 e) u,fun x=>by rw[dY c,R,fY,dV e];grind⟩
def dqI(l:List Rat)(n:Nat)(b:l.length<=n+1)(h:cf l n=0)(x:Rat):aI (l.take n) x=aI l x:=by
 refine oT (fun i=> ?_) x;by_cases a:i<n
 ·unfold cf;rw[eE,eE,fC,if_pos a]
 ·rw[bV (by rw[bK];omega)];rcases dE n i with k|k
  ·rw[bV (by omega)]
  ·rw[show i=n by omega,h]
def dqJ{b:List Rat}(j:b.length=n+1)(d:cf b n≠0)(l:List Rat):∃q r:List Rat,r.length<=n∧∀x,aI l x=aI q x*aI b x+aI r x:=by
 induction l with
 |nil=>exact⟨[],[],dC n,fun x=>by show(0:Rat)=0*_+0;grind⟩
 |cons a l c=>
  obtain⟨q,r,m,h⟩:=c;have e:∀x,aI (a :: l) x=aI (0 :: q) x*aI b x+aI (a :: r) x:=fun x=>by
   show aI l x*x+a=(aI q x*x+0)*aI b x+(aI r x*x+a)
   rw[h];grind
  obtain⟨t,i⟩:∃t,t=cf (a :: r) n/cf b n:=⟨_,rfl⟩;have g:(j0 (a :: r) (b.map (fun y=> -t*y))).length<=n+1:=by
   have k:∀(x y:List Rat),(j0 x y).length<=max x.length y.length:=by
    intro x;induction x with
    |nil=>intro y;cases y<;>simp[j0]
    |cons u x c=>
     intro y;cases y with
     |nil=>simp[j0]
     |cons v y=>have:=c y;simp only[j0,eG];omega
   have:=k (a :: r) (b.map (fun y=> -t*y));rw[eG,cH] at this;omega
  have f:cf (j0 (a :: r) (b.map (fun y=> -t*y))) n=0:=by
   have k:t*cf b n=cf (a :: r) n:=by rw[i];exact gW d
   rw[DP,mG (fun y=> -t*y) (dU _),Rat.neg_mul,k];grind
  refine⟨j0 (0 :: q) [t],(j0 (a :: r) (b.map (fun y=> -t*y))).take n,by rw[bK];omega,fun x=> ?_⟩;rw[dqI _ n g f x,e,lG,lG,iI,show aI [t] x=0*x+t from rfl];grind
def dqK:∀(n:Nat) (b:List Rat),b.length<=n->∀a:List Rat,∃d u v:List Rat,DvE (aI a) d∧DvE (aI b) d∧∀x,aI d x=aI u x*aI a x+aI v x*aI b x:=by
 have g:∀(a b:List Rat),(∀x,aI b x=0)->∃d u v:List Rat,DvE (aI a) d∧DvE (aI b) d∧∀x,aI d x=aI u x*aI a x+aI v x*aI b x:=fun a b h=>
  ⟨a,[1],[],⟨[1],fun x=>by show _=(0*x+1)*_;grind⟩,⟨[],fun x=>by rw[h];show(0:Rat)=0*_;grind⟩,fun x=>by show _=(0*x+1)*_+0*_;grind⟩
 intro n;induction n with
 |zero=>
  intro b i a;exact g a b (fun x=>by rw[bX (Nat.le_zero.1 i)];rfl)
 |succ n p=>
  intro b i a;by_cases f:aW aV b=[]
  ·exact g a b (fun x=>by rw[<-oT (iS b) x,f];rfl)
  ·have e:=fun x=>oT (iS b) x;have w:=oY aV b;have z:=List.length_pos_iff.2 f;have l:=(dR f).1 (jS b);generalize aW aV b=c at *;obtain⟨q,r,A,j⟩:=dqJ (b:=c) (n:=c.length-1) (by omega) l a;obtain⟨d,u,v,⟨s,k⟩,⟨t,o⟩,m⟩:=p r (by omega) c;refine⟨d,v,j0 u ((fG v q).map (fun y=> -1*y)),⟨j0 (fG q s) t,fun x=> ?_⟩,⟨s,fun x=> ?_⟩,fun x=> ?_⟩
   ·rw[j,k,o,lG,fY];grind
   ·rw[<-e];exact k x
   ·rw[m,lG,iI,fY,<-e,j];grind
def dy4(A:Cop e (fW e))(h:DvE (fun x=>aI p x*aI p x) e)(E:∃x,aI p x≠0):DvE (aI p) e:=by
 obtain⟨d,u,v,⟨g,i⟩,⟨f,j⟩,w⟩:=dqK _ p aE e;obtain⟨q,C⟩:=h;obtain⟨y,D⟩:=E;have m:∃x,aI d x≠0:=⟨y,fun k=>D (by rw[j,k,dU])⟩;have t:Cop g d:=by
  obtain⟨a,b,l⟩:=A;refine⟨j0 (fG a d) (fG b (fW d)),fG b (fW g),fun x=> ?_⟩;have k:=l x;have z:aI (fW e) x=aI (fW g) x*aI d x+aI g x*aI (fW d) x:=by
   rw[<-qW,<-qW,<-qW];exact uV i x
  rw[z,i] at k;rw[lG,fY,fY,fY];grind
 have s:∀x,aI u x*aI g x+aI v x*aI f x=1:=by
  have k:=kC (p:=j0 (fG u g) (fG v f)) (q:=[1]) m (fun x=>by
   rw[lG,fY,fY,show aI [1] x=0*x+1 from rfl];have:=w x;rw[i,j] at this;grind)
  intro x;have:=k x;rwa [lG,fY,fY,show aI [1] x=0*x+1 from rfl,byD 0 x,dU,bxT] at this
 have n:Cop g f:=⟨u,v,s⟩;have r:∀x,aI g x*aI q x=aI d x*(aI f x*aI f x):=by
  have k:=kC (p:=fG g q) (q:=fG d (fG f f)) m (fun x=>by
   rw[fY,fY,fY];have:=C x;simp only at this;rw[i,j] at this;grind)
  intro x;have:=k x;rwa [fY,fY,fY] at this
 have B:Cop g (fG d (fG f f)):=t.mul (n.mul n (c:=fG f f) (fun x=>fY f f x)) (fun x=>fY d (fG f f) x);obtain⟨a,b,l⟩:=B;refine⟨fG f (j0 a (fG b q)),fun x=> ?_⟩;have k:=l x;rw[fY,fY,<-r] at k;rw[fY,lG,fY,j,i];have:aI g x*(aI a x+aI b x*aI q x)=1:=by grind
 have o:aI f x*(aI a x+aI b x*aI q x)*(aI g x*aI d x)=aI f x*(aI g x*(aI a x+aI b x*aI q x))*aI d x:=by grind
 rw[o,this];grind
def t6(h:List Rat)(x:Rat):∀n,aI (fJ h n) x=aI h x^n
 |0=>by show(0:Rat)*x+1=_;rw[azM];grind
 |n+1=>by rw[show fJ h (n+1)=fG (fJ h n) h from rfl,fY,t6 h x n,azH]
def dqL{r:List Rat}{k:Rat}(o:k≠0)(m:Cop e (fW e))(z:Cop e r):∀(n:Nat) (p:List Rat),(∃x,aI p x≠0)->(∀x,k*(aI p x*aI p x)=aI e x^(2*n+1)*aI r x)->∃a:List Rat,∀x,aI a x*aI e x=1:=by
 intro n;induction n with
 |zero=>
  intro p g h
  obtain⟨d,f⟩:=dy4 m (p:=p) ⟨r.map (fun y=>1/k*y),fun x=>by
   have:=h x;rw[azP,bA,azH,azM,azF] at this;rw[iI];have t:1/k*k=1:=gW o;have:aI p x*aI p x=1/k*(k*(aI p x*aI p x)):=by grind
   show aI p x*aI p x=_
   rw[this,h x];rw[azP,bA,azH,azM,azF];grind⟩ g
  obtain⟨y,i⟩:=g;have j:∃x,aI e x≠0:=⟨y,fun k=>i (by rw[f,k,dU])⟩
  have v:∀x,aI ((fG d (fG d e)).map (fun y=>k*y)) x=aI r x:=kC j (fun x=>by
   have:=h x;rw[azP,bA,azH,azM,azF,f] at this;rw[iI,fY,fY];grind)
  obtain⟨a,b,w⟩:=z;refine⟨j0 a (fG b ((fG d d).map (fun y=>k*y))),fun x=> ?_⟩;have l:=w x;rw[<-v,iI,fY,fY] at l;rw[lG,fY,iI,fY];grind
 |succ n A=>
  intro p g h;have s:∀x,aI e x^(2*(n+1)+1)=aI e x^(2*n+1)*aI e x*aI e x:=fun x=>by
   rw[show 2*(n+1)+1=2*n+1+1+1 by omega,azH,azH]
  obtain⟨d,f⟩:=dy4 m (p:=p) ⟨(fG (fG (fJ e (2*n+1)) e) r).map (fun y=>1/k*y),fun x=>by
   have t:1/k*k=1:=gW o;have u:aI p x*aI p x=1/k*(k*(aI p x*aI p x)):=by grind
   show aI p x*aI p x=_
   rw[u,h x,s,iI,fY,fY,t6];grind⟩ g
  obtain⟨y,i⟩:=g
  have j:∃x,aI (fG e e) x≠0:=⟨y,fun k=>i (by
   rw[fY] at k;rw[f,(Rat.mul_eq_zero.1 k).elim id id,dU])⟩
  refine A d ⟨y,fun k=>i (by rw[f,k,aqQ])⟩ (fun x=> ?_)
  have l:=kC (c:=fG e e) (p:=(fG d d).map (fun y=>k*y)) (q:=fG (fJ e (2*n+1)) r) j (fun x=>by
   rw[fY,iI,fY,fY,t6];have:=h x;rw[s,f] at this;grind) x
  rwa [iI,fY,fY,t6] at l
def big(t y:Rat):Prop:=t<=y∨y<= -t
def big.mono{u:Rat}(h:big t y)(a:u<=t):big u y:=by rcases h with h|h;exact .inl (by grind);exact .inr (by grind)
def DM(h:¬big t y): -t<y∧y<t:=by unfold big at h;constructor<;>grind
def axH(t y:Rat):big t y∨ -t<y∧y<t:=by
 by_cases h:big t y
 ·exact .inl h
 ·exact .inr (DM h)
def uR(R M:Rat)(F:Rat->Rat):Prop:=∀x y,ab x R->ab y R->x<=y->ab (F y-F x) (M*(y-x))
def sF(x:Rat)(F:Rat->Rat):Int:=(F x).num.sign
def yK{F:Rat->Rat}(h:0<F x):sF x F=1:=(fS _).1 h
def yL{F:Rat->Rat}(h:F x<0):sF x F= -1:=(fS _).2 h
def axI{F:Rat->Rat}(h:F x=0):sF x F=0:=by unfold sF;rw[h];rfl
def uS(x:Rat)(F:Rat->Rat):F x<0∧sF x F= -1∨F x=0∧sF x F=0∨0<F x∧sF x F=1:=by
 rcases iY (F x) with h|h|h
 ·exact .inl ⟨h,yL h⟩
 ·exact .inr (.inl ⟨h,axI h⟩)
 ·exact .inr (.inr ⟨h,yK h⟩)
inductive Chn(R Qb D e:Rat):(Rat->Rat)->List (Rat->Rat)->Prop
 |last {F:Rat->Rat} (h:∀x,ab x R->big e (F x)):Chn R Qb D e F []
 |two {F G:Rat->Rat} (t:Chn R Qb D e G []):Chn R Qb D e F [G]
 |step {F G H:Rat->Rat} {l:List (Rat->Rat)} (h:∀x,ab x R->∃q c d,ab q Qb∧1<=c∧c<=D∧1<=d∧d<=D∧c*F x=q*G x-d*H x) (t:Chn R Qb D e G (H :: l)):Chn R Qb D e F (G :: H :: l)
def axJ{u c g:Rat}(l:0<u)(v:u*(b+D)=t)(o:0<=t)(j:ab q b)(p:1<=c)(r:1<=d)(s:d<=D)(i:ab g u)(e:c*f=q*g-d*h):(t<=f->h<= -u)∧(f<= -t->u<=h):=by
 have x:=(j.mul i).1;have y:=(j.mul i).2;have w:=cA (show 0<=D-d by grind) (az6 l);refine⟨fun k=> ?_,fun k=> ?_⟩
 ·by_cases a:h<= -u
  ·exact a
  ·have m:=azA (show 0<d by grind) (show 0<h+u by grind);have n:=cA (show 0<=c-1 by grind) (show 0<=f by grind);grind
 ·by_cases a:u<=h
  ·exact a
  ·have m:=azA (show 0<d by grind) (show 0<u-h by grind);have n:=cA (show 0<=c-1 by grind) (show 0<= -f by grind);grind
def axK{a c g:Rat}(j:0<t)(n:0<=a)(i:ab q a)(o:1<=c)(p:c<=D)(r:1<=d)(b:ab g t)(l: -t<f)(m:f<t)(e:c*f=q*g-d*h):¬big (t*(a+D)) h:=by
 have x:=(i.mul b).1;have y:=(i.mul b).2;have s:=cA (show 0<=D-c by grind) (az6 j);have u:=azA (show 0<c by grind) (show 0<t-f by grind);have v:=azA (show 0<c by grind) (show 0<t+f by grind);have w:=cA (az6 j) (show 0<=a+D by grind);intro k;rcases k with k|k
 ·have:=cA (show 0<=d-1 by grind) (show 0<=h by grind);grind
 ·have:=cA (show 0<=d-1 by grind) (show 0<= -h by grind);grind
def hJ(h:1<=Z)(n:Nat):1<=Z^n:=by
 induction n with
 |zero=>rw[azM];exact byB
 |succ n a=>
  rw[azH];have:=cA (show 0<=Z^n-1 by grind) (show 0<=Z-1 by grind);grind
def kP(l s:Int)(t:List Int)(h:s≠0):aY l (s :: t)=(if l≠0∧s≠l then 1 else 0)+aY s t:=by
 show(if s=0 then _ else _)=_
 rw[if_neg h]
def DO(l:Int)(t:List Int):aY l (0 :: t)=aY l t:=by show(if (0:Int)=0 then _ else _)=_;rw[if_pos rfl]
def LG{s g:Int}(b:s=1∨s= -1)(a:g=1∨g=0∨g= -1)(t:List Int):aY s (g :: -s :: t)=aY s (-s :: t):=by
 rcases a with rfl|rfl|rfl<;>rcases b with rfl|rfl<;>simp[aY]
def uT{a W:Rat}{F:Rat->Rat}(h:big t (F a))(d:ab (F b-F a) W)(g:W<t)(f:0<t):sF a F=sF b F∧(t<=F a∧sF a F=1∨F a<= -t∧sF a F= -1):=by
 have i:=d.1;have j:=d.2;rcases h with h|h
 ·have c:=yK (x:=a) (F:=F) (by grind);have e:=yK (x:=b) (F:=F) (by grind);exact⟨by omega,.inl ⟨h,c⟩⟩
 ·have c:=yL (x:=a) (F:=F) (by grind);have e:=yL (x:=b) (F:=F) (by grind);exact⟨by omega,.inr ⟨h,c⟩⟩
def LH{x y b:Int}{t:List Int}(c:x=1∨x= -1)(e:x=y)(h:aY x t=aY x u):aY b (x :: t)=aY b (y :: u):=by
 subst e;have a:x≠0:=by omega
 rw[kP _ _ _ a,kP _ _ _ a,h]
def LI(x:Rat)(F:Rat->Rat):sF x F=1∨sF x F=0∨sF x F= -1:=by
 rcases uS x F with h|h|h
 ·exact .inr (.inr h.2)
 ·exact .inr (.inl h.2)
 ·exact .inl h.2
def LJ{e:Rat}(hQ:0<=f)(hD:1<=D){a:Rat}(o:ab a R)(z:ab b R)(y:a<=b)(V:0<=M):∀(n:Nat) (F:Rat->Rat) (l:List (Rat->Rat)),l.length<=n->Chn R f D e F l->(∀G∈F :: l,uR R M G)->∀t,0<t->t<=e->M*(b-a)*(f+D)^l.length<t->big t (F a)->
  ∀s,aY s ((F :: l).map (sF a))=aY s ((F :: l).map (sF b)):=by
 have x:0<=M*(b-a):=cA V (by grind);intro n;induction n with
 |zero=>
  intro F l C Q k t i E B A s;obtain rfl:l=[]:=bX (by omega);obtain⟨w,L⟩:=uT A (k F (by simp) a b o z y) (by rwa [azS,azM,aqP] at B) i;exact LH (by omega) w rfl
 |succ n I=>
  intro F l C Q k t i E B A s;have hp:=hJ (Z:=f+D) (by grind) l.length;have P:M*(b-a)<t:=by
   have:=cA x (show 0<=(f+D)^l.length-1 by grind);grind
  obtain⟨w,L⟩:=uT A (k F (by simp) a b o z y) P i;rw[fM,fM];refine LH (by omega) w ?_;cases Q with
  |last h=>rfl
  | @two _ G v=>
   cases v with
   |last h=>exact I G [] (by simp) (.last h) (fun g j=>k g (by simp at j;simp[j])) t i E (by rw[azS,azM,aqP];exact P) ((h a o).mono E) _
  | @step _ G H l h v=>
   have T:0<f+D:=by grind
   have ae:t/(f+D)*(f+D)=t:=gW (by grind);have m:0<t/(f+D):=by rw[azE];exact azA i (Rat.inv_pos.2 T)
   generalize t/(f+D)=u at *;have ah:u<=t:=by have:=cA (az6 m) (show 0<=f+D-1 by grind);grind
   rw[eG,azH] at B;have S:M*(b-a)*(f+D)^(H :: l).length<u:=by
    by_cases ad:M*(b-a)*(f+D)^(H :: l).length<u
    ·exact ad
    ·have:=cA (show 0<=M*(b-a)*(f+D)^(H :: l).length-u by grind) (az6 T);grind
   rcases axH u (G a) with hg|⟨af,ag⟩
   ·exact I G (H :: l) (by rw[eG] at C;omega) v (fun g j=>k g (j8 _ j)) u m (by grind) S hg _
   ·obtain⟨q,c,d,hq,W, -,Y,ac,U⟩:=h a o;have tH:Chn R f D e H l:=by
     cases v with
     |two t=>exact t
     |step _ t=>exact t
    obtain⟨z1,z2⟩:=axJ m ae (az6 i) hq W Y ac (show ab (G a) u from⟨by grind,by grind⟩) U;have p:big u (H a)∧sF a H= -sF a F:=by
     rcases L with ⟨J,K⟩|⟨J,K⟩
     ·have:=z1 J;exact⟨.inr this,by rw[K,yL (by grind)]⟩
     ·have:=z2 J;exact⟨.inl this,by rw[K,yK (by grind)];rfl⟩
    have X:M*(b-a)*(f+D)^l.length<u:=by
     rw[eG,azH] at S;have:=cA (cA x (show 0<=(f+D)^l.length by have:=hJ (Z:=f+D) (by grind) l.length;grind)) (show 0<=f+D-1 by grind);grind
    have O:∀g∈H :: l,uR R M g:=fun g j=>k g (j8 _ (j8 _ j));have r:=I H l (by rw[eG,eG] at C;omega) tH O u m (by grind) X p.1 (sF a F)
    have N:=(uT p.1 (O H (by simp) a b o z y) (by
     have:=hJ (Z:=f+D) (by grind) l.length;have:=cA x (show 0<=(f+D)^l.length-1 by grind);grind) m).1
    rw[fM,fM,<-N,p.2] at r;rw[fM,fM,fM,fM,<-N,p.2,LG (by omega) (LI a G),LG (by omega) (LI b G)];exact r
def axL{a e:Rat}(r:0<=a)(C:1<=D)(m:ab x R){F:Rat->Rat}{l:List (Rat->Rat)}(h:Chn R a D e F l):∀t,0<t->t*(a+D)^l.length<=e->big t (F x)∨∃G n,l=G :: n∧big t (G x):=by
 induction h with
 |last h=>intro t b f;rw[azS,azM,aqP] at f;exact .inl ((h x m).mono f)
 | @two F G t j=>
  intro t b f;have g:=cA (az6 b) (show 0<=a+D-1 by grind);have:(a+D)^[G].length=a+D:=by rw[iJ,azH,azM,azF]
  rw[this] at f;rcases j t b (by rw[azS,azM,aqP];grind) with h|⟨_,_,h,_⟩
  ·exact .inr ⟨G,[],rfl,h⟩
  ·cases h
 | @step F G H l h t j=>
  intro t b f;have E:=cA (az6 b) (show 0<=a+D-1 by grind);rw[eG,azH] at f;have A:0<t*(a+D):=azA b (by grind);by_cases g:big t (F x)
  ·exact .inl g
  ·by_cases i:big t (G x)
   ·exact .inr ⟨G,_,rfl,i⟩
   ·exfalso;have o:=DM g;have I:=DM i;obtain⟨q,c,d,y,s,u,v, -,p⟩:=h x m;have z:=axK b r y s u v (show ab (G x) t from⟨by grind,by grind⟩) o.1 o.2 p;rcases j (t*(a+D)) A (by grind) with k|⟨B,n,w,k⟩
    ·exact i (k.mono (by grind))
    ·injection w with hl1 hl2;subst hl1;exact z k
def Lc(V:Rat->Nat)(s:Rat->Int)(a b:Rat):Prop:=(V a=V b∧s b≠0∧(s a≠0->s b=s a))∨(V a=V b+1∧s a≠0∧s b≠s a)
def axM{e g:Rat}(K:0<=f)(I:1<=D)(he:0<e)(A:0<=M)(W:0<=g){F:Rat->Rat}{l:List (Rat->Rat)}(L:Chn R f D e F l)(J:∀G∈F :: l,uR R M G)(hT:∀G c,l=G :: c->∀x y,ab x R->ab y R->∃m r,1<=m∧ab r g∧F y=F x+(y-x)*(m*G x+(y-x)*r))(hd:0<d)(ac:d*((M+g+1)*(f+D)^l.length)*(2*(f+D)^l.length)<=e):
  ∀a b,ab a R->ab b R->a<b->b-a<=d->Lc (fun x=>aY 0 ((F :: l).map (sF x))) (fun x=>sF x F) a b:=by
 have hp:=hJ (Z:=f+D) (by grind) l.length;obtain⟨Z,v⟩:∃Z,(f+D)^l.length=Z:=⟨_,rfl⟩;rw[v] at hp ac;have n:0<Z:=by grind
 obtain⟨t,p,ht⟩:∃t,0<t∧t*Z=e:=⟨e/Z,by rw[azE];exact azA he (Rat.inv_pos.2 n),gW (by grind)⟩;have ae:t<=e:=by have:=cA (az6 p) (show 0<=Z-1 by grind);grind
 have aj:0<(M+g+1)*Z:=azA (by grind) n;have ak:d*((M+g+1)*Z)<=t/2:=by
  by_cases h:d*((M+g+1)*Z)<=t/2
  ·exact h
  ·have:=azA (show 0<d*((M+g+1)*Z)-t/2 by grind) n;grind
 intro a b o w ai an;have al:(b-a)*((M+g+1)*Z)<=t/2:=by
  have:=cA (show 0<=d-(b-a) by grind) (az6 aj);grind
 have n1:=cA (cA W (az6 n)) (show 0<=b-a by grind);have n2:=cA (cA A (az6 n)) (show 0<=b-a by grind);have n3:=cA (az6 n) (show 0<=b-a by grind);have ah:M*(b-a)*Z<t:=by grind
 have ag:g*(b-a)<t:=by
  have:=cA (cA W (show 0<=b-a by grind)) (show 0<=Z-1 by grind);grind
 have Y:0<=M*(b-a):=cA A (by grind);have X:M*(b-a)<t:=by
  have:=cA Y (show 0<=Z-1 by grind);grind
 have B:a<=b:=az6 ai;rcases axL K I o L t p (by rw[v,ht];exact byB) with h|⟨G,c,rfl,h⟩
 ·have T:=LJ K I o w B A l.length F l aE L J t p ae (by rw[v];exact ah) h 0;obtain⟨U,h3⟩:=uT h (J F (by simp) a b o w B) X p;exact .inl ⟨T,by show sF b F≠0;omega,fun _=>U.symm⟩
 ·have tG:Chn R f D e G c:=by
   cases L with
   |two t=>exact t
   |step _ t=>exact t
  have V:∀C∈G :: c,uR R M C:=fun C af=>J C (j8 _ af);rw[eG,azH] at v
  have N:=LJ K I o w B A c.length G c aE tG V t p ae (by
   have T:=hJ (Z:=f+D) (by grind) c.length;have U:=cA (cA Y (show 0<=(f+D)^c.length by grind)) (show 0<=f+D-1 by grind);have h3:M*(b-a)*Z=M*(b-a)*(f+D)^c.length+M*(b-a)*(f+D)^c.length*(f+D-1):=by rw[<-v];grind
   clear ag al n1 n2 n3 hd ak ac;grind) h
  obtain⟨z,g2⟩:=uT h (V G (by simp) a b o w B) X p;obtain⟨m,r,ao,hr,eF⟩:=hT G c rfl a b o w;have ad:ab ((b-a)*r) (g*(b-a)):=by
   have:=hr.mul (show ab (b-a) (b-a) from⟨by grind,by grind⟩);rw[byD];exact this
  have r1:=ad.1;have r2:=ad.2;have k:=N 0;have Q:=N (sF a F);have S:=N (sF b F);unfold Lc;show(aY 0 ((F :: G :: c).map (sF a))=aY 0 ((F :: G :: c).map (sF b))∧sF b F≠0∧(sF a F≠0->sF b F=sF a F))∨(aY 0 ((F :: G :: c).map (sF a))=aY 0 ((F :: G :: c).map (sF b))+1∧sF a F≠0∧sF b F≠sF a F)
  rw[fM,fM];rw[fM,fM] at k Q S;rw[fM,fM];have E:sF a G≠0:=by omega
  have H:sF b G≠0:=by omega
  rw[kP _ _ _ E,kP _ _ _ H] at k Q S;rw[if_neg (by simp),if_neg (by simp)] at k;have am:(0<F b-F a∧sF a G=1)∨(F b-F a<0∧sF a G= -1):=by
   rcases g2 with ⟨k1,O⟩|⟨k1,O⟩
   ·have:=cA (show 0<=m-1 by grind) (show 0<=G a by grind);have:=azA (show 0<b-a by grind) (show 0<m*G a+(b-a)*r by grind);exact .inl ⟨by grind,O⟩
   ·have:=cA (show 0<=m-1 by grind) (show 0<= -(G a) by grind);have:=azA (show 0<b-a by grind) (show 0< -(m*G a+(b-a)*r) by grind);exact .inr ⟨by grind,O⟩
  have va:aY 0 (sF a F :: sF a G :: c.map (sF a))=(if sF a F≠0∧sF a G≠sF a F then 1 else 0)+aY (sF a G) (c.map (sF a)):=by
   by_cases u:sF a F=0
   ·rw[u,DO,kP _ _ _ E]
   ·rw[kP _ _ _ u,kP _ _ _ E,if_neg (by simp),bA]
  have vb:aY 0 (sF b F :: sF b G :: c.map (sF b))=(if sF b F≠0∧sF b G≠sF b F then 1 else 0)+aY (sF b G) (c.map (sF b)):=by
   by_cases u:sF b F=0
   ·rw[u,DO,kP _ _ _ H]
   ·rw[kP _ _ _ u,kP _ _ _ H,if_neg (by simp),bA]
  rw[va,vb];rcases am with ⟨m1,P⟩|⟨m1,P⟩
  ·rw[P] at z k⊢;rw[<-z] at k⊢;rcases uS a F with ⟨q,i⟩|⟨q,i⟩|⟨q,i⟩<;>rcases uS b F with ⟨s,j⟩|⟨s,j⟩|⟨s,j⟩<;>rw[i,j]<;>first|(exfalso;grind)|(simp;omega)
  ·rw[P] at z k⊢;rw[<-z] at k⊢;rcases uS a F with ⟨q,i⟩|⟨q,i⟩|⟨q,i⟩<;>rcases uS b F with ⟨s,j⟩|⟨s,j⟩|⟨s,j⟩<;>rw[i,j]<;>first|(exfalso;grind)|(simp;omega)
def axE(n:Nat):(n:Rat)<=2^n:=by
 induction n with
 |zero=>rw[azM];decide
 |succ n a=>
  rw[azH,Rat.natCast_add,show((1:Nat):Rat)=1 from rfl];have:=hJ (Z:=2) (by decide) n;grind
def axF(q:Rat):∃n:Nat,q<=(n:Rat):=by
 refine⟨q.num.natAbs,?_⟩;rcases iY q with h|h|h
 ·have:(0:Rat)<=(q.num.natAbs:Rat):=by exact_mod_cast dC _
  grind
 ·have:(0:Rat)<=(q.num.natAbs:Rat):=by exact_mod_cast dC _
  grind
 ·have f:(1:Rat)<=((q.den:Int):Rat):=by
   have:(1:Int)<=(q.den:Int):=by have:=q.den_pos;omega
   exact_mod_cast this
  have c:((q.den:Int):Rat)≠0:=by grind
  have e:q*((q.den:Int):Rat)=((q.num:Int):Rat):=by
   have a:=oU q;rw[<-aq3] at a;have b:((q.num:Int):Rat)/((q.den:Int):Rat)*((q.den:Int):Rat)=((q.num:Int):Rat):=gW c;rw[<-a] at b;exact b
  have hn:((q.num.natAbs:Nat):Rat)=((q.num:Int):Rat):=by
   have:=pK h;rw[<-aq3,show((q.num.natAbs:Nat):Int)=q.num by omega]
  rw[hn,<-e];have:=cA (az6 h) (show 0<=((q.den:Int):Rat)-1 by grind);grind
def axG(a:0<d)(L:Rat):∃n:Nat,L<=d*2^n:=by
 obtain⟨n,hn⟩:=axF (L/d);have b:=axE n;refine⟨n,?_⟩;have c:L/d*d=L:=gW (by grind);have:=cA (show 0<=2^n-L/d by grind) (az6 a);grind
structure Vs(R d:Rat)(V:Rat->Nat)(s:Rat->Int):Prop where
 d0:0<d
 loc:∀a b,ab a R->ab b R->a<b->b-a<=d->Lc V s a b
section
variable {R d:Rat}{V:Rat->Nat}{s:Rat->Int}(h:Vs R d V s)
include h
def Vs.halves{P:Rat->Rat->Prop}(l:∀a b,ab a R->ab b R->a<b->b-a<=d->P a b)(m:∀a b c,ab a R->ab b R->ab c R->a<c->c<b->P a c->P c b->P a b):∀a b,ab a R->ab b R->a<b->P a b:=by
 have o:∀(n:Nat) a b,ab a R->ab b R->a<b->b-a<=d*2^n->P a b:=by
  intro n;induction n with
  |zero=>intro a b e f g i;exact l a b e f g (by rw[azM,aqP] at i;exact i)
  |succ n k=>
   intro a b e f g i;rw[azH] at i;have p:=e.1;have q:=e.2;have r:=f.1;have t:=f.2
   have j:ab ((a+b)/2) R:=⟨by grind,by grind⟩;exact m a b ((a+b)/2) e f j (by grind) (by grind) (k _ _ e j (by grind) (by grind)) (k _ _ j f (by grind) (by grind))
 intro a b e f g;obtain⟨n,hn⟩:=axG h.d0 (b-a);exact o n a b e f g hn
def Vs.mono:∀a b,ab a R->ab b R->a<b->V b<=V a:=by
 refine h.halves (fun a b g j i k=> ?_) (fun a b c _ _ _ _ _ e f=>aH f e);rcases h.loc a b g j i k with ⟨e, -⟩|⟨e, -⟩<;>omega
def Vs.same:∀a b,ab a R->ab b R->a<b->V a=V b->s b≠0∧(s a≠0->s b=s a):=by
 refine h.halves (fun a b e f q u p=> ?_) (fun a b c e f g r t n o p=> ?_)
 ·rcases h.loc a b e f q u with ⟨-,v,w⟩|⟨k, -⟩
  ·exact⟨v,w⟩
  ·omega
 ·have x:=h.mono a c e g r;have y:=h.mono c b g f t;obtain⟨i,j⟩:=n (by omega);obtain⟨l,m⟩:=o (by omega);exact⟨l,fun k=>(m i).trans (j k)⟩
def Vs.none:∀a b,ab a R->ab b R->a<b->(∀x y,a<=x->x<y->y<=b->s x≠0->s y=s x)->V a=V b:=by
 refine h.halves (fun a b g j i p e=> ?_) (fun a b c g j u t v n o e=> ?_)
 ·rcases h.loc a b g j i p with ⟨k, -⟩|⟨-,q,r⟩
  ·exact k
  ·exact absurd (e a b byB i byB q) r
 ·rw[n (fun x y l f m=>e x y l f (by grind)),o (fun x y l f m=>e x y (by grind) f m)]
end
inductive Ex(V:Rat->Nat)(s:Rat->Int):Rat->Rat->List (Rat×Rat)->Prop
 |none {a b:Rat} (h:V a=V b):Ex V s a b []
 |hit {a b:Rat} (h:V a=V b+1) (hb:s b=0):Ex V s a b [(b,b)]
 |one {a b:Rat} (h:V a=V b+1) (hb:s b≠0) (ha:s a≠0):Ex V s a b [(a,b)]
 |split {a b:Rat} {l m:List (Rat×Rat)} (h:V b<V a) (h':V a=V b+1->s b≠0∧s a=0) (hl:Ex V s a ((a+b)/2) l) (hm:Ex V s ((a+b)/2) b m):Ex V s a b (l++m)
def Vs.ex{V:Rat->Nat}{s:Rat->Int}(h:Vs R d V s):∀(n:Nat) a b,ab a R->ab b R->a<b->b-a<=d*2^n->∃l,Ex V s a b l:=by
 intro n;induction n with
 |zero=>
  intro a b c e o j;rw[azM,aqP] at j;rcases h.loc a b c e o j with ⟨i, -⟩|⟨i,v, -⟩
  ·exact⟨_,.none i⟩
  ·by_cases p:s b=0
   ·exact⟨_,.hit i p⟩
   ·exact⟨_,.one i p v⟩
 |succ n r=>
  intro a b c e o j;have D:=h.mono a b c e o;by_cases u:V a=V b
  ·exact⟨_,.none u⟩
  ·by_cases f:V a=V b+1∧s b=0
   ·exact⟨_,.hit f.1 f.2⟩
   ·by_cases g:V a=V b+1∧s a≠0
    ·exact⟨_,.one g.1 (fun k=>f ⟨g.1,k⟩) g.2⟩
    ·have z:=c.1;have A:=c.2;have B:=e.1;have C:=e.2
     have q:ab ((a+b)/2) R:=⟨by grind,by grind⟩;rw[azH] at j;obtain⟨l,w⟩:=r _ _ c q (by grind) (by grind);obtain⟨m,x⟩:=r _ _ q e (by grind) (by grind);exact⟨_,.split (by omega) (fun k=>⟨fun y=>f ⟨k,y⟩,by by_cases t:s a=0;exact t;exact absurd ⟨k,t⟩ g⟩) w x⟩
def Ex.unique{V:Rat->Nat}{s:Rat->Int}{a:Rat}(h:Ex V s a b l):∀{e},Ex V s a b e->l=e:=by
 induction h with
 |none h=>intro e c;cases c with
  |none=>rfl
  |hit k=>omega
  |one k=>omega
  |split k=>omega
 |hit h f=>intro e c;cases c with
  |none=>omega
  |hit=>rfl
  |one _ k=>exact absurd f k
  |split _ k=>exact absurd f (k h).1
 |one h f j=>intro e c;cases c with
  |none=>omega
  |hit _ k=>exact absurd k f
  |one=>rfl
  |split _ k=>exact absurd (k h).2 j
 |split h g r t m n=>intro e c;cases c with
  |none=>omega
  |hit k i=>exact absurd i (g k).1
  |one k i o=>exact absurd (g k).2 o
  |split _ _ p q=>rw[m p,n q]
def DK(l:List Rat){B:Rat}(m:0<=B)(s:0<=R)(h:∀q∈l,ab q B):(∀x,ab x R->ab (aI l x) (B*(R+2)^l.length))∧(∀x,ab x R->ab (bM l x) (B*(R+2)^l.length))∧(∀x y,ab x R->ab y R->x<=y->ab (aI l y-aI l x) (B*(R+2)^l.length*(y-x)))∧(∀x y,ab x R->ab y R->∃r,ab r (B*(R+2)^l.length)∧aI l y=aI l x+(y-x)*(bM l x+(y-x)*r)):=by
 induction l with
 |nil=>
  have i:ab 0 (B*(R+2)^([]:List Rat).length):=by
   rw[azS,azM,aqP];constructor<;>grind
  refine⟨fun x _=>i,fun x _=>i,fun x y _ _ n=> ?_,fun x y _ _=>⟨0,i,by show(0:Rat)=0+(y-x)*(0+(y-x)*0);grind⟩⟩;show ab (0-0) _
  rw[azS,azM,aqP];have:=cA m (show 0<=y-x by grind);constructor<;>grind
 |cons a l z=>
  obtain⟨d,f,j,k⟩:=z (fun q v=>h q (j8 _ v));have t:=h a iC;have u:=hJ (Z:=R+2) (by grind) l.length;rw[eG,azH];obtain⟨W,g⟩:∃W,B*(R+2)^l.length=W:=⟨_,rfl⟩;have D:B<=W:=by
   have:=cA m (show 0<=(R+2)^l.length-1 by grind);grind
  rw[<-azC,g];rw[g] at d f j k;clear g u;have E:0<=W*R:=cA (by grind) s;have e:W*(R+2)=W*R+W+W:=by grind
  rw[e];refine⟨fun x b=> ?_,fun x b=> ?_,fun x y b c n=> ?_,fun x y b c=> ?_⟩
  ·rw[gV];exact(((d x b).mul b).add t).mono (by grind)
  ·show ab (bM l x*x+aI l x) _
   exact(((f x b).mul b).add (d x b)).mono (by grind)
  ·have o:aI (a :: l) y-aI (a :: l) x=(aI l y-aI l x)*y+aI l x*(y-x):=by rw[gV,gV];grind
   rw[o];have A:=(j x y b c n).mul c;have C:ab (aI l x*(y-x)) (W*(y-x)):=(d x b).mul ⟨by grind,by grind⟩;have F:=cA (show 0<=W by grind) (show 0<=y-x by grind);exact(A.add C).mono (by grind)
  ·obtain⟨r,w,p⟩:=k x y b c;refine⟨r*y+bM l x,((w.mul c).add (f x b)).mono (by grind),?_⟩;show aI l y*y+a=aI l x*x+a+(y-x)*(bM l x*x+aI l x+(y-x)*(r*y+bM l x))
   rw[p];grind
def wq(k:Nat):Rat:=(((2:Int)^(64*k):Int):Rat)
def yJ{n:Int}(h:nl n.natAbs<=k):ab (n:Rat) (wq k):=by
 have a:=aZ (cyD n.natAbs) (cO (by unfold BN;decide) h);have b:(n.natAbs:Int)<(2:Int)^(64*k):=by
  have e:((2:Nat)^(64*k):Nat)=BN^k:=by rw[azL];rfl
  have:((n.natAbs:Nat):Int)<((BN^k:Nat):Int):=by exact_mod_cast a
  rw[<-e] at this;exact_mod_cast this
 unfold wq;constructor
 ·have: -((2:Int)^(64*k))<=n:=by omega
  rw[<-bx4];exact_mod_cast this
 ·have:n<=(2:Int)^(64*k):=by omega
  exact_mod_cast this
def uQ(a:List Int)(x:Rat):aX a x=aI (aT 1 a) x:=rfl
def DL(h:∀n∈a,nl n.natAbs<=k):∀q∈aT 1 a,ab q (wq k):=fun q b=>by
 obtain⟨n,hn,rfl⟩:=List.mem_map.1 b;rw[azF];exact yJ (h n hn)
def axC{b:List Int}(h:StT K a b c):∃z,(a :: c).getLast?=some z∧DvE (aX a) (aT 1 z)∧DvE (aX b) (aT 1 z):=by
 induction h with
 |done a=>exact⟨a,rfl,⟨[1],fun x=>by rw[uQ];show _=(0*x+1)*_;grind⟩,⟨[],fun x=>by show(0:Rat)=0*_;grind⟩⟩
 | @step a b q r m c A h t w=>
  obtain⟨z,s,f,n⟩:=w;refine⟨z,by rw[bxY];exact s,?_,f⟩;have o:=gJ h.m0;have p:DvE (aX r) (aT 1 z):=by
   obtain⟨u,d⟩:=n;by_cases j:0<m
   ·rw[if_pos j] at d;refine⟨u.map (fun y=>(-((bC r:Int):Rat))*y),fun x=> ?_⟩;have e:=d x;have l:aX ((aS r).map (·*(-1))) x= -1*aX (aS r) x:=DR (c:= -1) (fun i=>by rw[mG (·*(-1)) (by decide),eJ];have:((-1:Int):Rat)= -1:=rfl;rw[this];grind) x;rw[pR,iI];rw[l] at e;grind
   ·rw[if_neg j] at d;refine⟨u.map (fun y=>((bC r:Int):Rat)*y),fun x=> ?_⟩;have e:=d x;rw[pR,iI];grind
  obtain⟨v,hv⟩:=(p.lin f 1 (aT 1 q)).congr (g:=fun x=>(m:Rat)*aX a x) (fun x=>by
   have:=sH h.id_ x;rw[this,uQ q];grind)
  refine⟨v.map (fun y=>(1/(m:Rat))*y),fun x=> ?_⟩;have e:=hv x;have k:(m:Rat)*aX a x=aI v x*aI (aT 1 z) x:=e;rw[iI];have:(1/(m:Rat))*((m:Rat)*aX a x)=aX a x:=by rw[<-azC,gW o,azF]
  rw[<-this,k];grind
def axD(g:z≠[])(j:aN z)(h:∀i,1<=i->cf z i=0)(x:Rat):big 1 (aX z x):=by
 have c:cf z (z.length-1)≠0:=(dR g).1 j;have d:cf z 0≠0:=by
  by_cases f:z.length-1=0
  ·rwa [f] at c
  ·exact absurd (h _ (by omega)) c
 have e:aX z x=((cf z 0:Int):Rat):=by
  rw[uQ,oT (b:=[((cf z 0:Int):Rat)]) (fun i=> ?_)]
  ·show(0:Rat)*x+_=_;grind
  ·rw[dS,azF];cases i with
   |zero=>rfl
   |succ i=>rw[h (i+1) (by omega),bV (l:=[((cf z 0:Int):Rat)]) (by simp)];rfl
 rw[e];rcases Int.lt_or_gt_of_ne d with h|h
 ·exact .inr (by
   have:cf z 0<= -1:=by omega
   have a:((cf z 0:Int):Rat)<=((-1:Int):Rat):=by exact_mod_cast this
   exact a)
 ·exact .inl (by
   have:1<=cf z 0:=by omega
   have a:((1:Int):Rat)<=((cf z 0:Int):Rat):=by exact_mod_cast this
   exact a)
def czI{xs ys q:List Int}{m:Int}(h:YL q ys r xs m 4=true)(g:xs.length<=4∧r.length<=4∧q.length+ys.length<=5)(b:m=1)(d:r.length<ys.length)(e:aN q)(f:aN r)(c:q.length<=xs.length)(k:∀n∈q++r,nl n.natAbs<=1):PQRes xs ys 1 m q r:=by
 subst b;refine⟨fun i=> ?_,by decide,d,e,f,c,⟨0,dC _,by rw[Int.pow_zero]⟩,fun n hn=>k n (bzP _ hn),fun n hn=>k n (bzQ _ hn),cJ (m:=1) (by unfold BN;decide)⟩;by_cases a:i<4
 ·exact of_decide_eq_true ((List.all_eq_true.1 h) i (List.mem_range.2 a))
 ·rw[bV (by omega),bV (l:=r) (by omega),rG (m:=q.length) (n:=ys.length) (fun i a=>bV a) (fun i a=>bV a) (by omega)];rfl
def D4(h:n<4):nl n<=1:=cJ (m:=1) (by unfold BN;omega)
def Z4:Sqp 1 [-2,0,1] [-2,0,1]:=by
 refine⟨⟨[1],?_,by simp,oB rfl,rfl,rfl,fun i=>by rw[CO]⟩,by simp,oB rfl⟩;have e:aS (bB [-2,0,1])=[0,1]:=by decide
 rw[e]
 refine .step (q:=[0,1]) (r:=[-2]) (m:=1) (by decide) (czI (by decide) (by decide) rfl (by decide) (oB rfl) (oB rfl) (by decide) (fun n hn=>by
  simp at hn;rcases hn with rfl|rfl|rfl<;>exact D4 (by decide))) (.one (by decide))
def KQ:Cn 1 [-2,0,1] [-2,0,1] [[0,1],[1]]:=by
 refine⟨Z4,?_⟩;have e:aS (bB [-2,0,1])=[0,1]:=by decide
 rw[e]
 refine .step (q:=[0,1]) (r:=[-2]) (m:=1) (by decide) (czI (by decide) (by decide) rfl (by decide) (oB rfl) (oB rfl) (by decide) (fun n hn=>by
  simp at hn;rcases hn with rfl|rfl|rfl<;>exact D4 (by decide))) ?_
 have a:(if (0:Int)<1 then (aS [-2]).map (·*(-1)) else aS [-2])=[1]:=by decide
 rw[a]
 refine .step (q:=[0,1]) (r:=[]) (m:=1) (by decide) (czI (by decide) (by decide) rfl (by decide) (oB rfl) (fun x c=>by cases c) (by decide) (fun n hn=>by
  simp at hn;rcases hn with rfl|rfl<;>exact D4 (by decide))) ?_
 have b:(if (0:Int)<1 then (aS []).map (·*(-1)) else aS [])=[]:=by decide
 rw[b];exact .done _
def Z5:fF [-2,0,1] [[0,1],[1]] (-1) 0 1 0=2:=by decide
def Z6:aY 0 (([-2,0,1] :: [[0,1],[1]]).map (fun a=>aP a 0 (-4)))=2∧aY 0 (([-2,0,1] :: [[0,1],[1]]).map (fun a=>aP a 0 0))=1∧aY 0 (([-2,0,1] :: [[0,1],[1]]).map (fun a=>aP a 0 4))=0:=by decide
def Z7:aP [-2,0,1] 0 (-4)=1∧aP [-2,0,1] 0 0= -1∧aP [-2,0,1] 0 4=1:=by decide
inductive ExK(K:Nat)(D:Rat->Rat->Prop)(V:Rat->Nat)(s:Rat->Int):Rat->Rat->List (Rat×Rat)->Prop
 |none {a b:Rat} (h:V a<=V b):ExK K D V s a b []
 |hit {a b:Rat} (h:V a=V b+1) (hb:s b=0):ExK K D V s a b [(b,b)]
 |one {a b:Rat} (h:V a=V b+1) (hb:s b≠0) (ha:s a≠0):ExK K D V s a b [(a,b)]
 |split {a b:Rat} {l m:List (Rat×Rat)} (h:V b<V a) (h':V a=V b+1->s b≠0∧s a=0) (hd:D a b) (hk:RL K ((a+b)/2)) (hl:ExK K D V s a ((a+b)/2) l) (hm:ExK K D V s ((a+b)/2) b m):ExK K D V s a b (l++m)
def Pw(b:Rat)(n:Nat):Prop:=b<=(((2:Int)^n:Int):Rat)∧∀m,m<n->(((2:Int)^m:Int):Rat)<b
def ExK.mono{d:Nat}{D:Rat->Rat->Prop}{V:Rat->Nat}{s:Rat->Int}{a:Rat}(h:ExK K D V s a b l)(f:K<=d):ExK d D V s a b l:=by
 induction h with
 |none h=>exact .none h
 |hit h c=>exact .hit h c
 |one h c g=>exact .one h c g
 |split h e i j _ _ k m=>exact .split h e i (bU j f) k m
def y7(x y:Rat):Prop:=x.den=1∧y.den=1
def Z3{V:Rat->Nat}{s:Rat->Int}(h:V (-4)=2∧V 0=1∧V 4=0)(a:s (-4)≠0∧s 0≠0∧s 4≠0):ExK 1 y7 V s (-4) 4 [(-4,0),(0,4)]:=by
 have e:((-4:Rat)+4)/2=0:=by grind
 refine .split (l:=[(-4,0)]) (m:=[(0,4)]) (by omega) (fun b=>by omega) ⟨rfl,rfl⟩ (by rw[e];exact iG (by decide)) ?_ ?_
 ·rw[e];exact .one (by omega) a.2.1 a.1
 ·rw[e];exact .one (by omega) a.2.2 a.2.1
def yI(a:List Int)(x:Rat):sF x (aX a)=aP a 0 x:=by
 unfold sF aP;rw[if_pos rfl,JU,uQ];congr 2;exact oT (fun i=>by rw[dS,azF,mG (fun n:Int=>(n:Rat)) aq4]) x
def ax8(s:List Int)(c:List (List Int))(x:Rat):aY 0 ((aX s :: c.map aX).map (sF x))=aY 0 ((s :: c).map (fun a=>aP a 0 x)):=by
 rw[show(aX s :: c.map aX)=(s :: c).map aX from rfl,List.map_map];congr 1;exact by3 (fun a _=>yI a x)
def ax9(h:∀n∈r,nl n.natAbs<=K):ab (((bC r:Int)):Rat) (wq K):=yJ (by rw[dD];exact az4 h)
def LE(x:Rat)(m k:Nat):x^(m+k)=x^m*x^k:=by
 induction k with
 |zero=>rw[gQ,azM,aqP]
 |succ k a=>rw[Nat.add_succ,azH,azH,a,azC]
def pP{n:Int}(h:0<n):(1:Rat)<=(n:Rat):=by
 have:((1:Int):Rat)<=(n:Rat):=by exact_mod_cast (show(1:Int)<=n by omega)
 exact this
def axA{Q:Rat}(C:0<=R)(S:wq K*(R+2)^T<=Q){b:List Int}(h:StT K a b c):a.length<=T->b.length<=T->(∀z,(a :: c).getLast?=some z->∀x,big 1 (aX z x))->Chn R Q Q 1 (aX a) (c.map aX):=by
 have W:=hJ (Z:=R+2) (by grind) T;have l:0<=wq K:=by
  unfold wq;have:(0:Int)<=2^(64*K):=fP (aqH (by decide));exact_mod_cast this
 have X:wq K<=Q:=by
  have:=cA l (show 0<=(R+2)^T-1 by grind);grind
 have J:∀n,n<=T->(R+2)^n<=(R+2)^T:=fun n hn=>by
  obtain⟨k,G⟩:∃k,T=n+k:=⟨T-n,by omega⟩;rw[G,LE];have f:=hJ (Z:=R+2) (by grind) n;have B:=hJ (Z:=R+2) (by grind) k;have:=cA (show 0<=(R+2)^n by grind) (show 0<=(R+2)^k-1 by grind);grind
 induction h with
 |done a=>exact fun _ _ s=> .last (fun x _=>s a rfl x)
 | @step a b q r m c U h t y=>
  intro s H O;have w:(if 0<m then (aS r).map (·*(-1)) else aS r).length=r.length:=by
   split
   ·rw[cH,dF]
   ·exact dF r
  have o:=y H (by have:=h.r_lt;omega) (fun z P=>O z (by rw[bxY];exact P));have D:∀x,aX r x=((bC r:Int):Rat)*aX (aS r) x:=pR r;have F:r≠[]->0<(bC r:Int):=fun j=>by have:=nI h.r_trim j;omega
  have M:∀x,0<m->aX ((aS r).map (·*(-1))) x= -1*aX (aS r) x:=fun x _=>DR (c:= -1) (fun i=>by rw[mG (·*(-1)) (by decide),eJ];have:((-1:Int):Rat)= -1:=rfl;rw[this];grind) x;have hrel:r≠[]->∀x,ab x R->∃q c d,ab q Q∧1<=c∧c<=Q∧1<=d∧d<=Q∧c*aX a x=q*aX b x-d*aX (if 0<m then (aS r).map (·*(-1)) else aS r) x:=fun j x N=>by
   have e:=sH h.id_ x;have p:=F j;have V:=(ax9 h.br).2;have u:=yJ h.bm;have Y:=u.1;have m2:=u.2
   have v:ab (aX q x) Q:=((DK (aT 1 q) l C (DL h.bq)).1 x N).mono (by
    rw[fX];have f:=J q.length (by have:=h.q_len;omega);have:=cA l (show 0<=(R+2)^T-(R+2)^q.length by grind);grind)
   rw[D] at e;by_cases g:0<m
   ·rw[if_pos g,M x g];exact⟨aX q x,m,(bC r:Int),v,pP g,by grind,pP p,by grind,by grind⟩
   ·rw[if_neg g];have I:0< -m:=by have:=h.m0;omega
    have f:=pP I;rw[bx4] at f;exact⟨-aX q x, -(m:Rat),(bC r:Int),v.neg,f,by grind,pP p,by grind,by grind⟩
  rw[fM];obtain⟨A,L⟩:∃A,(if 0<m then (aS r).map (·*(-1)) else aS r)=A:=⟨_,rfl⟩;rw[L] at t hrel w;clear y;cases t with
  |done=>exact .two o
  |step E B t2=>
   refine .step (hrel (fun e=>E (bX ?_))) o;rw[w,e];rfl
def p2(j:Nat):Rat:=(((2:Int)^j:Int):Rat)
def jQ(i j:Nat):p2 (i+j)=p2 i*p2 j:=by unfold p2;rw[aqS,eJ]
def jZ(j:Nat):1<=p2 j:=pP (aqH (by decide))
def DG:p2 0=1:=rfl
def uP:p2 1=2:=rfl
def DH{i j:Nat}(h:i<=j):p2 i<=p2 j:=by
 obtain⟨k,rfl⟩:∃k,j=i+k:=⟨j-i,by omega⟩;rw[jQ];have:=cA (show 0<=p2 i by have:=jZ i;grind) (show 0<=p2 k-1 by have:=jZ k;grind);grind
def DI(i l:Nat):p2 i^l=p2 (i*l):=by
 induction l with
 |zero=>rw[azM,azP,DG]
 |succ l a=>rw[azH,a,Nat.mul_succ,jQ]
def DJ(k:Nat):wq k=p2 (64*k):=rfl
def LF(h:Cn K w s c)(v:aN w)(r:∀n∈aS (bB s),nl n.natAbs<=K):∀z,(s :: c).getLast?=some z->z≠[]∧aN z∧∀i,1<=i->cf z i=0:=fun z f=>by
 have t:=Q5 (lE h.sq.ts);have d:=h.st.mem t r;obtain⟨a,g,k,l⟩:=axC h.st;obtain rfl:a=z:=by rw[f] at g;injection g with e;exact e.symm
 obtain⟨u,p⟩:=l;have o:=axY h.sq v k ⟨u.map (fun y=>((bC (bB s):Int):Rat)*y),fun x=>by rw[pR,p,iI];grind⟩;have q:=List.mem_of_getLast? f;have j:a≠[]∧aN a:=by
  rcases List.mem_cons.1 q with e|b
  ·rw[e];exact⟨h.sq.ne,h.sq.ts⟩
  ·exact⟨(d _ b).1,(d _ b).2.1⟩
 refine⟨j.1,j.2,fun i m=> ?_⟩;have:=o i m;rw[dS,azF] at this;exact Rat.intCast_inj.1 this
def ex8{m0:Nat}(h:Cn K w s c)(tw:aN w)(q:s.length<=T+1)(C:∀n∈s,nl n.natAbs<=K)(O:∀n∈aS (bB s),nl n.natAbs<=K)(hn:(n+2)*(T+1)<=64*m0):
  Vs (p2 n) (1/p2 ((2*T+1)*(64*(K+m0))+(2*T+3))) (fun x=>aY 0 ((s :: c).map (fun a=>aP a 0 x))) (fun x=>aP s 0 x):=by
 have p:0<=p2 n:=by have:=jZ n;grind
 have td:=Q5 (lE h.sq.ts);have ld:(aS (bB s)).length<=T:=by rw[dF,lZ];omega
 have aj:=h.st.mem td O;have l:0<=wq K:=by rw[DJ];have:=jZ (64*K);grind
 have hS:p2 n+2<=p2 (n+2):=by
  have B:=jZ n;have e:p2 (n+2)=p2 n*4:=by rw[jQ];rfl
  rw[e];grind
 have am:(p2 n+2)^(T+1)<=p2 ((n+2)*(T+1)):=by
  rw[<-DI];have A:∀(x y:Rat),0<=x->x<=y->∀m:Nat,x^m<=y^m∧0<=x^m:=fun x y g J m=>by
   induction m with
   |zero=>rw[azM,azM];exact⟨byB,by decide⟩
   |succ m N=>
    rw[azH,azH];have n1:=cA (show 0<=y^m-x^m by grind) (show 0<=y by grind);have n2:=cA N.2 (show 0<=y-x by grind);exact⟨by grind,cA N.2 g⟩
  exact(A _ _ (by grind) hS (T+1)).1
 obtain⟨Q,f⟩:∃Q,p2 (64*(K+m0))=Q:=⟨_,rfl⟩;have E:wq K*(p2 n+2)^(T+1)<=Q:=by
  have B:p2 (64*K)*p2 ((n+2)*(T+1))<=Q:=by rw[<-jQ,<-f];exact DH (by omega)
  have:=cA l (show 0<=p2 ((n+2)*(T+1))-(p2 n+2)^(T+1) by grind);rw[DJ] at *;grind
 have ae:1<=Q:=by rw[<-f];exact jZ _
 have I:∀m,m<=T+1->wq K*(p2 n+2)^m<=Q:=fun m hm=>by
  obtain⟨k,hk⟩:∃k,T+1=m+k:=⟨T+1-m,by omega⟩;rw[hk,LE] at E;have B:=hJ (Z:=p2 n+2) (by grind) m;have h2:=hJ (Z:=p2 n+2) (by grind) k;have:=cA (cA l (show 0<=(p2 n+2)^m by grind)) (show 0<=(p2 n+2)^k-1 by grind);grind
 have ah:∀x,aX (bB s) x=((bC (bB s):Int):Rat)*aX (aS (bB s)) x:=pR _;have ai:∀z,(s :: c).getLast?=some z->∀x,big 1 (aX z x):=fun z j x=>by
  obtain⟨z0,tz,hc⟩:=LF h tw O z j;exact axD z0 tz hc x
 have ag:=axA p E h.st q (by omega) ai;have ac:∀G∈aX s :: c.map aX,uR (p2 n) Q G:=fun G o x y u v J=>by
  have j:∃z,G=aX z∧z.length<=T+1∧∀n∈z,nl n.natAbs<=K:=by
   rcases List.mem_cons.1 o with e|o
   ·exact⟨s,e,q,C⟩
   ·obtain⟨z,j,rfl⟩:=List.mem_map.1 o;obtain⟨-, -,h3,W⟩:=aj z j;exact⟨z,rfl,by omega,W⟩
  obtain⟨z,rfl,ak,al⟩:=j;refine((DK (aT 1 z) l p (DL al)).2.2.1 x y u v J).mono ?_;rw[fX];have:=cA (show 0<=Q-wq K*(p2 n+2)^z.length by have:=I z.length ak;grind) (show 0<=y-x by grind);grind
 have F:(c.map aX).length<=T:=by rw[cH];have:=h.st.len;omega
 have hN:p2 ((2*T+1)*(64*(K+m0))+(2*T+3))=p2 (2*T+3)*Q^(2*T+1):=by rw[<-f,DI,<-jQ,dN (64*(K+m0)) (2*T+1),aq1]
 have ad:=jZ ((2*T+1)*(64*(K+m0))+(2*T+3));refine⟨by rw[azE,azF];exact Rat.inv_pos.2 (by grind),fun a b ha i af hd=> ?_⟩;have H:=axM (d:=1/p2 ((2*T+1)*(64*(K+m0))+(2*T+3))) (show 0<=Q by grind) ae (show(0:Rat)<1 by decide) (show 0<=Q by grind) (show 0<=Q by grind) ag ac (fun G l' e x y u v=> ?_) (by rw[azE,azF];exact Rat.inv_pos.2 (by grind)) ?_ a b ha i af hd
 ·unfold Lc at *;simp only[ax8,yI] at H;exact H
 ·have A:∀b,StT K s b c->b=aS (bB s)->c.map aX=G :: l'->b≠[]∧G=aX b:=fun b t _ e=>by
   cases t with
   |done=>cases e
   |step i h t=>rw[fM] at e;injection e with e1 _;exact⟨i,e1.symm⟩
  obtain⟨i,rfl⟩:=A _ h.st rfl e;have g:bB s≠[]:=fun g=>i (bX (by rw[dF,g];rfl));have hg:(0:Int)<(bC (bB s):Int):=by have:=nI (lE h.sq.ts) g;omega
  obtain⟨r,hr,V⟩:=(DK (aT 1 s) l p (DL C)).2.2.2 x y u v;refine⟨((bC (bB s):Int):Rat),r,pP hg,hr.mono (by rw[fX];exact I _ q),?_⟩;rw[<-ah,yM];exact V
 ·obtain⟨M,D⟩:∃M,64*(K+m0)=M:=⟨_,rfl⟩;obtain⟨L,hL⟩:∃L,(c.map aX).length=L:=⟨_,rfl⟩;rw[hL] at F⊢;rw[D] at ad⊢;rw[D] at f;have S:Q+Q=p2 (M+1):=by rw[jQ,f,uP];grind
  have eQ:Q+Q+1<=p2 (M+2):=by
   have e:p2 (M+2)=Q*4:=by rw[jQ,f];rfl
   rw[e];grind
  rw[S] at *;rw[DI];have R:(2:Rat)*p2 ((M+1)*L)=p2 ((M+1)*L+1):=by rw[jQ,uP,byD]
  rw[R];have h6:(M+1)*L<=(M+1)*T:=eV _ F;have an:p2 (M+2)*p2 ((M+1)*L)*p2 ((M+1)*L+1)<=p2 ((2*T+1)*M+(2*T+3)):=by
   rw[<-jQ,<-jQ];refine DH ?_;have e:(2*T+1)*M=M*T+M*T+M:=by rw[aqA,iW,dN T M];omega
   have e3:(M+1)*T=M*T+T:=by rw[aqA,aqD]
   rw[e];omega
  have n0:0<=p2 ((M+1)*L)*p2 ((M+1)*L+1):=by rw[<-jQ];have:=jZ ((M+1)*L+((M+1)*L+1));grind
  generalize p2 ((M+1)*L)=X at *;generalize p2 ((M+1)*L+1)=Y at *;generalize p2 ((2*T+1)*M+(2*T+3))=P at *;generalize p2 (M+1)=Z at *;generalize p2 (M+2)=U at *;have n1:=cA n0 (show 0<=U-(Z+1) by grind);have hP:0<P:=by grind
  have ei:1/P*P=1:=gW (by grind);have hi:0<=1/P:=by rw[azE,azF];exact az6 (Rat.inv_pos.2 hP)
  have n2:=cA hi (show 0<=P-(Z+1)*X*Y by grind);grind
def ex9(h:Cn K w s c)(f:aN w)(b:∀n∈s,nl n.natAbs<=K)(e:∀n∈aS (bB s),nl n.natAbs<=K):∃d,Vs (p2 n) d (fun x=>aY 0 ((s :: c).map (fun a=>aP a 0 x))) (fun x=>aP s 0 x):=
 ⟨_,ex8 (T:=s.length) (m0:=(n+2)*(s.length+1)) h f (Nat.le_succ _) b e (byT _ (by decide))⟩
def qX(a:List Int)(i:Int)(x:Rat):aP a i x=1∨aP a i x=0∨aP a i x= -1:=by
 have k:∀n:Int,n.sign=1∨n.sign=0∨n.sign= -1:=fun n=>by
  rcases aqL n 0 with h|h|h
  ·exact .inr (.inr (aqT h))
  ·rw[h];exact .inr (.inl rfl)
  ·exact .inl (aqI h)
 unfold aP;split
 ·exact k _
 ·split
  ·have:=k (cf a (a.length-1));omega
  ·exact k _
def cx9(X:Rat):∃n:Nat,X<=p2 n:=by
 obtain⟨n,hn⟩:=axF X;refine⟨n,?_⟩;have a:=axE n;have e:p2 n=2^n:=by
  unfold p2;rw[Rat.intCast_pow];rfl
 rw[e];grind
def rY:RL 1 (1:Rat):=⟨cJ (m:=1) (by unfold BN;decide),cJ (m:=1) (by unfold BN;decide)⟩
end Go.Proofs.YtjgbleapffgbcaaGreatDoor
namespace Go.Proofs.YtjgbleapffgbcaaGreatDoor
open Go.RowKit Sos
section
variable (a b:List (List UInt8))(va vb:Value)(w:World)(ha:StrsAt w va a)(hb':StrsAt w vb b)(hla:a.length<=1000)(hlb:b.length<=1000)(hca:∀l∈a,l.length<=1073741824)(hcb:∀l∈b,l.length<=1073741824)(K:Nat)(hKa:∀q∈aU a,RL K q)(hKb:∀q∈aU b,RL K q)(hK:K<=1048576)
include ha hb' hla hlb hca hcb hKa hKb hK
end
abbrev zR:List Value:=[.bool false,.slice none 0 0,.bool false,.slice none 0 0]
section
variable {W0 w:World}{g:Nat}{q:Rat}{s s':Bool}{A A':Option Addr}{l c l' c':Nat}
end
def KM.setRow{w:World}{g:Nat}{cur cs:Array Value}{e:TypeId}(f:w.heap[g]? =some (.cells cur e (0,0)))(hn:∀u∈cur.toList,NoInt u):KM w (w.setRow g cs):=
 ⟨by simp[World.setRow],fun p k x c=>by
  obtain⟨b,o,h⟩:=p;obtain rfl:h=none:=World.cell?_spot c;by_cases d:b=g
  ·subst d;rw[cell_of_row w b o cur e (0,0) f,<-Array.getElem?_toList] at c;exact absurd rfl (hn _ (dG c) k x)
  ·exact(World.cell?_of_block (setRow_other w g b cs d)).trans c⟩
section
variable {w:World}{ops:Array Oper}{rest:List Oper}{o:Oper}{a:Act}{Q:Exit->Act->World->Prop}
end
