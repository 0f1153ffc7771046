/- Laws. -/
import Derived.Test.YtpjpfjephpgcbaaGreatDoorR24
set_option linter.all false
set_option maxHeartbeats 8000000
set_option maxRecDepth 99999
namespace Go.Proofs.YtpjpfjephpgcbaaGreatDoor
open Go.RowKit Sos Tryz
variable{W w:World}{B K b:Nat}{t:TypeId}{c d f i j k l m n o p q r:Value}{s s' w':List Int}
def pS(s:List Int)(x y:Rat)(N:Int):Bool:=if x<y then decide (aP s 0 x*aP s 0 y<0)&&decide (N=1) else decide (x=y)&&decide (aP s 0 x=0)
def mB(s:List Int)(a b:List UInt8)(N:Int):Bool:=rd a&&rd b&&pS s ((bD a).getD 0) ((bD b).getD 0) N
def DU(w:World)(s:List Int)(a b:List UInt8)(N:Int)(e:Ending)(w':World):Prop:=∃v,e= .returned (.tuple #[v,.bool (mB s a b N)])∧(∃x y,SpanAt w' v x y∧(mB s a b N=true->x=(bD a).getD 0∧y=(bD b).getD 0))∧Below w.1.size w w'
def Bx.put8{s u:Value}(h:Bx W b [m,n,o,p,q,r,s,u] t)(N:Below B w W)(a:B<=b)(d e f g i j k l:Value)(hn:(cS (some m)&&(cS (some n)&&(cS (some o)&&(cS (some p)&&(cS (some q)&&(cS (some r)&&(cS (some s)&&cS (some u))))))))=true):
  ∃c,(((((((W.setCell ⟨b,0,none⟩ d).setCell ⟨b,1,none⟩ e).setCell ⟨b,2,none⟩ f).setCell ⟨b,3,none⟩ g).setCell ⟨b,4,none⟩ i).setCell ⟨b,5,none⟩ j).setCell ⟨b,6,none⟩ k).setCell ⟨b,7,none⟩ l=c∧Bx c b [d,e,f,g,i,j,k,l] t∧Below B w c∧Keep W c:=by
 simp only[az7] at hn;obtain⟨X,rfl,F,v,O,f1⟩:=h.put1 N a 0 d hn.1;obtain⟨Y,rfl,G,x,P,f2⟩:=F.put1 v a 1 e hn.2.1;obtain⟨Z,rfl,H,y,Q,f3⟩:=G.put1 x a 2 f hn.2.2.1;obtain⟨W4,rfl,I,z,R,f4⟩:=H.put1 y a 3 g hn.2.2.2.1;obtain⟨W5,rfl,J,A,S,f5⟩:=I.put1 z a 4 i hn.2.2.2.2.1;obtain⟨W6,rfl,K,C,T,f6⟩:=J.put1 A a 5 j hn.2.2.2.2.2.1;obtain⟨W7,rfl,L,D,U,f7⟩:=K.put1 C a 6 k hn.2.2.2.2.2.2.1;obtain⟨W8,rfl,M,E,V,f8⟩:=L.put1 D a 7 l hn.2.2.2.2.2.2.2;exact⟨_,rfl,M,E,((((((O.trans P).trans Q).trans R).trans S).trans T).trans U).trans V⟩
def LV{a g:Value}(h:Bx W b [a,c,d,f,g,i,j,k] t)(x:Below B w W)(v:B<=b){s:Value}(hn:(cS (some a)&&(cS (some c)&&(cS (some d)&&(cS (some f)&&(cS (some g)&&(cS (some i)&&(cS (some j)&&cS (some k))))))))=true):
  Below B w ((((((((W.setCell ⟨b,0,none⟩ l).setCell ⟨b,1,none⟩ m).setCell ⟨b,2,none⟩ n).setCell ⟨b,3,none⟩ o).setCell ⟨b,4,none⟩ p).setCell ⟨b,5,none⟩ q).setCell ⟨b,6,none⟩ r).setCell ⟨b,7,none⟩ s):=by
 obtain⟨y,e, -,u, -⟩:=h.put8 x v l m n o p q r s hn;rw[e];exact u
def Bx.far8{g:Nat}{cs:List Value}(h:Bx w g cs t)(a:b≠g){e:Value}:Bx ((((((((w.setCell ⟨b,0,none⟩ c).setCell ⟨b,1,none⟩ d).setCell ⟨b,2,none⟩ e).setCell ⟨b,3,none⟩ f).setCell ⟨b,4,none⟩ i).setCell ⟨b,5,none⟩ j).setCell ⟨b,6,none⟩ k).setCell ⟨b,7,none⟩ l) g cs t:=(((((((h.far 0 c a).far 1 d a).far 2 e a).far 3 f a).far 4 i a).far 5 j a).far 6 k a).far 7 l a
def yN(w:World):SpanAt w (.agg #[.bool false,.slice none 0 0,.bool false,.slice none 0 0,.bool false,.slice none 0 0,.bool false,.slice none 0 0]) 0 0:=SpanAt.of (BW w) (BW w)
def ayB{z:Rat}(f:∀n∈s,nl n.natAbs<=K)(c:RL K z)(e:s.length<=65):nl (fE s z.num z.den).natAbs<=K*65+1:=by
 have d:=xK (ns:=s) (a:=z.num) (b:=z.den) (T:=BN^K) (fun n h=>mS (f n h)) (mS c.1) (mS c.2);refine cJ (jI d.1 (aZ (xL (by omega)).1 (cO (by decide) ?_)));have:=eV K e;omega
def ayC(s:List Int)(a b:List UInt8)(N:Int)(v:Value)(w:World)(m:Glob w)(hv:WholeAt w v s)(ts:aN s)(h0:s≠[])(hs:Sz s)(la:EdT a)(lb:EdT b)(hN:∀c,StT 110079 s (aS (bB s)) c->fF s c 0 ((bD a).getD 0) 0 ((bD b).getD 0)=N):
  Calls prog 29 #[v,.agg #[.string ⟨a.toArray⟩,.string ⟨b.toArray⟩]] w (DU w s a b N):=by
 obtain⟨A,c,rfl,hc⟩:=hv.form;have ra:=fun W m=>wU a W m la.1;have rb:=fun W m=>wU b W m lb.1;have ai:=la.2;have aj:=lb.2;clear la lb;have k:Hid (mB s a b N=(rd a&&rd b&&pS s ((bD a).getD 0) ((bD b).getD 0) N)):=rfl;have au:(bD a).isSome=rd a:=rfl;have av:(bD b).isSome=rd b:=rfl;unfold IP at ra rb;rw[au] at ra;rw[av] at rb;unfold DU;obtain⟨T,hT⟩:∃T,mB s a b N=T:=⟨_,rfl⟩;rw[hT] at k⊢;clear hT au av;generalize rd a=oa at *;generalize rd b=ob at *;generalize (bD a).getD 0=x at *;generalize (bD b).getD 0=y at *;obtain⟨W,eW,d,X,R⟩:=eL w [.string ⟨a.toArray⟩,.string ⟨b.toArray⟩] 24 [.bool false,.slice none 0 0,.bool false,.slice none 0 0,.bool false,.slice none 0 0,.bool false,.slice none 0 0] 76;have cM:=aa X.g2 R.g8;go_enter func29,ntmps29;go_wp2_with fail;(try rw[eW]);clear eW;refine(ra _ (m.be d)).mono ?_;rintro e1 w1 ⟨v1,rfl,H,ag⟩;obtain⟨S,o,K,t,U,p,L,C,rfl⟩:=H.form;obtain⟨w2,e2,al,P⟩:=bI w1 [.bool S,.slice o K t,.bool U,.slice p L C] 71;have l:=aC ag al;have a3:=(R.be ag).lt;replace R:=R.be l;replace X:=X.be l;replace H:=H.be al;replace d:=aC d l;have cX:=X.k2;clear ra l ag al;go_wp2_with fail;(try rw[e2]);(try clear e2);refine(rb _ (m.be d)).mono ?_;rintro e3 w3 ⟨v3,rfl,h3,am⟩;obtain⟨Y,q,M,E,Z,r,O,F,rfl⟩:=h3.form;obtain⟨w4,e4,aq,Q⟩:=bI w3 [.bool Y,.slice q M E,.bool Z,.slice r O F] 71;have l:=aC am aq;have a4:=(R.be am).lt;replace R:=R.be l;replace P:=P.be l;replace H:=H.be l;replace h3:=h3.be aq;replace d:=aC d l;have bn:=R.lt;have bm:=P.lt;clear rb l cX X;have cM:=aa R.g8 (aa P.k4 Q.k4);have bo:w.1.size+1<w1.1.size:=a3;have bp:w.1.size+1<w3.1.size:=a4;cases oa with
 |false=>
  cases ob
  all_goals (
   obtain rfl:T=false:=by rw[k.out];rfl
   clear k hN ai aj;go_wp2_with fail;(try rw[e4]);(try clear e4);obtain⟨W6,i,j,g,I⟩:=R.put8 d (by omega) (.bool false) (.slice none 0 0) (.bool false) (.slice none 0 0) (.bool false) (.slice none 0 0) (.bool false) (.slice none 0 0) rfl;rw[i];exact aM (v:= .tuple #[.agg #[.bool false,.slice none 0 0,.bool false,.slice none 0 0,.bool false,.slice none 0 0,.bool false,.slice none 0 0],.bool false]) (by simp[results,results29,go_sem,j.k8]) rfl ⟨_,rfl,⟨0,0,yN _,fun h=>by cases h⟩,g⟩
  )
 |true=>
  cases ob with
  |false=>
   obtain rfl:T=false:=by rw[k.out];rfl
   clear k hN ai aj;go_wp2_with fail;(try rw[e4]);(try clear e4);obtain⟨W6,i,j,g,I⟩:=R.put8 d (by omega) (.bool false) (.slice none 0 0) (.bool false) (.slice none 0 0) (.bool false) (.slice none 0 0) (.bool false) (.slice none 0 0) rfl;rw[i];exact aM (v:= .tuple #[.agg #[.bool false,.slice none 0 0,.bool false,.slice none 0 0,.bool false,.slice none 0 0,.bool false,.slice none 0 0],.bool false]) (by simp[results,results29,go_sem,j.k8]) rfl ⟨_,rfl,⟨0,0,yN _,fun h=>by cases h⟩,g⟩
  |true=>
   have kx:=ai rfl;have ky:=aj rfl;replace k:Hid (T=pS s x y N):=by
    have:=k.out;rwa [Bool.true_and,Bool.true_and] at this
   have bb:=hs.1;have kn:=hs.nums;have hw:=fun z u W h G (kz:RL 20000000 z)=>CB s z (.slice A s.length c) u W h G 20000000 (fun n hn=>aH (kn n hn) (by decide)) kz (by omega) (by decide);have ap:=fun (z:Rat) (kz:RL 20000000 z)=>aH (ayB (fun n hn=>aH (kn n hn) (show 150<=20000000 by decide)) kz (by omega)) (show 20000000*65+1<=17592186044416 by decide);have t1:=fun u W h G=>hw x u W h G kx;have t2:=fun u W h G=>hw y u W h G ky;have g1:=fun W u h=>qG (fE s x.num x.den) u W h (ap x kx);have g2:=fun W u h=>qG (fE s y.num y.den) u W h (ap y ky);have ao:=fun W u v h G=>BY x y u v W h G 20000000 kx ky (by decide);have ar:=fun W u v m h G az=>J0 s 0 0 x y (.slice A s.length c) u v W m h ts h0 hs G az (by decide) (by decide) (bU kx (by decide)) (bU ky (by decide));have aw:(fE s x.num x.den).sign=aP s 0 x:=by unfold aP;rw[if_pos rfl]
   have ax:(fE s y.num y.den).sign=aP s 0 y:=by unfold aP;rw[if_pos rfl]
   rw[aw] at g1;rw[ax] at g2;have tx:=qX s 0 x;have ty:=qX s 0 y;have f:pS s x y N=if x<y then decide (aP s 0 x*aP s 0 y<0)&&decide (N=1) else decide (x=y)&&decide (aP s 0 x=0):=rfl;unfold dW at t1 t2;unfold eO at ao;unfold xA at ar;obtain⟨B,hB⟩:∃B,pS s x y N=B:=⟨_,rfl⟩;rw[hB] at k f;obtain rfl:T=B:=k.out;have ah:x<y->∀n,(jO 0 x 0 y=true->∃c,StT 110079 s (aS (bB s)) c∧n=fF s c 0 x 0 y)->n=N:=fun h n hc=>by
    obtain⟨c,H,h2⟩:=hc (by unfold jO;rw[if_neg (by decide)];exact decide_eq_true h);rw[h2];exact hN c H
   have ba:x<y∧(x-y).num.sign= -1∨¬x<y∧x=y∧(x-y).num.sign=0∨¬x<y∧x≠y∧(x-y).num.sign=1:=by
    rcases iY (x-y) with h|h|h
    ·exact .inl ⟨by grind,(fS _).2 h⟩
    ·exact .inr (.inl ⟨by grind,by grind,by rw[h];rfl⟩)
    ·exact .inr (.inr ⟨by grind,by grind,(fS _).1 h⟩)
   generalize (x-y).num.sign=D at *;clear k hB hN ai aj hw ap aw ax bb kn ts h0 hs kx ky;generalize aP s 0 x=Sx at *;generalize aP s 0 y=Sy at *;generalize fE s x.num x.den=mx at *;generalize fE s y.num y.den=my at *;have af: -1<=Sx*Sy∧Sx*Sy<=1:=by rcases tx with e|e|e<;>rcases ty with e'|e'|e'<;>rw[e,e']<;>decide
   obtain⟨Pr,a2⟩:∃P,Sx*Sy=P:=⟨_,rfl⟩;rw[a2] at af f;go_wp2_with fail;(try rw[e4]);(try clear e4);have bk:=m.be d;have ay:=hv.be d
   go_region_held3 (fun w'=>C4 w' w1.1.size (.bool S) (.slice o K t) (.bool U) (.slice p L C)∧C4 w' w3.1.size (.bool Y) (.slice q M E) (.bool Z) (.slice r O F)) (with_reducible exact⟨P.up.k4,Q.up.k4⟩)
    (first
     |(go_at_call 75;first|(with_reducible refine(t1 _ _ ay.up H.up).mono ?_;rintro e5 w5 ⟨v5,rfl,h5,a7⟩;have:=St.mk a7)|(with_reducible refine(t2 _ _ ay.up h3.up).mono ?_;rintro i w6 ⟨v6,rfl,h6,g⟩;have:=St.mk g))
     |(go_at_call 76;first|(with_reducible refine(g1 _ _ h5.up).mono ?_;rintro e7 w7 ⟨rfl,an⟩;have:=St.mk an;have U7:=Up.out (a:=w4) (b:=w7))|(with_reducible refine(g2 _ _ h6.up).mono ?_;rintro e7 w7 ⟨rfl,an⟩;have:=St.mk an;have U7:=Up.out (a:=w4) (b:=w7))))
   all_goals (
    obtain⟨w8,e8,a8,V⟩:=bI w7 [.bool S,.slice o K t,.bool U,.slice p L C,.bool Y,.slice q M E,.bool Z,.slice r O F] 76;have U8:=aC U7 a8;have R8:=R.be U8;have P8:=P.be U8;have Q8:=Q.be U8;have x8:=H.be U8;have y8:=h3.be U8;have zb:=aC d U8;have V0:=V.lt;have a5:w7.1.size≠w.1.size+1:=by have:=U7.size;omega
    have bg:=aa R8.g8 (aa P8.k4 (aa Q8.k4 V.k8));go_wp2_with fail;(try rw[e8]);(try clear e8);refine(ao _ _ _ x8 y8).mono ?_;rintro e9 w9 ⟨rfl,ac⟩;have R9:=R8.be ac;have P9:=P8.be ac;have Q9:=Q8.be ac;have V9:=V.be ac;have x9:=x8.be ac;have y9:=y8.be ac;have ae:=aC zb ac;have bh:=aa R9.g8 (aa P9.k4 (aa Q9.k4 V9.k8));clear tx ty ao;rcases ba with ⟨J,rfl⟩|⟨J,he,rfl⟩|⟨J,he,rfl⟩
    ·rw[if_pos J] at f;have ak:=ah J;clear ah J;have bq:IntKind.i64.wrap Pr=Pr:=IntWalk.i64_in _ ⟨by omega,by omega⟩;by_cases hP:0<=Pr
     ·obtain rfl:T=false:=by rw[f,decide_eq_false (show¬Pr<0 by omega)];rfl
      clear f ak af;go_wp2_with fail;obtain⟨W6,i,j,g,I⟩:=R9.put8 ae (by omega) (.bool false) (.slice none 0 0) (.bool false) (.slice none 0 0) (.bool false) (.slice none 0 0) (.bool false) (.slice none 0 0) rfl;rw[i];exact aM (v:= .tuple #[.agg #[.bool false,.slice none 0 0,.bool false,.slice none 0 0,.bool false,.slice none 0 0,.bool false,.slice none 0 0],.bool false]) (by simp[results,results29,go_sem,j.k8]) rfl ⟨_,rfl,⟨0,0,yN _,fun h=>by cases h⟩,g⟩
     ·obtain rfl:T=(N==1):=by rw[f,decide_eq_true (show Pr<0 by omega),Bool.true_and];rfl
      clear f af;have a1:=aB ak;clear ak;have a0:=m.be ae;have bc:=hv.be ae;have n1:w.1.size+1≠w7.1.size:=fun e=>a5 e.symm;have n2:w.1.size+1≠w1.1.size:=by omega
      have n3:w.1.size+1≠w3.1.size:=by omega
      go_wp2_with fail
      go_region_held3 (fun w'=>C8 w' w7.1.size (.bool S) (.slice o K t) (.bool U) (.slice p L C) (.bool Y) (.slice q M E) (.bool Z) (.slice r O F)∧C4 w' w1.1.size (.bool S) (.slice o K t) (.bool U) (.slice p L C)∧C4 w' w3.1.size (.bool Y) (.slice q M E) (.bool Z) (.slice r O F)) (first|(with_reducible exact⟨V9.up.k8,P9.up.k4,Q9.up.k4⟩)|(with_reducible exact⟨(V5.far8 n1).k8,(P5.far8 n2).k4,(Q5.far8 n3).k4⟩))
       (first
        |(go_at_call 77;refine(ar _ _ _ a0.up bc.up (EndAt.of x9.up) (EndAt.of y9.up)).mono ?_;rintro bj ad ⟨n,rfl, -, -, -,n4,a6⟩;have:=St.mk a6;have a9:=a1.out n n4;have V5:=V9.up (b:=ad);have P5:=P9.up (b:=ad);have Q5:=Q9.up (b:=ad);have Ra:=R9.up (b:=ad);have bi:=Ra.g8;have xa:=x9.up (b:=ad);have ya:=y9.up (b:=ad);have bf:=bJ (b:=ad) ae))
      all_goals (
       subst a9;go_wp2_with fail;obtain⟨W6,i,j,g,I⟩:=Ra.put8 bf (by omega) (.bool S) (.slice o K t) (.bool U) (.slice p L C) (.bool Y) (.slice q M E) (.bool Z) (.slice r O F) rfl;rw[i];exact aM (v:= .tuple #[.agg #[.bool S,.slice o K t,.bool U,.slice p L C,.bool Y,.slice q M E,.bool Z,.slice r O F],.bool (n==1)]) (by simp[results,results29,go_sem,j.k8]) rfl ⟨_,rfl,⟨x,y,SpanAt.of (xa.ke I) (ya.ke I),fun _=>⟨rfl,rfl⟩⟩,g⟩)
    ·rw[if_neg J] at f;obtain rfl:T=(Sx==0):=by rw[f,decide_eq_true he,Bool.true_and];rfl
     clear f ah J he af;go_wp2_with fail;obtain⟨W6,i,j,g,I⟩:=R9.put8 ae (by omega) (.bool S) (.slice o K t) (.bool U) (.slice p L C) (.bool Y) (.slice q M E) (.bool Z) (.slice r O F) rfl;rw[i];exact aM (v:= .tuple #[.agg #[.bool S,.slice o K t,.bool U,.slice p L C,.bool Y,.slice q M E,.bool Z,.slice r O F],.bool (Sx==0)]) (by simp[results,results29,go_sem,j.k8]) rfl ⟨_,rfl,⟨x,y,SpanAt.of (x9.ke I) (y9.ke I),fun _=>⟨rfl,rfl⟩⟩,g⟩
    ·rw[if_neg J] at f;obtain rfl:T=false:=by rw[f,decide_eq_false he,Bool.false_and]
     clear f ah J he af;go_wp2_with fail;obtain⟨W6,i,j,g,I⟩:=R9.put8 ae (by omega) (.bool false) (.slice none 0 0) (.bool false) (.slice none 0 0) (.bool false) (.slice none 0 0) (.bool false) (.slice none 0 0) rfl;rw[i];exact aM (v:= .tuple #[.agg #[.bool false,.slice none 0 0,.bool false,.slice none 0 0,.bool false,.slice none 0 0,.bool false,.slice none 0 0],.bool false]) (by simp[results,results29,go_sem,j.k8]) rfl ⟨_,rfl,⟨0,0,yN _,fun h=>by cases h⟩,g⟩
   )
def ayD{w:List Int}{A:List Rat}{c:Nat}(h:Sqp B w s)(a:Sqp c w' s')(d:Prp A w)(e:Prp A w')(x y:Rat):aP s 0 x*aP s 0 y=aP s' 0 x*aP s' 0 y:=by
 have b:∀{s w:List Int} {B:Nat},Sqp B w s->aP s 0 x*aP s 0 y=cyE (cE s) 0 x*cyE (cE s) 0 y:=fun {s w B} h=>by
  have f:=gJ ((fT h.ne).1 h.ts);rw[pN];rcases iY (1/((cf s (s.length-1):Int):Rat)) with k|k|k
  ·rw[xU k,xU k,Int.neg_mul_neg]
  ·exfalso;have:((cf s (s.length-1):Int):Rat)*(1/((cf s (s.length-1):Int):Rat))=1:=by grind
   rw[k,gX] at this;exact absurd this (by decide)
  ·rw[uB k,uB k]
 rw[b h,b a,h.unique a d e]
end Go.Proofs.YtpjpfjephpgcbaaGreatDoor
namespace Go.Proofs.YtpjpfjephpgcbaaGreatDoor
open Sos
variable{K:Nat}
def azN(s:Rat->Int)(W:Rat):Nat->Rat->Rat->Rat×Rat
 |0,a,b=>(a,b)
 |n+1,a,b=>if W<b-a then (if s ((a+b)/2)=0 then ((a+b)/2,(a+b)/2) else if s ((a+b)/2)=s a then azN s W n ((a+b)/2) b else azN s W n a ((a+b)/2)) else (a,b)
section
variable {s:Rat->Int}{W a b:Rat}{n:Nat}
def byW(h:¬W<b-a):azN s W n a b=(a,b):=by
 cases n with
 |zero=>rfl
 |succ n=>exact if_neg h
def bq0(h:W<b-a)(c:s ((a+b)/2)=0):azN s W (n+1) a b=((a+b)/2,(a+b)/2):=by
 show(if W<b-a then _ else _)=_
 rw[if_pos h,if_pos c]
def bq1(h:W<b-a)(c:s ((a+b)/2)≠0)(d:s ((a+b)/2)=s a):azN s W (n+1) a b=azN s W n ((a+b)/2) b:=by
 show(if W<b-a then _ else _)=_
 rw[if_pos h,if_neg c,if_pos d]
def bq2(h:W<b-a)(c:s ((a+b)/2)≠0)(d:s ((a+b)/2)≠s a):azN s W (n+1) a b=azN s W n a ((a+b)/2):=by
 show(if W<b-a then _ else _)=_
 rw[if_pos h,if_neg c,if_neg d]
def cxA(h:b-a<=W*2^(n+1)):(a+b)/2-a<=W*2^n∧b-(a+b)/2<=W*2^n:=by
 rw[azH] at h;constructor<;>grind
def bqF(h:b-a<=W*2^0):¬W<b-a:=by
 rw[azM,aqP] at h;grind
end
def azB(lo d:Rat)(u j:Nat):Rat:=lo+d*((u:Int):Rat)/p2 j
def byX(j:Nat):p2 j≠0:=by have:=jZ j;grind
def bqG(lo d:Rat):azB lo d 0 0=lo∧azB lo d 1 0=lo+d:=by
 unfold azB;rw[DG];constructor<;>grind
def bqH(lo d:Rat)(u j:Nat):azB lo d (2*u) (j+1)=azB lo d u j∧(azB lo d u j+azB lo d (u+1) j)/2=azB lo d (2*u+1) (j+1):=by
 have v:=gW (a:=d*((u:Int):Rat)) (byX j);have m:=gW (a:=d*(((u+1:Nat):Int):Rat)) (byX j);have c:=gW (a:=d*(((2*u:Nat):Int):Rat)) (byX (j+1));have f:=gW (a:=d*(((2*u+1:Nat):Int):Rat)) (byX (j+1));have e:p2 (j+1)=p2 j*2:=by rw[jQ];rfl
 have z:=byX j;have h:(((2*u:Nat):Int):Rat)=2*((u:Int):Rat):=by rw[show((2*u:Nat):Int)=2*(u:Int) by omega,eJ];rfl
 have i:(((u+1:Nat):Int):Rat)=((u:Int):Rat)+1:=by rw[show((u+1:Nat):Int)=(u:Int)+1 by omega,aqE];rfl
 have l:(((2*u+1:Nat):Int):Rat)=2*((u:Int):Rat)+1:=by rw[show((2*u+1:Nat):Int)=2*(u:Int)+1 by omega,aqE,eJ];rfl
 unfold azB;rw[e] at c f⊢;rw[h] at c⊢;rw[i] at m⊢;rw[l] at f⊢;generalize p2 j=y at *;generalize ((u:Int):Rat)=x at *;generalize d*x/y=g at *;generalize d*(x+1)/y=q at *;generalize d*(2*x)/(y*2)=r at *;generalize d*(2*x+1)/(y*2)=t at *;have o:(r-g)*y=0:=by grind
 have p:((g+q)/2-t)*y=0:=by grind
 constructor
 ·rcases Rat.mul_eq_zero.1 o with k|k
  ·grind
  ·exact absurd k z
 ·rcases Rat.mul_eq_zero.1 p with k|k
  ·grind
  ·exact absurd k z
def cxB{lo d:Rat}(o:RL K lo)(l:RL K d){u j m:Nat}(h:u<=2^j)(c:j<=64*m):RL (2*K+2*m+4) (azB lo d u j):=by
 have f:=DE (m:=j) (k:=m) c (u:=(u:Int)) (by rw[dD];exact h);have g:=DE (m:=j) (k:=m) c (u:=(2:Int)^j) (by rw[DF];exact aE);have i:RL (m+1) (((u:Int):Rat)/p2 j):=pM f g (by omega);have e:azB lo d u j=lo+d*(((u:Int):Rat)/p2 j):=by unfold azB;rw[azE,azE,azC]
 rw[e];exact bU (CI o (o6 l i)) (by omega)
def bqI{w s:List Int}{c:List (List Int)}(h:Cn K w s c)(o:aN w)(r:s.length<=7)(q:∀n∈s,nl n.natAbs<=K)(l:∀n∈aS (bB s),nl n.natAbs<=K){a m b:Rat}(i:a<m)(u:m<b)(g:aP s 0 a≠0)(t:aP s 0 m≠0)(hn:fF s c 0 a 0 b=1):
  (fF s c 0 a 0 m=1∧aP s 0 m≠aP s 0 a)∨(fF s c 0 a 0 m=0∧fF s c 0 m 0 b=1∧aP s 0 m=aP s 0 a):=by
 obtain⟨n,z⟩:=cx9 (max (-a) b);have hv:=bqE (n:=n) (m0:=n+2) h o r q l (by omega);have aa:ab a (p2 n):=⟨by grind,by grind⟩;have f:ab m (p2 n):=⟨by grind,by grind⟩;have p:ab b (p2 n):=⟨by grind,by grind⟩;have v:=hv.mono a m aa f i;have A:=hv.mono m b f p u;have y:=hv.same a m aa f i;have j:=ay6 h o l g t;unfold fF at hn j⊢;rcases dE (aY 0 ((s :: c).map (fun a=>aP a 0 m))) (aY 0 ((s :: c).map (fun x=>aP x 0 a))) with k|k
 ·refine .inl ⟨by omega,fun e=> ?_⟩;have:=j (by omega);rw[e] at this;have d:=qX s 0 a;rcases d with d|d|d<;>rw[d] at this<;>exact absurd this (by decide)
 ·exact .inr ⟨by omega,by omega,(y (byS k v)).2 g⟩
end Go.Proofs.YtpjpfjephpgcbaaGreatDoor
namespace Go.Proofs.YtpjpfjephpgcbaaGreatDoor
open Go.RowKit Sos Tryz
variable{B K k n:Nat}{L x:Rat}
def bqU(w:World)(g:Nat)(a b:Rat):Prop:=∃p c l h q d m i r e n j s f o k,Bx w g [.bool p,.slice c l h,.bool q,.slice d m i,.bool r,.slice e n j,.bool s,.slice f o k] 76∧RatAt w (.agg #[.bool p,.slice c l h,.bool q,.slice d m i]) a∧RatAt w (.agg #[.bool r,.slice e n j,.bool s,.slice f o k]) b
def Bx.put84{w W:World}{b:Nat}{t:TypeId}{cs:List Value}(h:Bx W b cs t)(A:Below B w W)(c:B<=b)(o:Nat)(e f i j:Value)(hn:(cS cs[o]? &&(cS cs[o+1]? &&(cS cs[o+2]? &&cS cs[o+3]?)))=true):
  ∃a,(((W.setCell ⟨b,o,none⟩ e).setCell ⟨b,o+1,none⟩ f).setCell ⟨b,o+2,none⟩ i).setCell ⟨b,o+3,none⟩ j=a∧Bx a b ((((cs.set o e).set (o+1) f).set (o+2) i).set (o+3) j) t∧Below B w a∧Keep W a∧∀{g:Nat} {cs:List Value} {t:TypeId},Bx W g cs t->b≠g->Bx a g cs t:=by
 simp only[az7] at hn;obtain⟨G,rfl,v,l,C,q⟩:=h.put1 A c o e hn.1;obtain⟨H,rfl,x,m,D,r⟩:=v.put1 l c (o+1) f (by rw[lI (by omega)];exact hn.2.1);obtain⟨I,rfl,y,n,E,s⟩:=x.put1 m c (o+2) i (by rw[lI (by omega),lI (by omega)];exact hn.2.2.1);obtain⟨J,rfl,z,p,F,u⟩:=y.put1 n c (o+3) j (by rw[lI (by omega),lI (by omega),lI (by omega)];exact hn.2.2.2);exact⟨_,rfl,z,p,((C.trans D).trans E).trans F,fun k d=>u (s (r (q k d) d) d) d⟩
def bq6(x y:Rat):0<(x-y).num.sign↔y<x:=by
 rcases iY (x-y) with h|h|h
 ·rw[(fS _).2 h];exact⟨fun k=>absurd k (by decide),fun k=>by grind⟩
 ·rw[h];exact⟨fun k=>absurd k (by decide),fun k=>by grind⟩
 ·rw[(fS _).1 h];exact⟨fun _=>by grind,fun _=>by decide⟩
def bq7(w:World)(K:Nat)(R:Rat×Rat)(e:Ending)(w':World):Prop:=∃a,e= .returned a∧SpanAt w' a R.1 R.2∧RL K R.1∧RL K R.2∧Below w.1.size w w'
def bxV(s:List Int)(x d L:Rat)(n:Nat)(R:Rat×Rat)(S:Int)(k:Nat)(a b:Rat):Prop:=azN (fun z=>aP s 0 z) L k a b=R∧b-a<=L*2^k∧aP s 0 a=S∧∃i j,j+k=n∧i+1<=2^j∧a=azB x d i j∧b=azB x d (i+1) j
def bq8{s:List Int}{d:Rat}{R:Rat×Rat}{S:Int}{a b:Rat}(h:bxV s x d L n R S (k+1) a b)(o:L<b-a):(aP s 0 ((a+b)/2)=0->R=((a+b)/2,(a+b)/2))∧(aP s 0 ((a+b)/2)≠0->aP s 0 ((a+b)/2)=S->bxV s x d L n R S k ((a+b)/2) b)∧(aP s 0 ((a+b)/2)≠0->aP s 0 ((a+b)/2)≠S->bxV s x d L n R S k a ((a+b)/2))∧∃i j,j<=n∧i<=2^j∧(a+b)/2=azB x d i j:=by
 obtain⟨l,v,m,i,j,w,y,rfl,rfl⟩:=h;obtain⟨q,g⟩:=bqH x d i j;have r:=(bqH x d (i+1) j).1;obtain⟨t,u⟩:=cxA v;have p:(2:Nat)^(j+1)=2^j*2:=dH ..;refine⟨fun c=>by rw[<-l,bq0 o c],fun c f=>⟨by rw[<-l,bq1 o c (f.trans m.symm)],u,f,2*i+1,j+1,by omega,by omega,g,r.symm⟩,fun c f=>⟨by rw[<-l,bq2 o c (fun e=>f (e.trans m))],t,m,2*i,j+1,by omega,by omega,q.symm,g⟩,2*i+1,j+1,by omega,by omega,g⟩
def bqV(s:List Int)(x y L:Rat)(n K:Nat)(Q:Rat×Rat)(hR:azN (fun z=>aP s 0 z) L n x y=Q)(v u g:Value)(w:World)(O:Glob w)(hv:WholeAt w v s)(hs:Sz s)(hu:SpanAt w u x y)(hg:RatAt w g L)(hf:y-x<=L*2^n)(hp:∀j i,j<=n->i<=2^j->RL K (azB x (y-x) i j))(kL:RL K L)(am:150<=K)(a3:K<=268435456):
  Calls prog 31 #[v,u,g] w (bq7 w K Q):=by
 obtain⟨A,c,rfl,hc⟩:=hv.form;obtain⟨s1,V,k1,c1,s2,Z,k2,c2,s3,A3,k3,c3,s4,A4,k4,c4,rfl,hx,hy⟩:=hu;obtain⟨s5,A5,k5,c5,s6,A6,k6,c6,rfl⟩:=hg.form;obtain⟨q0,q1⟩:=bqG x (y-x);have U:x+(y-x)=y:=by grind
 obtain⟨S,hS⟩:∃S,aP s 0 x=S:=⟨_,rfl⟩;have al:bxV s x (y-x) L n Q S n x y:=⟨hR,hf,hS,0,0,bA n,aE,q0.symm,by rw[q1];exact U.symm⟩;have kx:RL K x:=by have:=hp 0 0 (dC _) (dC _);rwa [q0] at this
 have d:∀k a b,bxV s x (y-x) L n Q S k a b->RL K a∧RL K b:=fun k a b h=>by
  obtain⟨-, -, -,i,j,h4,h5,rfl,rfl⟩:=h;exact⟨hp j i (by omega) (by omega),hp j (i+1) (by omega) h5⟩
 have kn:=hs.nums;have a2:=hs.1;have hw:=fun z u W h E (kz:RL K z)=>CB s z (.slice A s.length c) u W h E K (fun n hn=>aH (kn n hn) am) kz (by omega) (by omega);have ah:=fun z u W (kz:RL K z) h=>qG (fE s z.num z.den) u W h (aH (ayB (fun n hn=>aH (kn n hn) am) kz (by omega)) (by omega));have aj:∀z:Rat,(fE s z.num z.den).sign=aP s 0 z:=fun z=>by unfold aP;rw[if_pos rfl]
 have g1:=fun W u h=>ah x u W kx h;rw[aj,hS] at g1;unfold dW at hw;clear q0 q1 U hS hR hf kn a2 hs;obtain⟨W,eW,l,X,Y,R⟩:=gE w [.bool s1,.slice V k1 c1,.bool s2,.slice Z k2 c2,.bool s3,.slice A3 k3 c3,.bool s4,.slice A4 k4 c4] 76 [.bool s5,.slice A5 k5 c5,.bool s6,.slice A6 k6 c6] 71 [.bool false,.slice none 0 0,.bool false,.slice none 0 0,.bool false,.slice none 0 0,.bool false,.slice none 0 0] 76;have cM:=aa X.g8 (aa Y.g4 R.g8);go_enter func31,ntmps31;go_wp2_with fail;(try rw[eW]);clear eW;refine(hw x _ _ (hv.be l) (hx.be l) kx).mono ?_;rintro e1 w1 ⟨v1,rfl,h1,au⟩;have:=St.mk au;go_wp2_with fail;refine(g1 _ _ h1).mono ?_;rintro e2 w2 ⟨rfl,av⟩;have:=St.mk av;replace X:=X.up (b:=w2);replace Y:=Y.up (b:=w2);replace R:=R.up (b:=w2);replace l:=bJ (b:=w2) l;replace hx:=hx.be l;replace hy:=hy.be l;clear cM g1 h1 kx;go_wp2_with fail;go_loopg [] n (fun k wr=>∃a b,bxV s x (y-x) L n Q S k a b∧bqU wr w.1.size a b∧Bx wr (w.1.size+1) [.bool s5,.slice A5 k5 c5,.bool s6,.slice A6 k6 c6] 71∧Bx wr (w.1.size+1+1) [.bool false,.slice none 0 0,.bool false,.slice none 0 0,.bool false,.slice none 0 0,.bool false,.slice none 0 0] 76∧Below w.1.size w wr)
 case atStart=>exact⟨x,y,al,⟨_,_,_,_,_,_,_,_,_,_,_,_,_,_,_,_,X,hx,hy⟩,Y,R,l⟩
 case round=>
  clear al hx hy X Y R l;obtain⟨a,b,HN,⟨s1,V,k1,c1,s2,Z,k2,c2,s3,A3,k3,c3,s4,A4,k4,c4,X,ha,ao⟩,Y,R,l⟩:=hrel;generalize wr=wy at *;obtain⟨ka,kb⟩:=d _ _ _ HN;have ai:=fun W u v O h E=>cx0 b a u v W O h E K kb ka (by unfold aJ;omega);have ae:=fun W u v h E=>BY (b-a) L u v W h E (2*K+1) (bU (JM kb ka) (by omega)) (bU kL (by omega)) (by omega);have an:=bq6 (b-a) L;generalize (b-a-L).num.sign=Sg at *;unfold iF at ai;unfold eO at ae;have ar:=O.be l;have a1:=hg.be l;have ac:=aB HN;have ad:=aB an;clear HN an;have cM:=aa X.k8 Y.k4;go_wp2_with fail
  go_region_held3 (fun w'=>C8 w' w.1.size (.bool s1) (.slice V k1 c1) (.bool s2) (.slice Z k2 c2) (.bool s3) (.slice A3 k3 c3) (.bool s4) (.slice A4 k4 c4)∧C4 w' (w.1.size+1) (.bool s5) (.slice A5 k5 c5) (.bool s6) (.slice A6 k6 c6)) (with_reducible exact⟨X.up.k8,Y.up.k4⟩)
   (first
    |(go_at_call 55;refine(ai _ _ _ ar.up ao.up ha.up).mono ?_;rintro e4 w4 ⟨v4,rfl,h4,aw⟩;have:=St.mk aw)
    |(go_at_call 53;refine(ae _ _ _ h4.up a1.up).mono ?_;rintro e5 w5 ⟨rfl,ax⟩;have:=St.mk ax))
  all_goals (
   have t:=X.up (b:=w5);have B:=Y.up (b:=w5);have o:=R.up (b:=w5);have a5:=ha.up (b:=w5);have b5:=ao.up (b:=w5);have zb:=bJ (b:=w5) l;have ak:=aa t.g8 (aa B.k4 o.g8);by_cases ap:0<Sg
   ·have af:=ad.out.1 ap;cases gk with
    |zero=>exact absurd af (bqF ac.out.2.1)
    |succ k=>
     have H:=aB (bq8 ac.out af);have km:RL K ((a+b)/2):=by
      obtain⟨-, -, -,i,j,hj,hi,e⟩:=H.out;rw[e];exact hp j i hj hi
     have ag:=fun W v O h=>ZW (fun _ _=>True) a b v W O h K ka kb (by omega) (by omega) (fun x y _ kx ky W u v O h E=>UW x y u v W O h E K kx ky (by unfold aJ;omega)) trivial;unfold iF at ag;generalize (a+b)/2=m at *;have gm:=fun W u h=>ah m u W km h;rw[aj] at gm;have aq:=fun u W h E=>hw m u W h E km;clear aj ah hw af ae ai ac ad d hp;generalize aP s 0 m=Sm at *;go_wp2_with fail;refine(ag _ _ (O.be zb) (SpanAt.of a5 b5)).mono ?_;rintro f w6 ⟨v6,rfl,p,F⟩;obtain⟨J,q,G,C,N,r,I,D,rfl⟩:=p.form;obtain⟨w7,e7,ay,M⟩:=bI w6 [.bool J,.slice q G C,.bool N,.slice r I D] 71;have:=St.mk F;have:=St.mk ay;replace p:=p.up (b:=w7);replace t:=t.up (b:=w7);replace B:=B.up (b:=w7);replace o:=o.up (b:=w7);replace zb:=bJ (b:=w7) zb;have ak:=aa t.g8 (aa B.k4 (aa o.g8 M.k4));go_wp2_with fail;(try rw[e7]);(try clear e7);refine(aq _ _ (hv.be zb) p).mono ?_;rintro e8 w8 ⟨v8,rfl,h8,az⟩;have:=St.mk az;go_wp2_with fail;refine(gm _ _ h8).mono ?_;rintro e9 P ⟨rfl,a0⟩;have:=St.mk a0;replace p:=p.up (b:=P);replace a5:=a5.up (b:=P);replace b5:=b5.up (b:=P);replace t:=t.up (b:=P);replace B:=B.up (b:=P);replace o:=o.up (b:=P);replace M:=M.up (b:=P);replace zb:=bJ (b:=P) zb;have ak:=aa t.g8 (aa B.k4 (aa o.g8 M.k4));clear ag gm aq;by_cases hz:Sm=0
     ·subst hz;obtain rfl:=H.out.1 rfl;clear H;go_wp2_with fail;obtain⟨W6,f,R6,F,d⟩:=o.put8 zb (by omega) (.bool J) (.slice q G C) (.bool N) (.slice r I D) (.bool J) (.slice q G C) (.bool N) (.slice r I D) rfl;rw[f];exact aM (v:= .agg #[.bool J,.slice q G C,.bool N,.slice r I D,.bool J,.slice q G C,.bool N,.slice r I D]) (by simp[results,results31,go_sem,R6.k8]) rfl ⟨_,rfl,SpanAt.of (p.ke d) (p.ke d),km,km,F⟩
     ·have a6:(Sm==0)=false:=beq_eq_false_iff_ne.2 hz;by_cases U:Sm=S
      ·subst U;have HR:=aB (H.out.2.1 hz rfl);clear H hz;go_wp2_with fail;obtain⟨W6,f,T,F,d,ff⟩:=t.put84 zb (by omega) 0 (.bool J) (.slice q G C) (.bool N) (.slice r I D) rfl;simp only[Nat.reduceAdd] at f;rw[f];clear f;replace T:Bx W6 w.1.size [.bool J,.slice q G C,.bool N,.slice r I D,.bool s3,.slice A3 k3 c3,.bool s4,.slice A4 k4 c4] 76:=T;go_roundg k
       case rel=>exact⟨m,b,HR.out,⟨_,_,_,_,_,_,_,_,_,_,_,_,_,_,_,_,T,p.ke d,b5.ke d⟩,ff B (by omega),ff o (by omega),F⟩
       case measure=>omega
      ·have a4:(Sm==S)=false:=beq_eq_false_iff_ne.2 U;have HR:=aB (H.out.2.2.1 hz U);clear H hz U;go_wp2_with fail;obtain⟨W6,f,T,F,d,ff⟩:=t.put84 zb (by omega) 4 (.bool J) (.slice q G C) (.bool N) (.slice r I D) rfl;simp only[Nat.reduceAdd] at f;rw[f];clear f;replace T:Bx W6 w.1.size [.bool s1,.slice V k1 c1,.bool s2,.slice Z k2 c2,.bool J,.slice q G C,.bool N,.slice r I D] 76:=T;go_roundg k
       case rel=>exact⟨a,m,HR.out,⟨_,_,_,_,_,_,_,_,_,_,_,_,_,_,_,_,T,a5.ke d,p.ke d⟩,ff B (by omega),ff o (by omega),F⟩
       case measure=>omega
   ·obtain rfl:(a,b)=Q:=by rw[<-ac.out.1,byW (fun e=>ap (ad.out.2 e))]
    clear ac ad;go_wp2_with fail;obtain⟨W6,f,R6,F,d⟩:=o.put8 zb (by omega) (.bool s1) (.slice V k1 c1) (.bool s2) (.slice Z k2 c2) (.bool s3) (.slice A3 k3 c3) (.bool s4) (.slice A4 k4 c4) rfl;rw[f];exact aM (v:= .agg #[.bool s1,.slice V k1 c1,.bool s2,.slice Z k2 c2,.bool s3,.slice A3 k3 c3,.bool s4,.slice A4 k4 c4]) (by simp[results,results31,go_sem,R6.k8]) rfl ⟨_,rfl,SpanAt.of (a5.ke d) (b5.ke d),ka,kb,F⟩
  )
def qY(d:List (List UInt8))(s:List Int)(c:List (List Int))(a b:List UInt8):Bool:=decide (dM d=0)&&mB s a b (fF s c 0 ((bD a).getD 0) 0 ((bD b).getD 0))
def ay9{A:List Rat}{w w' s s':List Int}{c':List (List Int)}(c:Prp A w)(d:Prp A w')(h:Sqp B w s)(f:CnZ w' s' c')(a b:List UInt8)(N:Int):mB s a b N=mB s' a b N:=by
 unfold mB pS;have e:decide (aP s 0 ((bD a).getD 0)=0)=decide (aP s' 0 ((bD a).getD 0)=0):=decide_eq_decide.2 ((sG c h _).symm.trans (sG d f.2.1 _));rw[ayD h f.2.1 c d,e]
def ayA(d:List (List UInt8))(w0 s:List Int)(c:List (List Int))(a b:List UInt8)(t:dM d=0->Prp (aU d) w0∧CnZ w0 s c)(v:Value)(w:World)(i:Glob w)(hv:StrsAt w v d)(O:d.length<=7)(hs:∀l∈d,l.length<=6)(la:EdT a)(lb:EdT b):
  Calls prog 17 #[v,.agg #[.string ⟨a.toArray⟩,.string ⟨b.toArray⟩]] w fun e w'=>e= .returned (.bool (qY d s c a b))∧Below w.1.size w w':=by
 obtain⟨A,cc,rfl,ar⟩:=hv.form;have o:=fun W i h=>D5 d (.slice A d.length cc) W i h O hs;have ac:∀q∈aU d,RL 1 q:=pI (fun l O=>aH (hs l O) (by decide));have ai:(aU d).length=d.length:=cH _;have ad:=uL d;have j:Hid (qY d s c a b=(decide (dM d=0)&&mB s a b (fF s c 0 ((bD a).getD 0) 0 ((bD b).getD 0)))):=rfl;unfold uK at o;obtain⟨Z,n⟩:∃Z,qY d s c a b=Z:=⟨_,rfl⟩;rw[n] at j⊢;obtain⟨E,hE⟩:∃E,dM d=E:=⟨_,rfl⟩;rw[hE] at o ad t j;clear n hE;obtain⟨W,Y,f,X⟩:=bI w [.string ⟨a.toArray⟩,.string ⟨b.toArray⟩] 24;have cM:=X.g2;go_enter func17,ntmps17;go_wp2_with fail;(try rw[Y]);clear Y;refine(o _ (i.be f) (hv.be f)).mono ?_;rintro e1 w1 ⟨A1,k1,c1,aw,rfl,⟨s2,A2,k2,c2,rfl⟩,G,L⟩;obtain⟨U,m,M,F⟩:=bI w1 [.bool s2,.slice A2 k2 c2] 67;have K:=aC L M;replace X:=X.be K;replace f:=aC f K;have cX:=aa X.k2 F.k2;rcases ad with ⟨rfl,R,h0⟩|⟨rfl, -⟩|⟨rfl, -, -⟩;rotate_left
 ·skip;have r:Hid (Z=false):=by unfold Hid;rw[j.out];rfl
  clear G o j t;go_wp2_with fail;(try rw[m]);(try clear m);go_ret;exact⟨by rw[r.out];rfl,f⟩
 ·skip;have r:Hid (Z=false):=by unfold Hid;rw[j.out];rfl
  clear G o j t;go_wp2_with fail;(try rw[m]);(try clear m);go_ret;exact⟨by rw[r.out];rfl,f⟩
 obtain⟨T,n⟩:=t rfl;obtain⟨D, -, -,z,H, -⟩:=G rfl;replace H:=H.be M;have af:(cC (aU d) D).length=d.length:=by rw[oN,ai]
 have ag:cC (aU d) D≠[]:=fun e=>h0 (bX (by rw[<-af,e];rfl));have aj:=oO z.pos z.dvd (pJ R).2.2;have P:=sA _ D 1 _ ac z.nl_;have ah:=uE z (pJ R).2.2;have Q:=nM ah;have ap:=gU P;have aq:(aS (cC (aU d) D)).length<=7:=by rw[dF];omega
 obtain⟨A8,c8,V, -⟩:=H.form;simp only[Value.slice.injEq] at V;obtain⟨rfl,rfl,rfl⟩:=V;have ao:=fun W i h=>CZ (cC (aU d) D) (.slice A1 (cC (aU d) D).length c1) W i h aj ag (by omega) P;have ae:=fun g u W i h (k:Sqp 24057 (aS (cC (aU d) D)) g) (S:Sz g)=>ayC g a b (fF s c 0 ((bD a).getD 0) 0 ((bD b).getD 0)) u W i h k.ts k.ne S la lb (fun c' hc=>(show Cn 110079 (aS (cC (aU d) D)) g c' from⟨k.mono (by decide),hc⟩).unique n.1 (by decide) (by decide) Q T 0 _ 0 _);have r:Hid (∀g,Sqp 24057 (aS (cC (aU d) D)) g->mB g a b (fF s c 0 ((bD a).getD 0) 0 ((bD b).getD 0))=Z):=fun g k=>by
  rw[j.out,ay9 Q T k n];rfl
 unfold DU at ae;clear o G z af ag aj P ah Q T n t j ac ai h0 R L M K ap aq;generalize cC (aU d) D=ns at *;generalize fF s c 0 ((bD a).getD 0) 0 ((bD b).getD 0)=N at *;generalize (⟨a.toArray⟩:ByteArray)=ta at *;generalize (⟨b.toArray⟩:ByteArray)=tb at *;go_wp2_with fail;(try rw[m]);(try clear m);have n1:U.1.size≠w.1.size:=Nat.ne_of_gt X.lt;go_cut [9] (fun s9 wx=>s9= .bool Z∧Below w.1.size w wx)
 case first=>
  go_region_held3 (fun w'=>C2 w' w.1.size (.string ta) (.string tb)) (first|with_reducible exact X.up.k2|with_reducible exact C.up.k2|with_reducible exact(C.far8 n1).k2|with_reducible exact(C.far8 (Nat.ne_of_gt (aZ X.lt f.size))).k2)
   (first
    |(go_at_call 28;refine(ao _ (i.be f).up H.up).mono ?_;rintro e7 I ⟨v7,g,rfl,h7,k,S,al⟩;have:=St.mk al;have C:=X.up (b:=I);have s7:=(bJ (b:=I) f).size)
    |(go_at_call 29;refine(ae g _ _ (i.be f).up h7.up k S).mono ?_;rintro e9 J ⟨v9,rfl,⟨x,y,⟨s1,A3,k3,c3,s4,A4,k4,c4,s5,A5,k5,c5,s6,A6,k6,c6,rfl,au,av⟩, -⟩,am⟩;have:=St.mk am;have HS:=r.out g k;have C:=X.up (b:=J);have B:=bJ (b:=J) f;(try (have p:=(Bx.newAt U [.bool false,.slice none 0 0,.bool false,.slice none 0 0,.bool false,.slice none 0 0,.bool false,.slice none 0 0] 76 U.1.size rfl).up (b:=J);have ak:=p.g8));(try (have p:=(Bx.newAt I [.bool false,.slice none 0 0,.bool false,.slice none 0 0,.bool false,.slice none 0 0,.bool false,.slice none 0 0] 76 I.1.size rfl).up (b:=J);have ak:=p.g8))))
  all_goals (
   go_wp2;go_meet;refine⟨rfl,?_⟩
   first|(with_reducible exact B.alloc B.size _)|(with_reducible exact LV p B f.size rfl)|(with_reducible exact LV p B s7 rfl))
 case rest=>
  obtain⟨rfl,an⟩:=hcut;go_wp2;go_ret;exact⟨rfl,an⟩
def bzY{f g:Rat->Int}(h:∀x y,f x*f y=g x*g y)(j:∀x,f x=1∨f x=0∨f x= -1)(l:∀x,g x=1∨g x=0∨g x= -1)(L:Rat):∀(n:Nat) (a b:Rat),azN f L n a b=azN g L n a b
 |0,_,_=>rfl
 |n+1,a,b=>by
  have q:f ((a+b)/2)=0↔g ((a+b)/2)=0:=by
   have:=h ((a+b)/2) ((a+b)/2);rcases j ((a+b)/2) with e|e|e<;>rcases l ((a+b)/2) with c|c|c<;>rw[e,c] at this⊢<;>omega
  by_cases d:L<b-a
  ·by_cases i:f ((a+b)/2)=0
   ·rw[bq0 d i,bq0 d (q.1 i)]
   ·have p:=fun k=>i (q.2 k);have r:f ((a+b)/2)=f a↔g ((a+b)/2)=g a:=by
     have:=h ((a+b)/2) a;rcases j ((a+b)/2) with e|e|e<;>rcases l ((a+b)/2) with c|c|c<;>rcases j a with k|k|k<;>rcases l a with o|o|o<;>rw[e,k,c,o] at this<;>first|exact absurd e i|exact absurd c p|(rw[e,k,c,o]<;>omega)
    by_cases m:f ((a+b)/2)=f a
    ·rw[bq1 d i m,bq1 d p (r.1 m),bzY h j l L n]
    ·rw[bq2 d i m,bq2 d p (fun k=>m (r.2 k)),bzY h j l L n]
  ·rw[byW d,byW d]
abbrev azQ(t:List UInt8):Rat:=(bD t).getD 0
structure RfD(ls:List (List UInt8))(s:List Int)(c:List (List Int))(a b t:List UInt8)(n:Nat)(Q:Rat×Rat)(E:Int)(p:List UInt8×List UInt8):Prop where
 bad:(qY ls s c a b&&rd t)=false->E=1∧p=([],[])
 neg:(qY ls s c a b&&rd t)=true->azQ t<=0->E=3∧p=([],[])
 ok:(qY ls s c a b&&rd t)=true->0<azQ t->E=0∧p=kQ Q∧azN (fun z=>aP s 0 z) (azQ t) n ((bD a).getD 0) ((bD b).getD 0)=Q∧(bD b).getD 0-(bD a).getD 0<=azQ t*2^n∧∀j i,j<=n->i<=2^j->RL 160000010 (azB ((bD a).getD 0) ((bD b).getD 0-(bD a).getD 0) i j)
def bxU(w:World)(E:Int)(p:List UInt8×List UInt8)(e:Ending)(w':World):Prop:=e= .returned (.tuple #[.agg #[.string ⟨p.1.toArray⟩,.string ⟨p.2.toArray⟩],.int .i64 E])∧Below w.1.size w w'
def bqQ(n:Nat):(2:Rat)^n=p2 n:=by
 induction n with
 |zero=>rfl
 |succ n a=>rw[azH,a,jQ,uP]
def bqR{y:Rat}(h:RL K x)(t:RL K y)(s:RL 1 L)(f:0<L):∃n,y-x<=L*2^n∧∀j i,j<=n->i<=2^j->RL (8*K+10) (azB x (y-x) i j):=by
 have g:=JM t h;refine⟨64*(2*K+2),?_,fun j i r q=>bU (cxB (K:=K+K+1) (bU h (by omega)) g q (m:=2*K+2) r) (by omega)⟩;have c:=ax3 g;have l:(1:Rat)<=L*p2 64:=by
  have d:=(yJ (n:=(L.den:Int)) (k:=1) s.2).2;rw[DJ] at d;have v:L*((L.den:Int):Rat)=((L.num:Int):Rat):=by
   have c:(L.num:Rat)/((L.den:Int):Rat)=L:=by rw[<-Rat.divInt_eq_div];exact Rat.num_divInt_den L
   have o:=gW (a:=(L.num:Rat)) (b:=((L.den:Int):Rat)) (fun e=>by have:=pP (n:=(L.den:Int)) (by have:=L.den_pos;omega);grind);rwa [c] at o
  have w:(1:Rat)<=((L.num:Int):Rat):=pP (pK f);have p:=Rat.mul_le_mul_of_nonneg_left d (az6 f);have e:64*1=64:=rfl;rw[e] at p;grind
 rw[bqQ,show 64*(2*K+2)=64+64*(K+K+1) by omega,jQ,<-azC];have z:=jZ (64*(K+K+1));have u:=Rat.mul_le_mul_of_nonneg_right l (show(0:Rat)<=p2 (64*(K+K+1)) by grind);grind
def bqT(f:List (List UInt8))(w0 s:List Int)(c:List (List Int))(a b t:List UInt8)(n:Nat)(Q:Rat×Rat)(E:Int)(p:List UInt8×List UInt8)(Y:dM f=0->Prp (aU f) w0∧CnZ w0 s c)(hD:RfD f s c a b t n Q E p)(v:Value)(w:World)(i:Glob w)(hv:StrsAt w v f)(hl:f.length<=7)(hs:∀l∈f,l.length<=6)(la:EdT a)(lb:EdT b)(lt:t.length<=18):
  Calls prog 10 #[v,.agg #[.string ⟨a.toArray⟩,.string ⟨b.toArray⟩],.string ⟨t.toArray⟩] w (bxU w E p):=by
 obtain⟨A,cc,rfl,bm⟩:=hv.form;have ah:=fun W i h=>D5 f (.slice A f.length cc) W i h hl hs;have ac:=fun W i=>wU t W i (by omega);have aq:∀q∈aU f,RL 1 q:=pI (fun l hl=>aH (hs l hl) (by decide));have a0:(aU f).length=f.length:=cH _;have av:=uL f;have G:Hid (qY f s c a b=(decide (dM f=0)&&mB s a b (fF s c 0 ((bD a).getD 0) 0 ((bD b).getD 0)))):=rfl;have a1:(bD t).isSome=rd t:=rfl;unfold uK at ah;unfold IP at ac;rw[a1] at ac;obtain⟨db,dn,dk⟩:=hD;have I:rd t=true->RL 1 (azQ t):=fun h2=>by
  obtain⟨q,hq⟩:=Option.isSome_iff_exists.1 h2;unfold azQ;rw[hq];exact tS hq lt
 obtain⟨Z,V⟩:∃Z,qY f s c a b=Z:=⟨_,rfl⟩;obtain⟨F,hF⟩:∃F,dM f=F:=⟨_,rfl⟩;obtain⟨o,ho⟩:∃o,rd t=o:=⟨_,rfl⟩;rw[V] at G db dn dk;rw[hF] at ah av Y G;rw[ho] at ac db dn dk I;clear V hF ho a1;unfold bxU;rw[show(bD t).getD 0=azQ t from rfl] at ac;generalize azQ t=L at *;have B:=aB db;have K:=aB dn;have J:=aB dk;clear db dn dk;obtain⟨W,eW,d,X,R⟩:=eL w [.string ⟨a.toArray⟩,.string ⟨b.toArray⟩] 24 [.string ⟨#[]⟩,.string ⟨#[]⟩] 24;have T:=aa X.g2 R.g2;go_enter func10,ntmps10;go_wp2_with fail;(try rw[eW]);clear eW;refine(ah _ (i.be d) (hv.be d)).mono ?_;rintro e1 w1 ⟨A1,k1,c1,bn,rfl,⟨s2,A2,k2,c2,rfl⟩,ae,a8⟩;obtain⟨w2,e2,ba,D⟩:=bI w1 [.bool s2,.slice A2 k2 c2] 67;have:=St.mk a8;have:=St.mk ba;replace X:=X.up (b:=w2);replace R:=R.up (b:=w2);replace d:=bJ (b:=w2) d;have T:=aa X.k2 (aa R.g2 D.k2);go_wp2_with fail;(try rw[e2]);(try clear e2);refine(ac _ (i.be d)).mono ?_;rintro e3 w3 ⟨v3,rfl,U,bb⟩;obtain⟨s3,A3,k3,c3,s4,A4,k4,c4,rfl⟩:=U.form;obtain⟨w4,M,bc,P⟩:=bI w3 [.bool s3,.slice A3 k3 c3,.bool s4,.slice A4 k4 c4] 71;have:=St.mk bb;have:=St.mk bc;replace X:=X.up (b:=w4);replace R:=R.up (b:=w4);replace d:=bJ (b:=w4) d;replace U:=U.up (b:=w4);have T:=aa X.k2 (aa R.g2 P.k4);clear ah ac D;rcases av with ⟨rfl,am,h0⟩|⟨rfl, -⟩|⟨rfl, -, -⟩;rotate_left
 ·obtain⟨rfl,rfl⟩:=B.out (by rw[G.out];rfl);cases o
  all_goals (
   clear ae B K J G Y I;go_wp2_with fail;(try rw[M]);(try clear M);obtain⟨W6,r,C,m,hk,ff⟩:=R.put2 d (by omega) (.string ⟨#[]⟩) (.string ⟨#[]⟩) rfl rfl;rw[r];exact aM (v:= .tuple #[.agg #[.string ⟨#[]⟩,.string ⟨#[]⟩],.int .i64 1]) (by simp[results,results10,go_sem,C.k2]) rfl ⟨rfl,m⟩
  )
 ·obtain⟨rfl,rfl⟩:=B.out (by rw[G.out];rfl);cases o
  all_goals (
   clear ae B K J G Y I;go_wp2_with fail;(try rw[M]);(try clear M);obtain⟨W6,r,C,m,hk,ff⟩:=R.put2 d (by omega) (.string ⟨#[]⟩) (.string ⟨#[]⟩) rfl rfl;rw[r];exact aM (v:= .tuple #[.agg #[.string ⟨#[]⟩,.string ⟨#[]⟩],.int .i64 1]) (by simp[results,results10,go_sem,C.k2]) rfl ⟨rfl,m⟩
  )
 cases o with
 |false=>
  obtain⟨rfl,rfl⟩:=B.out (by rw[Bool.and_false]);clear ae B K J G Y I;go_wp2_with fail;(try rw[M]);(try clear M);obtain⟨W6,r,C,m,hk,ff⟩:=R.put2 d (by omega) (.string ⟨#[]⟩) (.string ⟨#[]⟩) rfl rfl;rw[r];exact aM (v:= .tuple #[.agg #[.string ⟨#[]⟩,.string ⟨#[]⟩],.int .i64 1]) (by simp[results,results10,go_sem,C.k2]) rfl ⟨rfl,m⟩
 |true=>
  obtain⟨pA,V⟩:=Y rfl;obtain⟨D, -, -,ad,hx, -⟩:=ae rfl;replace hx:=hx.up (b:=w4);have aw:(cC (aU f) D).length=f.length:=by rw[oN,a0]
  have ax:cC (aU f) D≠[]:=fun e=>h0 (bX (by rw[<-aw,e];rfl));have a4:=oO ad.pos ad.dvd (pJ am).2.2;have ay:=sA _ D 1 _ aq ad.nl_;have az:=uE ad (pJ am).2.2;have ag:=nM az;obtain⟨A8,c8,e8, -⟩:=hx.form;simp only[Value.slice.injEq] at e8;obtain⟨rfl,rfl,rfl⟩:=e8;have a3:=fun W i h=>CZ (cC (aU f) D) (.slice A1 (cC (aU f) D).length c1) W i h a4 ax (by omega) ay;have aj:=fun j u W i h (H:Sqp 24057 (aS (cC (aU f) D)) j) (hz:Sz j)=>ayC j a b (fF s c 0 ((bD a).getD 0) 0 ((bD b).getD 0)) u W i h H.ts H.ne hz la lb (fun c' hc=>(show Cn 110079 (aS (cC (aU f) D)) j c' from⟨H.mono (by decide),hc⟩).unique V.1 (by decide) (by decide) ag pA 0 _ 0 _);have HF:Hid (∀j,Sqp 24057 (aS (cC (aU f) D)) j->mB j a b (fF s c 0 ((bD a).getD 0) 0 ((bD b).getD 0))=Z∧∀L n x y,azN (fun z=>aP j 0 z) L n x y=azN (fun z=>aP s 0 z) L n x y):=fun j H=>by
   refine⟨by rw[G.out,ay9 ag pA H V];rfl,fun L n x y=>bzY (fun x y=>ayD H V.2.1 ag pA x y) (qX j 0) (qX s 0) L n x y⟩
  have ra:Z=true->RL 20000000 ((bD a).getD 0)∧RL 20000000 ((bD b).getD 0):=fun h=>by
   rw[G.out] at h;unfold mB at h;simp only[az7] at h;exact⟨la.2 h.2.1.1,lb.2 h.2.1.2⟩
  unfold DU at aj;clear ae ad aw ax a4 ay az ag pA V Y G aq a0 h0 am;generalize cC (aU f) D=ns at *;generalize fF s c 0 ((bD a).getD 0) 0 ((bD b).getD 0)=N at *;generalize a7:(bD a).getD 0=x at *;generalize bj:(bD b).getD 0=y at *;clear a7 bj;replace I:=I rfl;rw[Bool.and_true] at B K J;have al:=fun W u h=>J4 L u W h (aH I.1 (by decide));unfold eO at al;go_wp2_with fail;(try rw[M]);(try clear M);refine(a3 _ (i.be d) hx).mono ?_;rintro e5 w5 ⟨v5,j,rfl,h5,H,hz,bf⟩;have:=St.mk bf;obtain⟨hT,au⟩:=HF.out j H;have T:=(X.up (b:=w5)).k2;clear a3 hx;go_wp2_with fail;refine(aj j _ _ (i.be d).up h5 H hz).mono ?_;rintro r w6 ⟨v6,rfl,⟨x',y',⟨s5,A5,k5,c5,s6,A6,k6,c6,s7,A7,k7,c7,s8,A8,k8,c8,rfl,an,ap⟩,ao⟩,m⟩;obtain⟨O,e7,bg,S⟩:=bI w6 [.bool s5,.slice A5 k5 c5,.bool s6,.slice A6 k6 c6,.bool s7,.slice A7 k7 c7,.bool s8,.slice A8 k8 c8] 76;have:=St.mk m;have:=St.mk bg;replace X:=X.up (b:=O);replace R:=R.up (b:=O);replace P:=P.up (b:=O);replace d:=bJ (b:=O) d;replace U:=U.up (b:=O);replace h5:=h5.up (b:=O);replace an:=an.up (b:=O);replace ap:=ap.up (b:=O);have T:=aa R.g2 (aa P.k4 S.k8);rw[hT] at ao⊢;clear aj hT HF;cases Z with
  |false=>
   obtain⟨rfl,rfl⟩:=B.out rfl;clear B K J ao;go_wp2_with fail;(try rw[e7]);(try clear e7);obtain⟨W6,r,C,m,hk,ff⟩:=R.put2 d (by omega) (.string ⟨#[]⟩) (.string ⟨#[]⟩) rfl rfl;rw[r];exact aM (v:= .tuple #[.agg #[.string ⟨#[]⟩,.string ⟨#[]⟩],.int .i64 1]) (by simp[results,results10,go_sem,C.k2]) rfl ⟨rfl,m⟩
  |true=>
   obtain⟨rfl,rfl⟩:=ao rfl;obtain⟨kx,ky⟩:=ra rfl;have a2:L.num.sign<=0↔L<=0:=by
    rcases iY L with h|h|h
    ·rw[(fS _).2 h];exact⟨fun _=>by grind,fun _=>by decide⟩
    ·rw[h];exact⟨fun _=>by decide,fun _=>by decide⟩
    ·rw[(fS _).1 h];exact⟨fun k=>absurd k (by decide),fun k=>by grind⟩
   have af:=aB a2;clear a2;generalize L.num.sign=SL at *;go_wp2_with fail;(try rw[e7]);(try clear e7);refine(al _ _ U).mono ?_;rintro e8 w8 ⟨rfl,bh⟩;have:=St.mk bh;replace R:=R.up (b:=w8);replace P:=P.up (b:=w8);replace S:=S.up (b:=w8);replace d:=bJ (b:=w8) d;have T:=aa R.g2 (aa P.k4 S.k8);clear al;by_cases ai:SL<=0
   ·obtain⟨rfl,rfl⟩:=K.out trivial (af.out.1 ai);clear B K J;go_wp2_with fail;obtain⟨W6,r,C,m,hk,ff⟩:=R.put2 d (by omega) (.string ⟨#[]⟩) (.string ⟨#[]⟩) rfl rfl;rw[r];exact aM (v:= .tuple #[.agg #[.string ⟨#[]⟩,.string ⟨#[]⟩],.int .i64 3]) (by simp[results,results10,go_sem,C.k2]) rfl ⟨rfl,m⟩
   ·have ar:0<L:=by
     rcases iY L with h|h|h
     ·exact absurd (af.out.2 (by grind)) ai
     ·exact absurd (af.out.2 (by grind)) ai
     ·exact h
    obtain⟨rfl,rfl,hQ,hf,hp⟩:=J.out trivial ar;have ak:=fun v u g W i h h1 h2=>bqV j x' y' L n 160000010 Q (by rw[au,hQ]) v u g W i h hz h1 h2 hf hp (bU I (by decide)) (by decide) (by decide);have a5:=fun v W i h (k1:RL 160000010 Q.1) (k2:RL 160000010 Q.2)=>ZX Q.1 Q.2 v W i h 160000010 k1 k2 (by decide);unfold bq7 at ak;clear B K J af hQ hf hp ar au kx ky I ra;go_wp2_with fail;refine(ak _ _ _ _ (i.be d) h5.up (SpanAt.of (an.up (b:=w8)) (ap.up (b:=w8))) U.up).mono ?_;rintro e9 w9 ⟨v9,rfl,h9,q1,q2,bi⟩;have:=St.mk bi;replace R:=R.up (b:=w9);replace d:=bJ (b:=w9) d;have T:=R.g2;clear ak;go_wp2_with fail;refine(a5 _ _ (i.be d) h9 q1 q2).mono ?_;rintro bk a6 ⟨rfl,a9⟩;have:=St.mk a9;replace R:=R.up (b:=a6);replace d:=bJ (b:=a6) d;have T:=R.g2;clear a5;go_wp2_with fail;obtain⟨W6,r,C,m,hk,ff⟩:=R.put2 d (by omega) (.string ⟨(cW Q.1).toArray⟩) (.string ⟨(cW Q.2).toArray⟩) rfl rfl;rw[r];exact aM (v:= .tuple #[.agg #[.string ⟨(cW Q.1).toArray⟩,.string ⟨(cW Q.2).toArray⟩],.int .i64 0]) (by simp[results,results10,go_sem,C.k2]) rfl ⟨rfl,m⟩
end Go.Proofs.YtpjpfjephpgcbaaGreatDoor
namespace Go.Proofs.YtpjpfjephpgcbaaGreatDoor
open Sos
def IsoAt(s:List Int)(c:List (List Int))(a b:Rat):Prop:=a=b∧aP s 0 a=0∨a<b∧aP s 0 a≠0∧aP s 0 b≠0∧fF s c 0 a 0 b=1
section
variable {A:List Rat}{w s:List Int}{c:List (List Int)}{L a b:Rat}
def CnZ.kd(d:CnZ w s c):∀n∈aS (bB s),nl n.natAbs<=110079:=fun n hn=>aH (gU (pL d.2.2.1.nums (by have:=d.2.2.1.1;omega)) n hn) (by decide)
def IsoAt.ok(e:Prp A w)(d:CnZ w s c)(h:IsoAt s c a b):pS s a b (fF s c 0 a 0 b)=true:=by
 unfold pS;rcases h with ⟨rfl,h⟩|⟨h,f,g,hn⟩
 ·rw[if_neg (by grind),decide_eq_true rfl,decide_eq_true h];rfl
 ·rw[if_pos h,decide_eq_true hn,decide_eq_true (ay6 d.1 e.2.1 d.kd f g hn)];rfl
def cxY{K:Nat}{l:List (Rat×Rat)}(h:ExQ K (fun x=>aY 0 ((s :: c).map (fun a=>aP a 0 x))) (fun x=>aP s 0 x) a b l):a<b->∀p∈l,IsoAt s c p.1 p.2∧a<=p.1∧p.2<=b:=by
 induction h with
 |none h=>exact fun _ p d=>by cases d
 |hit h g=>exact fun e p d=>by rw[List.mem_singleton.1 d];exact⟨.inl ⟨rfl,g⟩,az6 e,byB⟩
 |one h g m=>exact fun e p d=>by rw[List.mem_singleton.1 d];exact⟨.inr ⟨e,m,g,by have k:=h;unfold fF;dsimp only at k⊢;omega⟩,byB,byB⟩
 |split h q r _ _ n o=>
  intro e p d;rcases List.mem_append.1 d with d|d
  ·obtain⟨f,i,j⟩:=n (by grind) p d;exact⟨f,i,by grind⟩
  ·obtain⟨f,i,j⟩:=o (by grind) p d;exact⟨f,by grind,j⟩
def cxZ(u:Prp A w)(e:CnZ w s c)(B:0<L):∀(n:Nat) (a b:Rat),IsoAt s c a b->b-a<=L*2^n->IsoAt s c (azN (fun z=>aP s 0 z) L n a b).1 (azN (fun z=>aP s 0 z) L n a b).2∧a<=(azN (fun z=>aP s 0 z) L n a b).1∧(azN (fun z=>aP s 0 z) L n a b).2<=b∧(azN (fun z=>aP s 0 z) L n a b).2-(azN (fun z=>aP s 0 z) L n a b).1<=L:=by
 have x:=e.2.2.1.1;have y:∀n∈s,nl n.natAbs<=110079:=fun n hn=>aH (e.2.2.1.nums n hn) (by decide);intro n;induction n with
 |zero=>
  intro a b h j;have:=bqF j;rw[byW this];exact⟨h,byB,byB,by grind⟩
 |succ n o=>
  intro a b h j;by_cases f:L<b-a
  ·rcases h with ⟨rfl, -⟩|⟨C,m,v,hn⟩
   ·exfalso;grind
   ·obtain⟨r,t⟩:=cxA j;by_cases d:aP s 0 ((a+b)/2)=0
    ·rw[bq0 f d];exact⟨.inl ⟨rfl,d⟩,by show a<=(a+b)/2;grind,by show(a+b)/2<=b;grind,by show(a+b)/2-(a+b)/2<=L;grind⟩
    ·rcases bqI e.1 u.2.1 x y e.kd (show a<(a+b)/2 by grind) (show(a+b)/2<b by grind) m d hn with ⟨g,i⟩|⟨-,g,i⟩
     ·rw[bq2 f d i];obtain⟨k,p,q,l⟩:=o a ((a+b)/2) (.inr ⟨by grind,m,d,g⟩) r;exact⟨k,p,by grind,l⟩
     ·rw[bq1 f d i];obtain⟨k,p,q,l⟩:=o ((a+b)/2) b (.inr ⟨by grind,d,v,g⟩) t;exact⟨k,by grind,q,l⟩
  ·rw[byW f];exact⟨h,byB,byB,by grind⟩
end
def cyN{f:Rat->Int}{x d L:Rat}{n K:Nat}(e:∀j i,j<=n->i<=2^j->RL K (azB x d i j)):∀(k i j:Nat),j+k=n->i+1<=2^j->RL K (azN f L k (azB x d i j) (azB x d (i+1) j)).1∧RL K (azN f L k (azB x d i j) (azB x d (i+1) j)).2
 |0,i,j,h,hi=>⟨e j i (by omega) (by omega),e j (i+1) (by omega) hi⟩
 |k+1,i,j,h,hi=>by
  have t:¬L<azB x d (i+1) j-azB x d i j->RL K (azN f L (k+1) (azB x d i j) (azB x d (i+1) j)).1∧RL K (azN f L (k+1) (azB x d i j) (azB x d (i+1) j)).2:=fun g=>by
   rw[byW g];exact⟨e j i (by omega) (by omega),e j (i+1) (by omega) hi⟩
  by_cases g:L<azB x d (i+1) j-azB x d i j
  ·obtain⟨q,l⟩:=bqH x d i j;have r:=(bqH x d (i+1) j).1;have p:(2:Nat)^(j+1)=2^j*2:=dH ..;by_cases m:f ((azB x d i j+azB x d (i+1) j)/2)=0
   ·rw[bq0 g m,l];have:=e (j+1) (2*i+1) (by omega) (by omega);exact⟨this,this⟩
   ·by_cases o:f ((azB x d i j+azB x d (i+1) j)/2)=f (azB x d i j)
    ·rw[bq1 g m o,l,<-r];exact cyN e k (2*i+1) (j+1) (by omega) (by omega)
    ·rw[bq2 g m o,l,<-q];exact cyN e k (2*i) (j+1) (by omega) (by omega)
  ·exact t g
end Go.Proofs.YtpjpfjephpgcbaaGreatDoor
namespace Go.Proofs.YtpjpfjephpgcbaaGreatDoor
open Go.RowKit Sos Tryz
variable{a b w w':World}{B M g k:Nat}{u v:Value}{e:TypeId}{f i r:List Value}{d l:List Rat}{A:Option Addr}
def jH(n:Nat)(a:List (List UInt8)):Bool:=a.all (fun l=>decide (l.length<=n))
def LX(n:Nat)(a:List (List UInt8))(v:Value)(w:World)(hv:StrsAt w v a)(hn:n<=1073741824)(G:a.length<=1073741824)(y:∀l∈a,l.length<=9223372036854775807):
  Calls prog 6 #[.int .i64 n,v] w fun e w'=>e= .returned (.bool (jH n a))∧w=w':=by
 obtain⟨A,c,rfl,C⟩:=hv.form;go_enter func6,ntmps6;go_wp2_with fail;go_loopg [5] a.length (fun k i wr=>∃j,Hid (j+k=a.length)∧i= .int .i64 j∧Hid (jH n (a.take j)=true)∧w=wr)
 case atStart=>exact⟨0,by unfold Hid;omega,rfl,rfl,rfl⟩
 case round=>
  obtain⟨j,f,rfl,g,rfl⟩:=hrel;have E:(0:Int)<=(j:Int):=by omega
  cases gk with
  |zero=>
   have m:j=a.length:=f.out;have r:Hid (jH n a=true):=by
    have:=g.out;rwa [m,aq9] at this
   subst m;go_wp2;go_ret;rw[r.out];exact⟨rfl,rfl⟩
  |succ k=>
   have x:j<a.length:=by have:=f.out;omega
   have F:(j:Int)<(a.length:Int):=by omega
   obtain⟨t,d⟩:∃t,a[j]? =some t:=⟨_,aR x⟩;have p:jH n (a.take (j+1))=decide (t.length<=n):=by
    unfold jH;rw[kR,d,aqO,byJ];have:=g.out;unfold jH at this;rw[this];simp
   have o:¬t.length<=n->jH n a=false:=fun h=>by
    unfold jH;rw[List.all_eq_false];exact⟨t,dG d,by simpa using h⟩
   have u:=aB p;have s:=aB o;have I:=y t (dG d);obtain⟨b,J,rfl,B,D⟩:=hv.at_ d;have H:(⟨t.toArray⟩:ByteArray).size=t.length:=by simp[ByteArray.size]
   clear p o d g;by_cases q:t.length<=n
   ·have z:¬(n:Int)<(t.length:Int):=by omega
    go_wp2;go_roundg k
    case rel=>exact⟨j+1,by have:=f.out;unfold Hid;omega,by go_num,by unfold Hid;rw[u.out];exact decide_eq_true q,rfl⟩
    case measure=>omega
   ·have z:(n:Int)<(t.length:Int):=by omega
    go_wp2;go_ret;rw[s.out q];exact⟨rfl,rfl⟩
def TsAt.up[u:Up a b]{c:List (List (List UInt8))}(h:TsAt a B 22 v c):TsAt b B 22 v c:=h.be u.out
def PRow.typ(d:PRow w B e v f){b:Nat}(a:v.ownBlock=some b):∃cur,w.heap[b]? =some (.cells cur e (0,0)):=by
 rcases d with ⟨rfl,_⟩|⟨g,h,cur,rfl,_,c,_⟩
 ·simp[Value.ownBlock] at a
 ·simp[Value.ownBlock] at a;subst a;exact⟨cur,c⟩
def PRow.km(h:PRow w B e v i)(c:w.grownBy w' v.ownBlock):KM w w':=⟨c.size,fun p k x a=>by
 refine(World.cell?_of_block (c.block p.block (block_lt_of_cell a) (fun b=> ?_))).trans a;rcases h with ⟨rfl,_⟩|⟨g,l,cur,rfl,_,f,_,_,_,_,hn⟩
 ·simp[Value.ownBlock] at b
 ·simp[Value.ownBlock] at b;unfold World.cell? at a;rw[b,f] at a;simp only at a;split at a
  ·cases a
  ·rw[<-Array.getElem?_toList] at a;obtain⟨j,m,c',d⟩:=hn _ (dG a);cases d⟩
def QsAt.grown(h:QsAt w u l)(i:PRow w B e v r)(o:e≠42)(g:w.grownBy w' v.ownBlock):QsAt w' u l:=by
 obtain⟨A,c,f,n,h⟩:=h;refine⟨A,c,f,n,?_⟩;rcases h with h|⟨b,j,f,d,q,p⟩
 ·exact .inl h
 ·refine .inr ⟨b,j,f,⟨(g.block b d.lt (fun m=> ?_)).trans d.1,d.2⟩,q,p.ke (i.km g)⟩;obtain⟨s,k⟩:=i.typ m.symm;have a:w.heap[b]? =some (.cells j.flatten.toArray 42 (0,0)):=d.1;rw[k] at a;injection a with a;injection a with _ a;exact o a
abbrev QQs:=RowsAt QsAt
def QQs.be{b:List (List Rat)}(h:QQs w B 45 v b)(a:Below w.1.size w w'):QQs w' B 45 v b:=by
 obtain⟨j,c,d,e⟩:=h;exact⟨j,c.be a,d,fun i u l g f=>(e i u l g f).be a⟩
def QQs.up[u:Up a b]{c:List (List Rat)}(h:QQs a B 45 v c):QQs b B 45 v c:=QQs.be h u.out
def QQs.push{j:Value}{c:List Value}{e:List (List Rat)}(f:PRow w B 45 v c)(g:c.length=e.length)(m:∀(i:Nat) (u:Value) (l:List Rat),c[i]? =some u->e[i]? =some l->QsAt w u l)(o:QsAt w u l)
  (n:PRow w' B 45 j (c++[u]))(h:w.grownBy w' v.ownBlock):QQs w' B 45 j (e++[l]):=by
 refine⟨_,n,by rw[bE,bE,g];rfl,fun i x y a b=> ?_⟩;rcases dE i c.length with d|d
 ·rw[gA d] at a;rw[gA (by omega)] at b;exact(m i x y a b).grown f (by decide) h
 ·rw[fK d] at a;rw[fK (by omega),<-g] at b;have k:i-c.length=0:=by
   have:=(List.getElem?_eq_some_iff.1 a).1;simp at this;omega
  rw[k] at a b;simp at a b;subst a;subst b;exact o.grown f (by decide) h
def ML:(Tryz.prog.info? 45).map (fun i=>(i.zero,i.size,i.bytes))=some (some (.slice none 0 0),1,24):=by kernel_rfl
def vC(w:World)(L:List (List Rat))(e:Ending)(w':World):Prop:=∃a,e= .returned a∧QQs w' w.1.size 45 a L∧Below w.1.size w w'
def QQs.one{c:Nat}(h:QsAt w (.slice A k c) l)(d:B<=w.1.size):QQs (w.alloc (.cells #[.slice A k c] 45)) B 45 (.slice (some ⟨w.1.size,0,none⟩) 1 1) [l]:=by
 refine⟨[.slice A k c],.inr ⟨w.1.size,1,#[.slice A k c],rfl,d,heap_alloc_new w _,aE,by decide,rfl,rfl,fun u a=> ?_⟩,rfl,fun i u e a b=> ?_⟩
 ·exact⟨A,k,c,by simpa using a⟩
 ·cases i with
  |zero=>
   injection a with a;injection b with b;subst a b;exact h.be ((aG _ _).alloc aE _)
  |succ i=>simp at a
def RatBx(w:World)(g:Nat)(f:Rat):Prop:=∃s1 A1 k1 c1 s2 A2 k2 c2,Bx w g [.bool s1,.slice A1 k1 c1,.bool s2,.slice A2 k2 c2] 71∧RatAt w (.agg #[.bool s1,.slice A1 k1 c1,.bool s2,.slice A2 k2 c2]) f
def RatBx.be{f:Rat}(h:RatBx w g f)(a:Below w.1.size w w'):RatBx w' g f:=by
 obtain⟨s1,A1,k1,c1,s2,A2,k2,c2,b,c⟩:=h;exact⟨s1,A1,k1,c1,s2,A2,k2,c2,b.be a,c.be a⟩
def RatBx.lt{f:Rat}(h:RatBx w g f):g<w.1.size:=by
 obtain⟨s1,A1,k1,c1,s2,A2,k2,c2,a,b⟩:=h;exact a.lt
section
variable {W0 w:World}{g:Nat}{s1 s2:Bool}{A1 A2:Option Addr}{k1 c1 k2 c2:Nat}{f:Rat}{v:Value}{ns:List Int}
end
def KM.setRow{cur cs:Array Value}(h:w.heap[g]? =some (.cells cur e (0,0)))(hn:∀u∈cur.toList,NoInt u):KM w (w.setRow g cs):=
 ⟨by simp[World.setRow],fun p k x d=>by
  obtain⟨b,o,i⟩:=p;obtain rfl:i=none:=World.cell?_spot d;by_cases f:b=g
  ·subst f;rw[cell_of_row w b o cur e (0,0) h,<-Array.getElem?_toList] at d;exact absurd rfl (hn _ (dG d) k x)
  ·exact(World.cell?_of_block (setRow_other w g b cs f)).trans d⟩
def ZK:(Tryz.prog.info? 42).map (·.size)=some 4:=by kernel_rfl
abbrev zR:List Value:=[.bool false,.slice none 0 0,.bool false,.slice none 0 0]
def ZL(M:Nat):∀u∈(List.replicate M zR).flatten,NoInt u:=fun u e=>by
 obtain⟨r,d,b⟩:=List.mem_flatten.1 e;rw[(List.mem_replicate.1 d).2] at b;simp only[List.mem_cons,List.not_mem_nil,or_false] at b;rcases b with rfl|rfl|rfl|rfl<;>first|exact NoInt.bool _|exact NoInt.slice _ _ _
def OwnQ.copied{rows:List (List Value)}(k:Rw w g 4 (List.replicate M zR) 42)(m:∀r∈rows,r.length=4)(f:rows.length=d.length)(z:d.length<=M)(hi:QRow w rows d):
  let W:=w.setRow g (rows.flatten++(List.replicate M zR).flatten.drop rows.flatten.length).toArray
  OwnQ W g (d++List.replicate (M-d.length) 0)∧r6 g w W:=by
 have e:w.heap[g]? =some (.cells (List.replicate M zR).flatten.toArray 42 (0,0)):=k.1;have t:∀u∈(List.replicate M zR).flatten.toArray.toList,NoInt u:=ZL M;have p:KM w (w.setRow g (rows.flatten++(List.replicate M zR).flatten.drop rows.flatten.length).toArray):=KM.setRow e t;have C:rows.flatten++(List.replicate M zR).flatten.drop rows.flatten.length=(rows++List.replicate (M-d.length) zR).flatten:=by
  rw[mX m,f,K3 _ 4 _ _ rfl z,byL]
 refine⟨⟨rows++List.replicate (M-d.length) zR,⟨?_,fun r k=> ?_⟩,by simp[f],fun i n hn=> ?_⟩,p,fun x n D=>K2 e t D,fun b B=>setRow_other w g b _ B,by simp[World.setRow],rfl,rfl,rfl⟩
 ·unfold Bx;rw[<-C];exact setRow_heap w g _ _ _ _ e
 ·rcases List.mem_append.1 k with h|h
  ·exact m r h
  ·rw[(List.mem_replicate.1 h).2];rfl
 ·rcases dE i d.length with h|h
  ·rw[gA h] at hn;obtain⟨s,A,l,c,s',A',l',c',v,y⟩:=hi i n hn;exact⟨s,A,l,c,s',A',l',c',by rw[gA (by omega)];exact v,y.ke p⟩
  ·rw[fK h] at hn;have j:=(List.getElem?_eq_some_iff.1 hn).1;rw[dB] at j;rw[j6,if_pos j] at hn;injection hn with hn;subst hn;exact⟨false,none,0,0,false,none,0,0,by rw[fK (by omega),f,j6,if_pos j],NQ.zero _⟩
section
variable {w:World}{ops:Array Oper}{rest:List Oper}{o:Oper}{a:Act}{Q:Exit->Act->World->Prop}
def ZM(x:o.guard=none){d s:Operand}(z:o.op= .call { callee:= .builtin .copy,args:= #[d,s],argTypes:= #[45,45] }){c':Nat}(u:a.eval d= .slice (some ⟨g,0,none⟩) M c')(e:Rw w g 4 (List.replicate M zR) 42)
  {l c:Nat}{b:List Rat}(E:a.eval s= .slice A l c)(C:QsAt w (.slice A l c) b)(i:b.length<=M)
  (h:∀w',OwnQ w' g (b++List.replicate (M-b.length) 0)->r6 g w w'->wpList prog ops Q rest (a.put o.dst (goInt l)) w'):wpList prog ops Q (o :: rest) a w:=by
 obtain⟨f,m,rfl,j,D,y,B⟩:=C.srcs;have n:f.flatten.length=b.length*4:=by rw[mX j,m]
 have v:f.flatten.length<=(List.replicate M zR).flatten.toArray.size:=by
  rw[n,bzA,mX (k:=4) (fun r e=>by rw[(List.mem_replicate.1 e).2];rfl),dB];omega
 obtain⟨p,t⟩:=OwnQ.copied e j m i y;exact Y0 x z 42 4 g M c' A b.length c _ 42 f.flatten underlying45 ZK (by decide) u E e.1 n i D v B (h _ p t)
end
def KY{g:Nat->Rat}{i m:Nat}(b:i+k=m)(h:m<l.length):(gN l g i k)[m]? =some (cf l m)∧m<(gN l g i k).length∧(gN l g i k).set m (g m)=gN l g i (k+1):=by
 subst b;exact⟨XO h,by rw[o8];exact h,XP h⟩
def QsAt.cell{c:Nat}{e:List Rat}(h:QsAt w (.slice A e.length c) e){i:Nat}(hi:i<e.length):
  ∃b s B m d s' f k j,A=some ⟨b,0,none⟩∧b<w.1.size∧R4 w b (i*4) (.bool s) (.slice B m d) (.bool s') (.slice f k j)∧NQ w (.agg #[.bool s,.slice B m d,.bool s',.slice f k j]) (cf e i):=
 h.at_ (by rw[aR hi,<-fZ hi])
def QVar(w:World)(b:Nat)(q:Rat):Prop:=∃s A l c s' A' l' c',Bx w b [.bool s,.slice A l c,.bool s',.slice A' l' c'] 42∧NQ w (.agg #[.bool s,.slice A l c,.bool s',.slice A' l' c']) q
section
variable {W0 w:World}{g:Nat}{q:Rat}{s s':Bool}{A A':Option Addr}{l c l' c':Nat}
def QVar.be(h:QVar w g q)(b:Below w.1.size w w'):QVar w' g q:=by
 obtain⟨s,A,l,c,s',A',l',c',d,e⟩:=h;exact⟨s,A,l,c,s',A',l',c',d.be b,e.be b⟩
def QVar.step{b:Nat}(h:QVar w g q)(d:r6 b w w')(i:g≠b):QVar w' g q:=by
 obtain⟨s,A,l,c,s',A',l',c',e,f⟩:=h;exact⟨s,A,l,c,s',A',l',c',(d.2.2.1 g i).trans e,f.ke d.1⟩
def QVar.up[u:Up w b](h:QVar w g q):QVar b g q:=h.be u.out
def KZ(h:NQ w (.agg #[.bool s,.slice A l c,.bool s',.slice A' l' c']) q)(b:Below W0.1.size W0 w):QVar (w.alloc (.cells #[.bool s,.slice A l c,.bool s',.slice A' l' c'] 42)) w.1.size q∧Below W0.1.size W0 (w.alloc (.cells #[.bool s,.slice A l c,.bool s',.slice A' l' c'] 42)):=
 ⟨⟨_,_,_,_,_,_,_,_,Bx.new _ _ _,h.be ((aG _ _).alloc aE _)⟩,b.alloc b.size _⟩
def L0(D:Bx w g zR 42)(h:NQ w (.agg #[.bool s,.slice A l c,.bool s',.slice A' l' c']) q)(d:Below W0.1.size W0 w)(j:W0.1.size<=g):
  QVar ((((w.setCell ⟨g,0,none⟩ (.bool s)).setCell ⟨g,1,none⟩ (.slice A l c)).setCell ⟨g,2,none⟩ (.bool s')).setCell ⟨g,3,none⟩ (.slice A' l' c')) g q∧Below W0.1.size W0 ((((w.setCell ⟨g,0,none⟩ (.bool s)).setCell ⟨g,1,none⟩ (.slice A l c)).setCell ⟨g,2,none⟩ (.bool s')).setCell ⟨g,3,none⟩ (.slice A' l' c')):=by
 obtain⟨k,e,b,f,i, -⟩:=D.mut4 d j (.bool s) (.slice A l c) (.bool s') (.slice A' l' c') rfl rfl;rw[e];exact⟨⟨_,_,_,_,_,_,_,_,b,h.ke i⟩,f⟩
end
