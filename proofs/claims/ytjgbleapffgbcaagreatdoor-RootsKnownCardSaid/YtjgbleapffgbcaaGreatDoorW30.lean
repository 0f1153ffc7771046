/- Laws. -/
import Derived.Test.YtjgbleapffgbcaaGreatDoorRows
import Derived.Test.YtjgbleapffgbcaaGreatDoorW27
import Derived.Test.YtjgbleapffgbcaaGreatDoorW28
import Derived.Deep.RegionHeld3
import Derived.ProofKit
import Derived.LaidMore
import Derived.OpenShut
import Derived.Stop.Joined
import Derived.SliceStrings
import Derived.Lib.LaidTab
import Derived.Carry
set_option linter.all false
set_option maxHeartbeats 8000000
set_option maxRecDepth 99999
namespace Go.Proofs.YtjgbleapffgbcaaGreatDoor
open Go.RowKit Sos Go.Proofs.Tryz
variable{b t:List UInt8}{a:List (List UInt8)}{r x y:Rat}
def StrsAt.built(w:World)(a:List (List UInt8))(t:TypeId):StrsAt (w.alloc (.cells (a.map (fun l=>Value.string ⟨l.toArray⟩)).toArray t)) (.slice (some ⟨w.1.size,0,none⟩) a.length a.length) a:=by
 refine⟨_,_,rfl,aE,.inr ⟨w.1.size,0,rfl,by simp,fun i l b=> ?_⟩⟩;have B:=Bx.new w (a.map (fun l=>Value.string ⟨l.toArray⟩)) t;rw[bA];exact B.cell i (by rw[iK,b];rfl)
def yO:aU [[45,50],[48],[49]]=[-2,0,1]:=by
 show[(cL [45,50]).getD 0,(cL [48]).getD 0,(cL [49]).getD 0]=_
 rw[ayN,LY,ayM];rfl
def ayF:cL [45,52]=some (-4):=by decide
def ayG:cL [52]=some 4:=by decide
def ayH:([(-4,0),(0,4)]:List (Rat×Rat)).map m8=[([45,52],[48]),([48],[52])]:=by
 show[(cW (-4),cW 0),(cW 0,cW 4)]=_
 rw[tL ayF,tL LY,tL ayG]
def LW:vl [[45,50],[48],[49]]=true:=by
 unfold vl;rw[iQ,yO];exact⟨by decide,by decide,by decide⟩
def ayI:dM [[45,50],[48],[49]]=0:=by unfold dM;rw[if_pos LW,if_neg (by simp)]
def ayJ:oS [[45,50],[48],[49]] [] []=0:=by
 have h:dM [[45,50],[48],[49]]=0:=by unfold dM;rw[if_pos LW,if_neg (by simp)]
 unfold oS;rw[h];rfl
def ayK{n:Int}(h:KU (aU [[45,50],[48],[49]]) (lC [] (-1)) (m5 []) (lC [] 1) (m5 []) 0 n):n=2:=by
 have a:=h.2 rfl;rw[yO] at a;rw[a.get (by decide) D6 KQ (by decide)];exact Z5
def ayL:∀p∈([(-4,0),(0,4)]:List (Rat×Rat)),RL 110079 p.1∧RL 110079 p.2:=fun p b=>by
 have c:RL 110079 ((4:Int):Rat):=uW (aH (cJ (m:=1) (by unfold BN;decide)) (by decide)) (by decide);have d:RL 110079 ((-4:Int):Rat):=uW (aH (cJ (m:=1) (by unfold BN;decide)) (by decide)) (by decide);have a:RL 110079 (0:Rat):=iG (by decide);simp only[List.mem_cons,List.not_mem_nil,or_false] at b;rcases b with rfl|rfl
 ·exact⟨d,a⟩
 ·exact⟨a,c⟩
def DV(w:World)(g:Glob w):Calls prog 6 #[] w fun e w'=>e= .returned (.bool true)∧Below w.1.size w w':=by
 have m:=fun W v g h=>LT [[45,50],[48],[49]] 2 110079 (fun l=>l=[(-4,0),(0,4)]) v W g h (by decide) (by decide) (fun _ _=>by rw[yO,ZF];exact ZG) (by decide) (by decide) (by decide) y7 (ZV (by unfold aJ;decide)) (fun l h=>by rw[h];exact⟨by decide,ayL⟩) (fun w s c p z=>by rw[yO] at p;exact⟨_,ZH p z.1,rfl⟩);have i:=fun W v g h=>KV [[45,50],[48],[49]] v W g h (by decide) (by decide);unfold uM at i;rw[ayJ] at i;rw[ayI] at m;go_enter func6,ntmps6;go_wp2_with fail;have a:Below w.1.size w (w.alloc (.cells #[.string ⟨#[45,50]⟩,.string ⟨#[48]⟩,.string ⟨#[49]⟩] 9)):=(aG _ _).alloc aE _;have q:StrsAt (w.alloc (.cells #[.string ⟨#[45,50]⟩,.string ⟨#[48]⟩,.string ⟨#[49]⟩] 9)) (.slice (some ⟨w.1.size,0,none⟩) 3 3) [[45,50],[48],[49]]:=StrsAt.built w [[45,50],[48],[49]] 9;generalize w.alloc (.cells #[.string ⟨#[45,50]⟩,.string ⟨#[48]⟩,.string ⟨#[49]⟩] 9)=W at *;refine(m _ _ (g.be a) q).mono ?_;rintro E d ⟨I,l,rfl,A, -,b,x⟩;obtain rfl:=A trivial;rw[ayH] at b;replace a:=aC a x;obtain⟨t,u,rfl,H⟩:=b.form;replace b:IvsAt d (.slice t 2 u) [([45,52],[48]),([48],[52])]:=b;clear q m;go_wp2_with fail;have j:Below d.1.size d (d.alloc (.cells #[.string ⟨#[45,50]⟩,.string ⟨#[48]⟩,.string ⟨#[49]⟩] 9)):=(aG _ _).alloc aE _;have r:StrsAt (d.alloc (.cells #[.string ⟨#[45,50]⟩,.string ⟨#[48]⟩,.string ⟨#[49]⟩] 9)) (.slice (some ⟨d.1.size,0,none⟩) 3 3) [[45,50],[48],[49]]:=StrsAt.built d [[45,50],[48],[49]] 9;replace b:=b.be j;replace a:=aC a j;clear j;generalize d.alloc (.cells #[.string ⟨#[45,50]⟩,.string ⟨#[48]⟩,.string ⟨#[49]⟩] 9)=C at *;refine(i _ _ (g.be a) r).mono ?_;rintro F f ⟨n,rfl, -, -,hn,o⟩;obtain rfl:=ayK hn;replace b:=b.be o;replace a:=aC a o;clear r i hn;go_wp2_with fail;have k:Below f.1.size f (f.alloc (.cells #[.string ⟨#[45,52]⟩,.string ⟨#[48]⟩,.string ⟨#[48]⟩,.string ⟨#[52]⟩] 38)):=(aG _ _).alloc aE _;have B:IvsAt (f.alloc (.cells #[.string ⟨#[45,52]⟩,.string ⟨#[48]⟩,.string ⟨#[48]⟩,.string ⟨#[52]⟩] 38)) (.slice (some ⟨f.1.size,0,none⟩) 2 2) [([45,52],[48]),([48],[52])]:=IvsAt.built f [([45,52],[48]),([48],[52])] 38;replace b:=b.be k;replace a:=aC a k;clear k;generalize f.alloc (.cells #[.string ⟨#[45,52]⟩,.string ⟨#[48]⟩,.string ⟨#[48]⟩,.string ⟨#[52]⟩] 38)=D at *;refine(LP _ _ _ _ b B (by decide)).mono ?_;rintro G J ⟨rfl,y⟩;go_wp2;go_ret;exact⟨rfl,aC a y⟩
def cy7(x y:Int)(w:World):Calls prog 108 #[.int .i64 x,.int .i64 y] w fun e w'=>e= .returned (.int .i64 (bZ x y))∧w=w':=by
 rcases kJ x y with ⟨a,e⟩|⟨a,e⟩|⟨a,e⟩
 ·rw[e];clear e;go_enter func108,ntmps108;go_wp2;go_ret;exact⟨rfl,rfl⟩
 ·rw[e];clear e;subst a;go_enter func108,ntmps108;go_wp2;go_ret;exact⟨rfl,rfl⟩
 ·rw[e];clear e;have b:¬x<y:=by omega
  go_enter func108,ntmps108;go_wp2;go_ret;exact⟨rfl,rfl⟩
def cy8(x y:Int)(w:World):Calls prog 58 #[.int .i64 x,.int .i64 y] w fun e w'=>e= .returned (.int .i64 (bZ x y))∧w=w':=by
 have a:=cy7 x y w;generalize bZ x y=R at *;go_enter func58,ntmps58;go_wp2_with fail;refine a.mono ?_;rintro b c ⟨rfl,rfl⟩;go_wp2;go_ret;exact⟨rfl,rfl⟩
def cyK(l:List UInt8)(w:World)(g:Glob w)(u:l.length<=1073741824):Calls prog 59 #[.string ⟨l.toArray⟩] w (iF w ((cL l).getD 0)):=by
 have q:=fun W g=>wU l W g u;unfold IP at q;generalize (cL l).getD 0=x at *;generalize (cL l).isSome=D at *;obtain⟨W,o,a,R⟩:=bI w [.bool false,.slice none 0 0,.bool false,.slice none 0 0] 76;have r:=R.g4;go_enter func59,ntmps59;go_wp2_with fail;(try rw[o]);clear o;refine(q _ (g.be a)).mono ?_;rintro A y ⟨E,rfl,b,p⟩;obtain⟨k,c,i,e,m,d,j,f,rfl⟩:=b.form;replace R:=R.be p;replace a:=aC a p;have C:=R.lt;obtain⟨F,n,h,P⟩:=bI y [.bool k,.slice c i e,.bool m,.slice d j f] 76;replace b:=b.be h;replace R:=R.be h;replace a:=aC a h;have r:=aa R.g4 P.k4;go_wp2_with fail;(try rw[n]);(try clear n);obtain⟨z,s,R,a,t,B⟩:=R.put4 a (by omega) (.bool k) (.slice c i e) (.bool m) (.slice d j f) rfl rfl;rw[s];exact aM (v:= .agg #[.bool k,.slice c i e,.bool m,.slice d j f]) (by simp[results,results59,go_sem,R.k4]) rfl ⟨_,rfl,b.ke t,a⟩
def Bx.putB2{w W:World}{b B:Nat}{cs:List Value}{t:TypeId}(h:Bx W b cs t)(l:Below B w W)(e:B<=b)(a c:Value){i j:Value}(m:cs=[i,j]):
  ∃d,(W.setCell ⟨b,0,none⟩ a).setCell ⟨b,1,none⟩ c=d∧Bx d b [a,c] t∧Below B w d∧∀{g:Nat} {cs:List Value} {t:TypeId},Bx W g cs t->b≠g->Bx d g cs t:=by
 subst m;exact⟨_,rfl,(h.set 0 a).set 1 c,(l.setCell (p:=⟨b,0,none⟩) e a).setCell (p:=⟨b,1,none⟩) e c,fun k f=>(k.far 0 a f).far 1 c f⟩
def cxN(a b:List UInt8)(w:World)(M:a.length<=1099511627776)(N:b.length<=1099511627776):
  Calls prog 57 #[.string ⟨a.toArray⟩,.string ⟨b.toArray⟩] w fun e w'=>∃n d m f J,e= .returned (.tuple #[.agg #[.int .i64 n,.int .i64 d],.agg #[.int .i64 m,.int .i64 f],.bool J])∧(J=true->cyG a n d∧cyG b m f)∧Below w.1.size w w':=by
 have I:=fun W=>cyM a W M;have z:=fun W=>cyM b W N;obtain⟨W,H,c,R,S⟩:=eL w [.int .i64 0,.int .i64 0] 51 [.int .i64 0,.int .i64 0] 51;have G:=aa R.g2 S.g2;go_enter func57,ntmps57;go_wp2_with fail;(try rw[H]);clear H;refine(I _).mono ?_;rintro Q s ⟨n,d,O,rfl,C,A⟩;have V:=S.lt;have ac:=A.size;obtain⟨w2,i,K,X⟩:=bI s [.int .i64 n,.int .i64 d] 51;have y:=aC A K;replace R:=R.be y;replace S:=S.be y;replace c:=aC c y;have U:=R.lt;have Z:=S.lt;have G:=aa R.g2 (aa S.g2 X.k2);clear I;cases O with
 |false=>
  clear C z;go_wp2_with fail;all_goals (try rw[i])
  obtain⟨u,j,R,c,g⟩:=R.putB2 c (by omega) (.int .i64 0) (.int .i64 0) rfl;replace S:=g S (by omega);rw[j];obtain⟨x,k,S,c,g⟩:=S.putB2 c (by omega) (.int .i64 0) (.int .i64 0) rfl;replace R:=g R (by omega);rw[k];exact aM (v:= .tuple #[.agg #[.int .i64 0,.int .i64 0],.agg #[.int .i64 0,.int .i64 0],.bool false]) (by simp[results,results57,go_sem,R.k2,S.k2]) rfl ⟨_,_,_,_,false,rfl,(fun h=>by cases h),c⟩
 |true=>
  have E:Hid (cyG a n d):=C rfl;clear C;go_wp2_with fail;(try rw[i]);(try clear i);refine(z _).mono ?_;rintro T t ⟨m,f,P,rfl,D,B⟩;have ae:=X.lt;have ad:=B.size;obtain⟨w4,i,L,Y⟩:=bI t [.int .i64 m,.int .i64 f] 51;have r:=aC B L;replace R:=R.be r;replace S:=S.be r;replace X:=X.be r;replace c:=aC c r;have G:=aa R.g2 (aa S.g2 (aa X.k2 Y.k2));clear z;cases P with
  |false=>
   clear D;go_wp2_with fail;all_goals (try rw[i])
   obtain⟨u,j,R,c,g⟩:=R.putB2 c (by omega) (.int .i64 0) (.int .i64 0) rfl;replace S:=g S (by omega);rw[j];obtain⟨x,k,S,c,g⟩:=S.putB2 c (by omega) (.int .i64 0) (.int .i64 0) rfl;replace R:=g R (by omega);rw[k];exact aM (v:= .tuple #[.agg #[.int .i64 0,.int .i64 0],.agg #[.int .i64 0,.int .i64 0],.bool false]) (by simp[results,results57,go_sem,R.k2,S.k2]) rfl ⟨_,_,_,_,false,rfl,(fun h=>by cases h),c⟩
  |true=>
   have F:Hid (cyG b m f):=D rfl;clear D;go_wp2_with fail;(try rw[i]);(try clear i);have l:w.1.size≠s.1.size:=by omega
   have o:w.1.size≠t.1.size:=by omega
   have p:w.1.size+1≠s.1.size:=by omega
   have q:w.1.size+1≠t.1.size:=by omega
   go_region_held3 (fun w'=>C2 w' s.1.size (.int .i64 n) (.int .i64 d)∧C2 w' t.1.size (.int .i64 m) (.int .i64 f))
    (first
     |(with_reducible exact⟨X.up.k2,Y.up.k2⟩)
     |(with_reducible exact⟨((X.far 0 _ l).far 1 _ l).drew.k2,((Y.far 0 _ o).far 1 _ o).drew.k2⟩)
     |(with_reducible exact⟨((X.far 0 _ p).far 1 _ p).drew.k2,((Y.far 0 _ q).far 1 _ q).drew.k2⟩)
     |(with_reducible exact⟨((((X.far 0 _ l).far 1 _ l).far 0 _ p).far 1 _ p).drew.k2,((((Y.far 0 _ o).far 1 _ o).far 0 _ q).far 1 _ q).drew.k2⟩)
     |(with_reducible exact⟨((((X.far 0 _ p).far 1 _ p).far 0 _ l).far 1 _ l).drew.k2,((((Y.far 0 _ q).far 1 _ q).far 0 _ o).far 1 _ o).drew.k2⟩))
    (fail)
   all_goals (
    go_wp2_with fail
    first
     |(obtain⟨u,j,R,c,g⟩:=R.putB2 c (by omega) (.int .i64 n) (.int .i64 d) rfl
       replace S:=g S (by omega)
       rw[j]
       obtain⟨x,k,S,c,g⟩:=S.putB2 c (by omega) (.int .i64 m) (.int .i64 f) rfl
       replace R:=g R (by omega)
       rw[k]
       exact aM (v:= .tuple #[.agg #[.int .i64 n,.int .i64 d],.agg #[.int .i64 m,.int .i64 f],.bool true]) (by simp[results,results57,go_sem,R.k2,S.k2]) rfl ⟨_,_,_,_,true,rfl,(fun _=>⟨E.out,F.out⟩),c.drew⟩)
     |(obtain⟨u,j,S,c,g⟩:=S.putB2 c (by omega) (.int .i64 m) (.int .i64 f) rfl
       replace R:=g R (by omega)
       rw[j]
       obtain⟨x,k,R,c,g⟩:=R.putB2 c (by omega) (.int .i64 n) (.int .i64 d) rfl
       replace S:=g S (by omega)
       rw[k]
       exact aM (v:= .tuple #[.agg #[.int .i64 n,.int .i64 d],.agg #[.int .i64 m,.int .i64 f],.bool true]) (by simp[results,results57,go_sem,R.k2,S.k2]) rfl ⟨_,_,_,_,true,rfl,(fun _=>⟨E.out,F.out⟩),c.drew⟩))
def cy9{a:List UInt8}{n d m f:Int}(r:cyG a n d)(s:cyG b m f)(t:cL a=some x)(v:cL b=some y):bZ (n*f) (m*d)=(x-y).num.sign∧ -1000000000000000000<n*f∧n*f<1000000000000000000∧ -1000000000000000000<m*d∧m*d<1000000000000000000:=by
 obtain⟨-,D,rfl,z,i,o,c⟩:=r;obtain⟨-,F,rfl,A,j,l,g⟩:=s;rw[t] at c;rw[v] at g;injection c with c;injection g with g;have bd:∀(n:Int) (F:Nat),n.natAbs<1000000000->F<1000000000-> -1000000000000000000<n*(F:Int)∧n*(F:Int)<1000000000000000000:=fun n F B C=>by
  have E:(n*(F:Int)).natAbs<=999999999*999999999:=by
   rw[fL,dD];exact aqK (by omega) (by omega)
  omega
 refine⟨?_,(bd n F o j).1,(bd n F o j).2,(bd m D l i).1,(bd m D l i).2⟩;have p:0<((D:Int):Rat):=by
  have:(0:Int)<(D:Int):=by omega
  exact_mod_cast this
 have q:0<((F:Int):Rat):=by
  have:(0:Int)<(F:Int):=by omega
  exact_mod_cast this
 have u:x*((D:Int):Rat)=(n:Rat):=by rw[c,Rat.mkRat_eq_div,<-aq3,gW (by grind)]
 have w:y*((F:Int):Rat)=(m:Rat):=by rw[g,Rat.mkRat_eq_div,<-aq3,gW (by grind)]
 have e:((n*(F:Int)-m*(D:Int):Int):Rat)=((D:Int):Rat)*((F:Int):Rat)*(x-y):=by
  rw[Rat.intCast_sub,eJ,eJ,<-u,<-w];grind
 have k:=tU (azA p q) (x-y);rw[<-e,xJ] at k;rw[<-k];rcases kJ (n*(F:Int)) (m*(D:Int)) with ⟨h,e⟩|⟨h,e⟩|⟨h,e⟩
 ·rw[e,aqT (by omega)]
 ·rw[e,h,Int.sub_self];rfl
 ·rw[e,aqI (by omega)]
def cyO(a b:List UInt8)(x y:Rat)(K:Nat)(w:World)(e:Glob w)(r:cL a=some x)(s:cL b=some y)(A:RL K x)(B:RL K y)(H:K<=1073741824)(M:a.length<=1073741824)(N:b.length<=1073741824):
  Calls prog 13 #[.string ⟨a.toArray⟩,.string ⟨b.toArray⟩] w (eO w (x-y).num.sign):=by
 have F:=fun W=>cxN a b W (by omega) (by omega);have g:=fun W e=>cyK a W e (by omega);have i:=fun W e=>cyK b W e (by omega);rw[r] at g;rw[s] at i;have p:=fun W u v h l=>BY x y u v W h l K A B (by omega);have k:Hid (∀n d m f,cyG a n d->cyG b m f->bZ (n*f) (m*d)=(x-y).num.sign∧ -1000000000000000000<n*f∧n*f<1000000000000000000∧ -1000000000000000000<m*d∧m*d<1000000000000000000):=fun n d m f h l=>cy9 h l r s;unfold eO at p;unfold iF at g i;unfold eO;simp only[Option.getD_some] at g i;clear r s M N A B H;generalize (x-y).num.sign=R at *;go_enter func13,ntmps13;go_wp2_with fail;refine(F _).mono ?_;rintro T P ⟨n,d,m,f,O,rfl,q,c⟩;obtain⟨w2,j,I,X,Y⟩:=eL P [.int .i64 n,.int .i64 d] 51 [.int .i64 m,.int .i64 f] 51;replace c:=aC c I;have S:=aa X.k2 Y.k2;cases O with
 |true=>
  obtain⟨C,z2⟩:=q rfl;obtain⟨D,z4,z5,z6,z7⟩:=k.out n d m f C z2;have z:=fun W=>cy8 (n*f) (m*d) W;rw[D] at z;have Z:IntKind.i64.wrap (n*f)=n*f:=IntWalk.i64_in _ ⟨by omega,by omega⟩;have ac:IntKind.i64.wrap (m*d)=m*d:=IntWalk.i64_in _ ⟨by omega,by omega⟩;clear q g i p k C z2 D;go_wp2_with fail;(try rw[j]);(try clear j);refine(z _).mono ?_;rintro E Q ⟨rfl,rfl⟩;go_wp2;go_ret;exact⟨rfl,c⟩
 |false=>
  clear q k;go_wp2_with fail;(try rw[j]);(try clear j);refine(g _ (e.be c)).mono ?_;rintro E Q ⟨v3,rfl,o,J⟩;replace c:=aC c J;go_wp2_with fail;refine(i _ (e.be c)).mono ?_;rintro U w4 ⟨v4,rfl,G,t⟩;replace o:=o.be t;replace c:=aC c t;go_wp2_with fail;refine(p _ _ _ o G).mono ?_;rintro V w5 ⟨rfl,L⟩;go_wp2;go_ret;exact⟨rfl,aC c L⟩
def cyA:cW 0=[48]:=by
 have:cW 0=[]++Lib.decDigits 0++[]:=rfl;rw[this,BM];rfl
def cyB(q:Rat):∃c r,cW q=c :: r∧(c=45↔q.num<0):=by
 unfold cW;by_cases h:q.num<0
 ·rw[if_pos h];exact⟨45,_,rfl,fun _=>h,fun _=>rfl⟩
 ·rw[if_neg h];cases hd:Lib.decDigits q.num.natAbs with
  |nil=>exact absurd hd (tK _)
  |cons c r=>
   refine⟨c,_,rfl,fun e=> ?_,fun k=>absurd k h⟩;have:=oL q.num.natAbs c (by rw[hd];exact iC);rw[e] at this;exact absurd this.1 (by decide)
def ez2(q:Rat):q≠0->cW (-q)=(if q.num<0 then (cW q).drop 1 else 45 :: cW q):=fun h=>by
 have a:q.num≠0:=fun e=>h (Rat.num_eq_zero.1 e);unfold cW;rw[Rat.neg_num,Rat.neg_den,azJ];by_cases k:q.num<0
 ·rw[if_pos k,if_pos k,if_neg (by omega)];rfl
 ·rw[if_neg k,if_neg k,if_pos (by omega)];rfl
def ez3(t:List UInt8)(w:World)(g:Glob w)(p:t.length<=1073741824):
  Calls prog 9 #[.string ⟨t.toArray⟩] w fun e w'=>e= .returned (.string ⟨(cW (-((cL t).getD 0))).toArray⟩)∧Below w.1.size w w':=by
 have f:=fun W g=>cxS t W g p;obtain⟨T,a⟩:∃T,cW (-((cL t).getD 0))=T:=⟨_,rfl⟩;rw[a];have j:cW (-(0:Rat))=[48]:=cyA;by_cases b:t=[48]
 ·subst b;obtain rfl:T=[48]:=by rw[<-a];exact j
  clear f a;go_enter func9,ntmps9;go_wp2;go_ret;exact⟨rfl,aG _ _⟩
 ·have B:(t==[48])=false:=by simpa using b
  cases hr:cL t with
  |none=>
   have d:rd t=false:=by unfold rd;rw[hr];rfl
   obtain rfl:T=[48]:=by rw[<-a,hr];exact j
   rw[d] at f;clear a hr d b j;go_enter func9,ntmps9;go_wp2_with fail;refine(f _ g).mono ?_;rintro o u ⟨rfl,i⟩;go_wp2;go_ret;exact⟨rfl,i⟩
  |some q=>
   have d:rd t=true:=by unfold rd;rw[hr];rfl
   have m:=tL hr;obtain⟨c,r,e,l⟩:=cyB q;have n:q≠0:=fun k=>b (by rw[<-m,k];exact cyA);have hn:=ez2 q n;rw[m] at e hn;rw[hr] at a;rw[show(some q).getD 0=q from rfl,hn] at a;rw[d] at f;subst e;have y:∀h:0<(⟨(c :: r).toArray⟩:ByteArray).size,(⟨(c :: r).toArray⟩:ByteArray)[0]'h=c:=fun _=>rfl;by_cases k:c=45
   ·subst k;rw[if_pos (l.1 rfl)] at a;obtain rfl:r=T:=a;have s:(⟨(45 :: r).toArray⟩:ByteArray).size=r.length+1:=by simp[ByteArray.size]
    have v:(⟨(45 :: r).toArray⟩:ByteArray).extract 1 (⟨(45 :: r).toArray⟩:ByteArray).size=⟨r.toArray⟩:=rX (by rw[mP,s];simp);rw[s] at v;clear hn hr d b m l n j;go_enter func9,ntmps9;go_wp2_with fail;refine(f _ g).mono ?_;rintro o u ⟨rfl,i⟩;go_wp2;go_ret;exact⟨rfl,i⟩
   ·rw[if_neg (fun h=>k (l.2 h))] at a;subst a;have A:((c.toNat:Int)==45)=false:=by
     rw[beq_eq_false_iff_ne];intro e;exact k (UInt8.toNat_inj.1 (show c.toNat=(45:UInt8).toNat by show c.toNat=45;omega))
    have z:¬9223372036854775807<1+(r.length+1):=by rw[eG] at p;omega
    have x:(⟨#[45]⟩:ByteArray)++(⟨(c :: r).toArray⟩:ByteArray)=⟨(45 :: c :: r).toArray⟩:=rX (by simp);clear hn hr d b m l n j k;go_enter func9,ntmps9;go_wp2_with fail;refine(f _ g).mono ?_;rintro o u ⟨rfl,i⟩;go_wp2;go_ret;exact⟨rfl,i⟩
section
variable {P:Program}{md:Region.Mode}{ops:Array Oper}{Q:Exit->Act->World->Prop}{S:World->Prop}{oi:Oper}{v:Value}{fuel:Nat}{listed:Array Bool}{a:Act}{w:World}
def dQ(i d:Nat)(hi:ops[i]? =some oi)(g:oi.dst=some d)(b:(Region.noSelect ops&&(Region.free md ops listed i&&(Region.ready md ops listed).contains i))=true)
  (e:∀c a w,Q (.panic c) (a.put (some d) v) w->Q (.panic c) a w)(j:Region.wanted oi (yielded ops a.tmps)=true)(f:S w)(k:∀w,S w->(execOp a.eval oi).run P w= .ok (.value v) w)
  (h:wpAnyH P md ops Q S fuel (listed.setIfInBounds i true) (a.put (some d) v) w):wpAnyH P md ops Q S (fuel+1) listed a w:=by
 simp only[az7] at b;rw[<-g] at e h;exact wpAnyH_take hi b.1 b.2.1 b.2.2 e (.inl ⟨j,k⟩) f h
def tE(i d:Nat)(f:(Region.noSelect ops&&(Region.free md ops listed i&&((Region.ready md ops listed).contains i&&(match ops[i]? with|some o=>(o.dst==some d)&& !Region.wanted o (yielded ops a.tmps)|none=>false))))=true)
  (e:∀c a w,Q (.panic c) (a.put (some d) undef) w->Q (.panic c) a w)(l:S w)
  (h:wpAnyH P md ops Q S fuel (listed.setIfInBounds i true) (a.put (some d) undef) w):wpAnyH P md ops Q S (fuel+1) listed a w:=by
 simp only[az7] at f;obtain⟨g,j,k,b⟩:=f;cases ho:ops[i]? with
 |none=>rw[ho] at b;cases b
 |some o=>
  rw[ho] at b;simp only[az7,Bool.not_eq_true',beq_iff_eq] at b;rw[<-b.1] at e h;exact wpAnyH_take ho g j k e (.inr ⟨b.2,rfl⟩) l h
end
def zX(t:List UInt8):Rat:=(cL t).getD 0
def z8(a:List (List UInt8))(j:Nat):List Rat:=((a.take j).map zX).reverse
def eyD{j:Nat}(h:a[j]? =some t)(b:cL t=some r):z8 a (j+1)=r :: z8 a j:=by
 unfold z8;rw[Q9,h,aqO,aq7,List.reverse_append];show[zX t].reverse++_=_
 unfold zX;rw[b];rfl
def EY(a:List (List UInt8))(j:Nat):(z8 a j).length<=a.length:=by
 unfold z8;rw[List.length_reverse,cH,bK];omega
def eyE:y∈z8 a a.length↔∃t∈a,zX t=y:=by
 unfold z8;rw[List.mem_reverse,aq9,List.mem_map]
abbrev S1(w:World)(b o:Nat)(v:Value):Prop:=w.cell? ⟨b,o,none⟩=some v
def S1.up{a b:World}[u:Up a b]{g o:Nat}{v:Value}(h:S1 a g o v)(c:g<a.1.size):S1 b g o v:=(u.out.cell (p:=⟨g,o,none⟩) c).trans h
def eyF(a:cL t=some r):cW x=t↔x=r:=by
 constructor
 ·intro e;have:=SU x;rw[e,a] at this;injection this with this;exact this.symm
 ·intro e;rw[e];exact tL a
def eyG(g:List (List UInt8))(v:Value)(w:World)(m:Glob w)(hv:StrsAt w v g)(b2:∀l∈g,l.length<=9223372036854775807):
  Calls prog 3 #[v] w fun e w'=>e= .returned (.bool true)∧Below w.1.size w w':=by
 obtain⟨A,c0,rfl,hc⟩:=hv.form;have ap:g.length<=4->∀W,StrsAt W (.slice A g.length c0) g->Calls prog 5 #[.int .i64 5,.slice A g.length c0] W fun e w'=>e= .returned (.bool (jH 5 g))∧W=w':=fun hl W h=>LX 5 g (.slice A g.length c0) W h (by decide) (by omega) b2;clear b2;have d:=aG w.1.size w;go_enter func3,ntmps3;by_cases aw:g.length<=4;rotate_left
 ·have q4:(4:Int)<(g.length:Int):=by omega
  clear ap;go_wp2_with fail;refine(DV _ (m.be d)).mono ?_;rintro e9 w9 ⟨rfl,ah⟩;go_wp2;go_ret;exact⟨rfl,aC d ah⟩
 have q4:¬(4:Int)<(g.length:Int):=by omega
 replace ap:=ap aw;go_wp2_with fail;refine(ap _ hv).mono ?_;rintro e1 w1 ⟨rfl,rfl⟩;cases hs:jH 5 g with
 |false=>
  clear hs ap;go_wp2_with fail;refine(DV _ (m.be d)).mono ?_;rintro e9 w9 ⟨rfl,ah⟩;go_wp2;go_ret;exact⟨rfl,aC d ah⟩
 |true=>
  have bq:∀l∈g,l.length<=5:=fun l hl=>by
   unfold jH at hs;exact of_decide_eq_true (List.all_eq_true.1 hs l hl)
  clear hs ap;go_wp2_with fail;have U:Below w.1.size w (w.alloc (.cells #[.string ⟨#[49]⟩] 9)):=(aG _ _).alloc aE _;have x1:StrsAt (w.alloc (.cells #[.string ⟨#[49]⟩] 9)) (.slice (some ⟨w.1.size,0,none⟩) 1 1) (([1]:List Rat).map cW):=by
   have e:([1]:List Rat).map cW=[[49]]:=by
    show[cW 1]=_
    rw[tL U2]
   rw[e];exact StrsAt.built w [[49]] 9
  replace d:=aC d U;generalize w.alloc (.cells #[.string ⟨#[49]⟩] 9)=w2 at *;go_loopg [3,4] g.length (fun k vp vi wr=>∃(j n:Nat) (Ap:Option Addr) (cp:Nat) (T:List Rat),Hid (j+k=g.length)∧vi= .int .i64 j∧vp= .slice Ap n cp∧StrsAt wr (.slice Ap n cp) (T.map cW)∧KnP (z8 g j) T∧Hid (∀t∈g.take j,rd t=true)∧Below w.1.size w wr)
  case atStart=>exact⟨0,1,_,1,[1],by unfold Hid;omega,rfl,rfl,x1,KnP.start,fun t ht=>by simp at ht,d⟩
  case round=>
   clear x1 d U;obtain⟨j,n,Ap,cp,T,HJ,rfl,rfl,s,Y,HR,d⟩:=hrel;generalize wr=wy at *;have dj:(0:Int)<=(j:Int):=by omega
   cases gk with
   |succ k=>
    have cy:j<g.length:=by have:=HJ.out;omega
    have dk:(j:Int)<(g.length:Int):=by omega
    obtain⟨t,a3⟩:∃t,g[j]? =some t:=⟨_,aR cy⟩;have H:=dG a3;have h5:=bq t H;obtain⟨b,bw,rfl,bf,M⟩:=(hv.be d).at_ a3;have ci:=cxS t wy (m.be d) (by omega);have HT:=aB (And.intro a3 H);clear a3 H;go_wp2_with fail;refine ci.mono ?_;rintro e2 w3 ⟨rfl,aj⟩;replace M:=(aj.cell (p:=⟨b,bw+j,none⟩) bf).trans M;replace s:=s.be aj;replace d:=aC d aj;clear ci;cases hrt:rd t with
    |false=>
     clear hrt M;go_wp2_with fail;refine(DV _ (m.be d)).mono ?_;rintro e9 w9 ⟨rfl,ah⟩;go_wp2;go_ret;exact⟨rfl,aC d ah⟩
    |true=>
     obtain⟨r,C⟩:=Option.isSome_iff_exists.1 hrt;have bn:=ez3 t w3 (m.be d) (by omega);rw[show(cL t).getD 0=r by rw[C];rfl] at bn;have ct:=aB (And.intro hrt C);clear hrt;go_wp2_with fail;refine bn.mono ?_;rintro e4 O ⟨rfl,ak⟩;replace s:=s.be ak;replace d:=aC d ak;clear bn M;have bm:=fun W v u m hv M=>eyI Y (aH (EY g j) aw) C h5 W v u m hv M;have cn:Hid (KnP (z8 g (j+1)) (aW aV (dX T [-r,1]))):=by
      unfold Hid;rw[eyD HT.out.1 C];exact Y.step (aH (EY g j) aw) C h5
     unfold zY at bm;generalize aW aV (dX T [-r,1])=T2 at *;generalize cW (-r)=tn at *;clear C Y;go_wp2_with fail;have U:Below O.1.size O (O.alloc (.cells #[.string ⟨tn.toArray⟩,.string ⟨#[49]⟩] 9)):=(aG _ _).alloc aE _;have x1:StrsAt (O.alloc (.cells #[.string ⟨tn.toArray⟩,.string ⟨#[49]⟩] 9)) (.slice (some ⟨O.1.size,0,none⟩) 2 2) [tn,[49]]:=StrsAt.built O [tn,[49]] 9;replace d:=aC d U;replace s:=s.be U;generalize O.alloc (.cells #[.string ⟨tn.toArray⟩,.string ⟨#[49]⟩] 9)=F at *;refine(bm _ _ _ (m.be d) s x1).mono ?_;rintro e6 w6 ⟨v6,rfl,Q,ag⟩;obtain⟨A6,c6,rfl, -⟩:=Q.form;rw[cH] at Q⊢;replace d:=aC d ag;clear bm x1 s;go_wp2;go_roundg k
     case rel=>exact⟨j+1,_,A6,c6,T2,by have:=HJ.out;unfold Hid;omega,by go_num,rfl,Q,cn.out,fun x I=>by
      rw[Q9,HT.out.1,aqO] at I;rcases List.mem_append.1 I with h|h
      ·exact HR.out x h
      ·rw[List.mem_singleton.1 h];exact ct.out.1,d⟩
     case measure=>omega
   |zero=>
    have hj:j=g.length:=HJ.out;subst hj;have cd:∀t∈g,rd t=true:=fun t ht=>HR.out t (by rw[aq9];exact ht);have hT:=Y.txt (aH (EY g _) aw);have cc:=hT.rational _ wy (m.be d) s;have b9:∀y,aI T y=0↔∃t∈g,zX t=y:=fun y=>(Y.roots y).trans eyE;have HM:=aB b9;have co:=aB Y;have bz:=aB hT;have a9:=aB cd;clear b9 HR cd;go_wp2_with fail;refine cc.mono ?_;rintro e2 w3 ⟨v3,R,rfl,z,br,bj,dl,aj⟩;obtain⟨A3,c3,rfl, -⟩:=z.form;rw[cH] at z⊢;replace s:=s.be aj;replace d:=aC d aj;clear cc;have b6:=hT.isolate Y.ev _ w3 (m.be d) s;go_wp2_with fail;refine b6.mono ?_;rintro e4 O ⟨v4,l,rfl,L,b7,a2,ak⟩;obtain⟨A4,c4,rfl, -⟩:=L.form;rw[cH] at L⊢;obtain⟨bi,a2⟩:=a2 R br bj;rw[<-bi] at L⊢;replace s:=s.be ak;replace z:=z.be ak;replace d:=aC d ak;clear b6 hT Y;have X:=aB (And.intro br (And.intro bj (And.intro bi a2)));have cq:=aB b7;clear br bj bi a2 b7;go_wp2_with fail;go_loopg [10] g.length (fun k vi wr=>∃j:Nat,Hid (j+k=g.length)∧vi= .int .i64 j∧Below O.1.size O wr)
    case atStart=>exact⟨0,by unfold Hid;omega,rfl,aG _ _⟩
    case round=>
     obtain⟨i,HI,rfl,Z⟩:=hrel;generalize wr=wz at *;replace s:=s.be Z;replace z:=z.be Z;replace L:=L.be Z;replace d:=aC d Z;have dh:(0:Int)<=(i:Int):=by omega
     cases gk with
     |succ k=>
      have cx:i<g.length:=by have:=HI.out;omega
      have di:(i:Int)<(g.length:Int):=by omega
      obtain⟨t,bg⟩:∃t,g[i]? =some t:=⟨_,aR cx⟩;have H:=dG bg;obtain⟨b,bw,rfl,bf,M⟩:=(hv.be d).at_ bg;obtain⟨r,C⟩:=Option.isSome_iff_exists.1 (a9.out t H);have b5:∃x:Nat,R[x]? =some r:=by
       have hy:=(X.out.2.1 r).2 ((HM.out r).2 ⟨t,H,by unfold zX;rw[C];rfl⟩);obtain⟨x,I,e⟩:=List.mem_iff_getElem.1 hy;exact⟨x,by rw[aR I,e]⟩
      have cm:=aB b5;have cs:=aB C;clear bg H b5 C;go_wp2_with fail;go_loopg [11,12] R.length (fun k' vf vk wr=>∃(q:Nat) (f:Bool),Hid (q+k'=R.length)∧vf= .bool f∧vk= .int .i64 q∧Hid (∀x,x<q->R[x]? =some r->f=true)∧Below wz.1.size wz wr)
      case atStart=>exact⟨0,false,by unfold Hid;omega,rfl,rfl,fun x I=>by omega,aG _ _⟩
      case round=>
       obtain⟨q,f,P,rfl,rfl,HF,B⟩:=hrel;generalize wr=V at *;replace s:=s.be B;replace z:=z.be B;replace L:=L.be B;replace M:=(B.cell (p:=⟨b,bw+i,none⟩) bf).trans M;replace Z:=aC Z B;replace d:=aC d B;have c5:(0:Int)<=(q:Int):=by omega
       cases gk with
       |zero=>
        have hq:q=R.length:=P.out;subst hq;obtain⟨x,I⟩:=cm.out;obtain rfl:f=true:=HF.out x (List.getElem?_eq_some_iff.1 I).1 I;clear I;go_wp2;go_roundg k
        case rel=>exact⟨i+1,by have:=HI.out;unfold Hid;omega,by go_num,Z⟩
        case measure=>omega
       |succ k'=>
        have bp:q<R.length:=by have:=P.out;omega
        have c9:(q:Int)<(R.length:Int):=by omega
        obtain⟨y,N⟩:∃y,R[q]? =some y:=⟨_,aR bp⟩;obtain⟨b3,o3,rfl,an,ar⟩:=z.at_ (i:=q) (t:=cW y) (by rw[iK,N];rfl);have cr:=aB N;have aq:cW y=t↔y=r:=eyF cs.out;have cu:=aB aq;clear N aq;generalize cW y=ty at *;by_cases bt:ty=t
        ·subst bt;cases f
         all_goals (
          go_wp2_with fail;go_region
          all_goals (
           go_wp2;go_roundg k'
           case rel=>exact⟨q+1,true,by have:=P.out;unfold Hid;omega,by simp,by go_num,fun _ _ _=>rfl,B.drew⟩
           case measure=>omega))
        ·have q5:(ty==t)=false:=beq_eq_false_iff_ne.2 bt;have HN:Hid (∀x,x<q+1->R[x]? =some r->x<q):=fun x I ai=>by
          by_cases e:x=q
          ·exfalso;rw[e,cr.out] at ai;injection ai with ai;exact bt (cu.out.2 ai)
          ·omega
         cases f
         all_goals (
          go_wp2_with fail;go_region
          all_goals (
           go_wp2;go_roundg k'
           case rel=>exact⟨q+1,_,by have:=P.out;unfold Hid;omega,rfl,by go_num,fun x I ai=>by first|rfl|exact HF.out x (HN.out x I ai) ai,B.drew⟩
           case measure=>omega))
     |zero=>
      have hi:i=g.length:=HI.out;subst hi;have b1:=aG wz.1.size wz;go_wp2_with fail;go_loopg [13] R.length (fun k vi wr=>∃q:Nat,Hid (q+k=R.length)∧vi= .int .i64 q∧Below wz.1.size wz wr)
      case atStart=>exact⟨0,by unfold Hid;omega,rfl,b1⟩
      case round=>
       clear b1;obtain⟨q,P,rfl,B⟩:=hrel;generalize wr=V at *;replace s:=s.be B;replace z:=z.be B;replace L:=L.be B;replace d:=aC d B;have c5:(0:Int)<=(q:Int):=by omega
       cases gk with
       |zero=>
        have hq:q=R.length:=P.out;subst hq;obtain⟨t1,t2,t3,t4,t5⟩:=co.out.quad (aH (EY g _) aw);have bo:=fun W v u m hv M=>eyK bz.out W v u m hv M;have b0:KnT (aW aV (dX T [1,1,1])):=⟨t1,t2,t4,(t3.sz (by have:=EY g g.length;omega)).1,(t3.sz (by have:=EY g g.length;omega)).2 t1⟩;have cb:=fun v W m h=>b0.rational v W m h;have bx:Hid (∀R':List Rat,R'.Pairwise (fun x y=>x<y)->(∀y,y∈R'↔aI (aW aV (dX T [1,1,1])) y=0)->R'=R):=fun R' h1 h2=>exZ h1 X.out.1 (fun y=>(h2 y).trans ((t5 y).trans (X.out.2.1 y).symm));have bk:=fun v W m h=>eyJ v W m h;unfold zY at bo bk;clear t1 t2 t3 t4 t5 b0;generalize aW aV (dX T [1,1,1])=T5 at *;go_wp2_with fail;have U:Below V.1.size V (V.alloc (.cells #[.string ⟨#[49]⟩,.string ⟨#[49]⟩,.string ⟨#[49]⟩] 9)):=(aG _ _).alloc aE _;have x1:StrsAt (V.alloc (.cells #[.string ⟨#[49]⟩,.string ⟨#[49]⟩,.string ⟨#[49]⟩] 9)) (.slice (some ⟨V.1.size,0,none⟩) 3 3) [[49],[49],[49]]:=StrsAt.built V [[49],[49],[49]] 9;replace d:=aC d U;replace s:=s.be U;replace z:=z.be U;clear L B;generalize V.alloc (.cells #[.string ⟨#[49]⟩,.string ⟨#[49]⟩,.string ⟨#[49]⟩] 9)=F at *;refine(bk _ _ (m.be d) x1).mono ?_;rintro e6 w6 ⟨v6,rfl,Q,ag⟩;obtain⟨A6,c6,rfl, -⟩:=Q.form;replace Q:StrsAt w6 (.slice A6 3 c6) (([1,1,1]:List Rat).map cW):=Q;replace s:=s.be ag;replace z:=z.be ag;replace d:=aC d ag;clear bk x1;go_wp2_with fail;refine(bo _ _ _ (m.be d) s Q).mono ?_;rintro e7 w7 ⟨v7,rfl,h7,al⟩;obtain⟨A7,c7,rfl, -⟩:=h7.form;rw[cH] at h7⊢;replace z:=z.be al;replace d:=aC d al;clear bo s Q;go_wp2_with fail;refine(cb _ _ (m.be d) h7).mono ?_;rintro e8 w8 ⟨v8,R',rfl,h8,ce,b8,dm,am⟩;obtain rfl:=bx.out R' ce b8;obtain⟨A8,c8,rfl, -⟩:=h8.form;rw[cH] at h8⊢;replace z:=z.be am;replace d:=aC d am;clear cb h7 ce b8 bx;have bh:=cqW _ _ _ _ w8 h8 z (by rw[cH];omega) (by rw[cH];omega);rw[decide_eq_true rfl] at bh;go_wp2_with fail;refine bh.mono ?_;rintro df dt ⟨rfl,cw⟩;replace d:=aC d cw;clear bh;go_wp2_with fail;refine(DV _ (m.be d)).mono ?_;rintro e9 w9 ⟨rfl,ah⟩;go_wp2;go_ret;exact⟨rfl,aC d ah⟩
       |succ k=>
        have bp:q<R.length:=by have:=P.out;omega
        have c9:(q:Int)<(R.length:Int):=by omega
        obtain⟨y,N⟩:∃y,R[q]? =some y:=⟨_,aR bp⟩;obtain⟨b3,o3,rfl,an,ar⟩:=z.at_ (i:=q) (t:=cW y) (by rw[iK,N];rfl);obtain⟨p,ax⟩:∃p,l[q]? =some p:=⟨_,aR (by have:=X.out.2.2.1;omega)⟩;obtain⟨b4,rfl,ao,au,av⟩:=L.at_ (i:=q) (p:=m8 p) (by rw[iK,ax];rfl);have a6:aI T y=0:=(X.out.2.1 y).1 (dG N);obtain⟨t,H,aq⟩:=(HM.out y).1 a6;have h5:(cW y).length<=5:=by
         obtain⟨r,C⟩:=Option.isSome_iff_exists.1 (a9.out t H);have e:y=r:=by rw[<-aq];unfold zX;rw[C];rfl
         rw[e,tL C];exact bq t H
        have ky:RL 1500000 y:=bU (lS (SU y) (by omega)) (by decide);have a1:=bz.out.eval (SU y) h5 a6 _ V (m.be d) s;obtain⟨a7,a8⟩:=cq.out p (dG ax);obtain⟨ck,cl⟩:=X.out.2.2.2 q p y ax N;have bu:=aH (cx1 a7) (show 40*1500000+4<=1073741824 by decide);have bv:=aH (cx1 a8) (show 40*1500000+4<=1073741824 by decide);have ay:(cW y).length<=1073741824:=by omega
        obtain⟨S2,az⟩:∃S,(p.1-y).num.sign=S:=⟨_,rfl⟩;obtain⟨S3,a0⟩:∃S,(p.2-y).num.sign=S:=⟨_,rfl⟩;have c2:=fun W m=>cyO (cW p.1) (cW y) p.1 y 1500000 W m (SU _) (SU _) a7 ky (by decide) bu ay;have c3:=fun W m=>cyO (cW p.2) (cW y) p.2 y 1500000 W m (SU _) (SU _) a8 ky (by decide) bv ay;have s2:¬0<S2:=fun h=>by
         rw[<-az] at h;have:=(bq6 p.1 y).1 h;grind
        have s3:¬S3<0:=fun h=>by
         rw[<-a0] at h;rcases iY (p.2-y) with k1|k1|k1
         ·grind
         ·rw[k1] at h;exact absurd h (by decide)
         ·rw[(fS _).1 k1] at h;exact absurd h (by decide)
        rw[az] at c2;rw[a0] at c3;unfold eO at c2 c3;have bb:(m8 p).1=cW p.1:=rfl;have bc:(m8 p).2=cW p.2:=rfl;rw[bb] at au;rw[bc] at av;by_cases ca:q=0
        ·subst ca;have da:decide (0<S2)=false:=decide_eq_false s2;have db:decide (S3<0)=false:=decide_eq_false s3;have dn:(0:Int)<(R.length:Int):=by omega
         simp only[gQ,azW,bA] at ar au av;clear a6 H aq h5 ky a7 a8 ck cl ay bu bv az a0 N ax bb bc;generalize cW y=ty at *;generalize cW p.1=t1 at *;generalize cW p.2=t2 at *;go_wp2_with fail;refine a1.mono ?_;rintro e5 F ⟨rfl,af⟩;have:=St.mk af;have ac:=S1.up (b:=F) ar an;have ad:=S1.up (b:=F) au ao;have ae:=S1.up (b:=F) av ao;have J:b3<F.1.size:=aZ an af.size;have D:b4<F.1.size:=aZ ao af.size;clear ar au av a1;go_wp2_with fail;refine wp_region_noPanic ?_;refine wp_region_held_drew (S:=(fun w'=>S1 w' b3 o3 (.string ⟨ty.toArray⟩)∧S1 w' b4 0 (.string ⟨t1.toArray⟩)∧S1 w' b4 1 (.string ⟨t2.toArray⟩))) (by kernel_rfl) (by(try dsimp only);(with_reducible exact⟨ac.up J,ad.up D,ae.up D⟩)) (fun c=> ?_);refine dQ (v:= ?_) 0 120 rfl rfl (by kernel_rfl) (fun _ _ _ h=>h) (by rfl) c ?_ ?_;rotate_left;focus (intro w a;(try dsimp only at a);go_simp;(try with_reducible rfl);done)
         (try simp only[Act.put,List.setIfInBounds_toArray,bzS,List.set_cons_succ]);refine dQ (v:= ?_) 1 121 rfl rfl (by kernel_rfl) (fun _ _ _ h=>h) (by rfl) c ?_ ?_;rotate_left;focus (intro w a;(try dsimp only at a);go_simp;(try with_reducible rfl);done)
         (try simp only[Act.put,List.setIfInBounds_toArray,bzS,List.set_cons_succ]);refine dQ (v:= ?_) 2 122 rfl rfl (by kernel_rfl) (fun _ _ _ h=>h) (by rfl) c ?_ ?_;rotate_left;focus (intro w a;(try dsimp only at a);go_simp;(try with_reducible rfl);done)
         (try simp only[Act.put,List.setIfInBounds_toArray,bzS,List.set_cons_succ]);refine dQ (v:= ?_) 3 123 rfl rfl (by kernel_rfl) (fun _ _ _ h=>h) (by rfl) c ?_ ?_;rotate_left;focus (intro w a;(try dsimp only at a);go_simp;(try with_reducible rfl);done)
         (try simp only[Act.put,List.setIfInBounds_toArray,bzS,List.set_cons_succ]);refine dQ (v:= ?_) 4 124 rfl rfl (by kernel_rfl) (fun _ _ _ h=>h) (by rfl) c ?_ ?_;rotate_left;focus (intro w a;(try dsimp only at a);go_simp;(try with_reducible rfl);done)
         (try simp only[Act.put,List.setIfInBounds_toArray,bzS,List.set_cons_succ]);refine dQ (v:= ?_) 5 125 rfl rfl (by kernel_rfl) (fun _ _ _ h=>h) (by rfl) c ?_ ?_;rotate_left;focus (intro w a;(try dsimp only at a);go_simp;(try with_reducible rfl);done)
         (try simp only[Act.put,List.setIfInBounds_toArray,bzS,List.set_cons_succ]);refine dQ (v:= ?_) 6 126 rfl rfl (by kernel_rfl) (fun _ _ _ h=>h) (by rfl) c ?_ ?_;rotate_left;focus (intro w a;(try dsimp only at a);go_simp;(try with_reducible rfl);done)
         (try simp only[Act.put,List.setIfInBounds_toArray,bzS,List.set_cons_succ]);refine dQ (v:= ?_) 7 127 rfl rfl (by kernel_rfl) (fun _ _ _ h=>h) (by rfl) c ?_ ?_;rotate_left;focus (intro w a;(try dsimp only at a);go_simp;(try with_reducible rfl);done)
         (try simp only[Act.put,List.setIfInBounds_toArray,bzS,List.set_cons_succ]);refine dQ (v:= ?_) 8 128 rfl rfl (by kernel_rfl) (fun _ _ _ h=>h) (by rfl) c ?_ ?_;rotate_left;focus (intro w a;(try dsimp only at a);go_simp;(try with_reducible rfl);done)
         (try simp only[Act.put,List.setIfInBounds_toArray,bzS,List.set_cons_succ]);refine dQ (v:= ?_) 9 129 rfl rfl (by kernel_rfl) (fun _ _ _ h=>h) (by rfl) c ?_ ?_;rotate_left;focus (intro w a;(try dsimp only at a);go_simp;(try with_reducible rfl);done)
         (try simp only[Act.put,List.setIfInBounds_toArray,bzS,List.set_cons_succ]);refine tE 10 130 (by kernel_rfl) (fun _ _ _ h=>h) c ?_;(try simp only[Act.put,List.setIfInBounds_toArray,bzS,List.set_cons_succ]);refine tE 11 131 (by kernel_rfl) (fun _ _ _ h=>h) c ?_;(try simp only[Act.put,List.setIfInBounds_toArray,bzS,List.set_cons_succ]);refine tE 12 132 (by kernel_rfl) (fun _ _ _ h=>h) c ?_;(try simp only[Act.put,List.setIfInBounds_toArray,bzS,List.set_cons_succ]);refine tE 13 133 (by kernel_rfl) (fun _ _ _ h=>h) c ?_;(try simp only[Act.put,List.setIfInBounds_toArray,bzS,List.set_cons_succ]);refine tE 14 134 (by kernel_rfl) (fun _ _ _ h=>h) c ?_;(try simp only[Act.put,List.setIfInBounds_toArray,bzS,List.set_cons_succ]);refine tE 15 135 (by kernel_rfl) (fun _ _ _ h=>h) c ?_;(try simp only[Act.put,List.setIfInBounds_toArray,bzS,List.set_cons_succ]);refine tE 16 136 (by kernel_rfl) (fun _ _ _ h=>h) c ?_;(try simp only[Act.put,List.setIfInBounds_toArray,bzS,List.set_cons_succ]);refine tE 17 137 (by kernel_rfl) (fun _ _ _ h=>h) c ?_;(try simp only[Act.put,List.setIfInBounds_toArray,bzS,List.set_cons_succ]);refine tE 18 138 (by kernel_rfl) (fun _ _ _ h=>h) c ?_;(try simp only[Act.put,List.setIfInBounds_toArray,bzS,List.set_cons_succ]);refine tE 19 139 (by kernel_rfl) (fun _ _ _ h=>h) c ?_;(try simp only[Act.put,List.setIfInBounds_toArray,bzS,List.set_cons_succ]);refine tE 20 140 (by kernel_rfl) (fun _ _ _ h=>h) c ?_;(try simp only[Act.put,List.setIfInBounds_toArray,bzS,List.set_cons_succ]);refine dQ (v:= ?_) 21 141 rfl rfl (by kernel_rfl) (fun _ _ _ h=>h) (by rfl) c ?_ ?_;rotate_left;focus (intro w a;(try dsimp only at a);go_simp;(try with_reducible rfl);done)
         (try simp only[Act.put,List.setIfInBounds_toArray,bzS,List.set_cons_succ]);refine dQ (v:= ?_) 22 142 rfl rfl (by kernel_rfl) (fun _ _ _ h=>h) (by rfl) c ?_ ?_;rotate_left;focus (intro w a;(try dsimp only at a);go_simp;(try with_reducible rfl);done)
         (try simp only[Act.put,List.setIfInBounds_toArray,bzS,List.set_cons_succ]);refine dQ (v:= ?_) 23 143 rfl rfl (by kernel_rfl) (fun _ _ _ h=>h) (by rfl) c ?_ ?_;rotate_left;focus (intro w a;(try dsimp only at a);go_simp;(try with_reducible rfl);done)
         (try simp only[Act.put,List.setIfInBounds_toArray,bzS,List.set_cons_succ]);refine dQ (v:= ?_) 24 144 rfl rfl (by kernel_rfl) (fun _ _ _ h=>h) (by rfl) c ?_ ?_;rotate_left;focus (intro w a;(try dsimp only at a);go_simp;(try with_reducible rfl);done)
         (try simp only[Act.put,List.setIfInBounds_toArray,bzS,List.set_cons_succ]);refine dQ (v:= ?_) 25 145 rfl rfl (by kernel_rfl) (fun _ _ _ h=>h) (by rfl) c ?_ ?_;rotate_left;focus (intro w a;(try dsimp only at a);go_simp;(try with_reducible rfl);done)
         (try simp only[Act.put,List.setIfInBounds_toArray,bzS,List.set_cons_succ]);refine dQ (v:= ?_) 26 146 rfl rfl (by kernel_rfl) (fun _ _ _ h=>h) (by rfl) c ?_ ?_;rotate_left;focus (intro w a;(try dsimp only at a);go_simp;(try with_reducible rfl);done)
         (try simp only[Act.put,List.setIfInBounds_toArray,bzS,List.set_cons_succ]);refine dQ (v:= ?_) 27 147 rfl rfl (by kernel_rfl) (fun _ _ _ h=>h) (by rfl) c ?_ ?_;rotate_left;focus (intro w a;(try dsimp only at a);go_simp;(try with_reducible rfl);done)
         (try simp only[Act.put,List.setIfInBounds_toArray,bzS,List.set_cons_succ]);refine dQ (v:= ?_) 28 148 rfl rfl (by kernel_rfl) (fun _ _ _ h=>h) (by rfl) c ?_ ?_;rotate_left;focus (intro w a;(try dsimp only at a);go_simp;(try with_reducible rfl);done)
         (try simp only[Act.put,List.setIfInBounds_toArray,bzS,List.set_cons_succ]);refine dQ (v:= ?_) 29 149 rfl rfl (by kernel_rfl) (fun _ _ _ h=>h) (by rfl) c ?_ ?_;rotate_left;focus (intro w a;(try dsimp only at a);go_simp;(try with_reducible rfl);done)
         (try simp only[Act.put,List.setIfInBounds_toArray,bzS,List.set_cons_succ]);refine dQ (v:= ?_) 30 150 rfl rfl (by kernel_rfl) (fun _ _ _ h=>h) (by rfl) c ?_ ?_;rotate_left;focus (intro w a;(try dsimp only at a);go_simp;(try with_reducible rfl);done)
         (try simp only[Act.put,List.setIfInBounds_toArray,bzS,List.set_cons_succ]);refine dQ (v:= ?_) 31 151 rfl rfl (by kernel_rfl) (fun _ _ _ h=>h) (by rfl) c ?_ ?_;rotate_left;focus (intro w a;(try dsimp only at a);go_simp;(try with_reducible rfl);done)
         (try simp only[Act.put,List.setIfInBounds_toArray,bzS,List.set_cons_succ]);refine dQ (v:= ?_) 32 152 rfl rfl (by kernel_rfl) (fun _ _ _ h=>h) (by rfl) c ?_ ?_;rotate_left;focus (intro w a;(try dsimp only at a);go_simp;(try with_reducible rfl);done)
         (try simp only[Act.put,List.setIfInBounds_toArray,bzS,List.set_cons_succ]);refine wpAnyH_ready (rs:=[33]) (by kernel_rfl) (by simp) (AllReadyH.cons (o:=_) rfl (fun K E=> ?_) AllReadyH.nil);go_simp;(go_at_call 13;refine(c2 _ (m.be (bJ d))).mono ?_;rintro e7 w7 ⟨rfl,al⟩;have:=St.mk al);go_wp2_with fail;refine E.out _ _ (by(try dsimp only);(with_reducible exact⟨ac.up J,ad.up D,ae.up D⟩)) (fun c=> ?_);clear E K;(try simp only[Act.put,List.setIfInBounds_toArray,bzS,List.set_cons_succ]);refine dQ (v:= ?_) 34 154 rfl rfl (by kernel_rfl) (fun _ _ _ h=>h) (by rfl) c ?_ ?_;rotate_left;focus (intro w a;(try dsimp only at a);go_simp;(try with_reducible rfl);done)
         (try simp only[Act.put,List.setIfInBounds_toArray,bzS,List.set_cons_succ]);refine dQ (v:= ?_) 35 155 rfl rfl (by kernel_rfl) (fun _ _ _ h=>h) (by rfl) c ?_ ?_;rotate_left;focus (intro w a;(try dsimp only at a);go_simp;(try with_reducible rfl);done)
         (try simp only[Act.put,List.setIfInBounds_toArray,bzS,List.set_cons_succ]);refine dQ (v:= ?_) 36 156 rfl rfl (by kernel_rfl) (fun _ _ _ h=>h) (by rfl) c ?_ ?_;rotate_left;focus (intro w a;(try dsimp only at a);go_simp;(try with_reducible rfl);done)
         (try simp only[Act.put,List.setIfInBounds_toArray,bzS,List.set_cons_succ]);refine dQ (v:= ?_) 37 157 rfl rfl (by kernel_rfl) (fun _ _ _ h=>h) (by rfl) c ?_ ?_;rotate_left;focus (intro w a;(try dsimp only at a);go_simp;(try with_reducible rfl);done)
         (try simp only[Act.put,List.setIfInBounds_toArray,bzS,List.set_cons_succ]);refine dQ (v:= ?_) 38 158 rfl rfl (by kernel_rfl) (fun _ _ _ h=>h) (by rfl) c ?_ ?_;rotate_left;focus (intro w a;(try dsimp only at a);go_simp;(try with_reducible rfl);done)
         (try simp only[Act.put,List.setIfInBounds_toArray,bzS,List.set_cons_succ]);refine dQ (v:= ?_) 39 159 rfl rfl (by kernel_rfl) (fun _ _ _ h=>h) (by rfl) c ?_ ?_;rotate_left;focus (intro w a;(try dsimp only at a);go_simp;(try with_reducible rfl);done)
         (try simp only[Act.put,List.setIfInBounds_toArray,bzS,List.set_cons_succ]);refine dQ (v:= ?_) 40 160 rfl rfl (by kernel_rfl) (fun _ _ _ h=>h) (by rfl) c ?_ ?_;rotate_left;focus (intro w a;(try dsimp only at a);go_simp;(try with_reducible rfl);done)
         (try simp only[Act.put,List.setIfInBounds_toArray,bzS,List.set_cons_succ]);refine dQ (v:= ?_) 41 161 rfl rfl (by kernel_rfl) (fun _ _ _ h=>h) (by rfl) c ?_ ?_;rotate_left;focus (intro w a;(try dsimp only at a);go_simp;(try with_reducible rfl);done)
         (try simp only[Act.put,List.setIfInBounds_toArray,bzS,List.set_cons_succ]);refine dQ (v:= ?_) 42 162 rfl rfl (by kernel_rfl) (fun _ _ _ h=>h) (by rfl) c ?_ ?_;rotate_left;focus (intro w a;(try dsimp only at a);go_simp;(try with_reducible rfl);done)
         (try simp only[Act.put,List.setIfInBounds_toArray,bzS,List.set_cons_succ]);refine dQ (v:= ?_) 43 163 rfl rfl (by kernel_rfl) (fun _ _ _ h=>h) (by rfl) c ?_ ?_;rotate_left;focus (intro w a;(try dsimp only at a);go_simp;(try with_reducible rfl);done)
         (try simp only[Act.put,List.setIfInBounds_toArray,bzS,List.set_cons_succ]);refine dQ (v:= ?_) 44 164 rfl rfl (by kernel_rfl) (fun _ _ _ h=>h) (by rfl) c ?_ ?_;rotate_left;focus (intro w a;(try dsimp only at a);go_simp;(try with_reducible rfl);done)
         (try simp only[Act.put,List.setIfInBounds_toArray,bzS,List.set_cons_succ]);refine dQ (v:= ?_) 45 165 rfl rfl (by kernel_rfl) (fun _ _ _ h=>h) (by rfl) c ?_ ?_;rotate_left;focus (intro w a;(try dsimp only at a);go_simp;(try with_reducible rfl);done)
         (try simp only[Act.put,List.setIfInBounds_toArray,bzS,List.set_cons_succ]);refine wpAnyH_ready (rs:=[46]) (by kernel_rfl) (by simp) (AllReadyH.cons (o:=_) rfl (fun K E=> ?_) AllReadyH.nil);go_simp;(go_at_call 13;refine(c3 _ (m.be (bJ d))).mono ?_;rintro e8 w8 ⟨rfl,am⟩;have:=St.mk am);go_wp2_with fail;refine E.out _ _ (by(try dsimp only);(with_reducible exact⟨ac.up J,ad.up D,ae.up D⟩)) (fun c=> ?_);clear E K;(try simp only[Act.put,List.setIfInBounds_toArray,bzS,List.set_cons_succ]);refine dQ (v:= ?_) 47 167 rfl rfl (by kernel_rfl) (fun _ _ _ h=>h) (by rfl) c ?_ ?_;rotate_left;focus (intro w a;(try dsimp only at a);go_simp;(try with_reducible rfl);done)
         (try simp only[Act.put,List.setIfInBounds_toArray,bzS,List.set_cons_succ]);refine dQ (v:= ?_) 48 168 rfl rfl (by kernel_rfl) (fun _ _ _ h=>h) (by rfl) c ?_ ?_;rotate_left;focus (intro w a;(try dsimp only at a);go_simp;(try with_reducible rfl);done)
         (try simp only[Act.put,List.setIfInBounds_toArray,bzS,List.set_cons_succ]);refine wpAnyH_done (by kernel_rfl) ?_ _;refine NoPanic.normal ?_;go_wp2;go_roundg k
         case rel=>exact⟨0+1,by have:=P.out;unfold Hid;omega,by go_num,bJ B⟩
         case measure=>omega
        ·have q6:(0:Int)<(q:Int):=by omega
         have da:decide (0<S2)=false:=decide_eq_false s2;have db:decide (S3<0)=false:=decide_eq_false s3;obtain⟨G,a4⟩:∃G,R[q-1]? =some G:=⟨_,aR (by omega)⟩;obtain⟨de,dp,ba, -,ch⟩:=z.at_ (i:=q-1) (t:=cW G) (by rw[iK,a4];rfl);injection ba with ba;injection ba with e3a e3b;subst e3a e3b;have cz:G<y:=by
          obtain⟨h1,rfl⟩:=List.getElem?_eq_some_iff.1 a4;obtain⟨h2,rfl⟩:=List.getElem?_eq_some_iff.1 N;exact List.pairwise_iff_getElem.1 X.out.1 (q-1) q h1 h2 (by omega)
         have cj:aI T G=0:=(X.out.2.1 G).1 (dG a4);obtain⟨t',bs,cg⟩:=(HM.out G).1 cj;have cv:(cW G).length<=5:=by
          obtain⟨r,C⟩:=Option.isSome_iff_exists.1 (a9.out t' bs);have e:G=r:=by rw[<-cg];unfold zX;rw[C];rfl
          rw[e,tL C];exact bq t' bs
         have c1:=fun W m=>cyO (cW G) (cW y) G y 1500000 W m (SU _) (SU _) (bU (lS (SU G) (by omega)) (by decide)) ky (by decide) (by omega) ay;rw[(fS _).2 (show G-y<0 by grind)] at c1;unfold eO at c1;have q7:(q:Int)-1=((q-1:Nat):Int):=by omega
         have q9:0<q:=by omega
         have dq:IntKind.i64.wrap ((q-1:Nat):Int)=((q-1:Nat):Int):=IntWalk.i64_in _ ⟨by omega,by omega⟩;have dr:((q-1:Nat):Int)<(R.length:Int):=by omega
         have ds:(0:Int)<=((q-1:Nat):Int):=by omega
         clear a6 H aq h5 ky a7 a8 ck cl ay bu bv az a0 N ax bb bc ca a4 cz cj bs cg cv;generalize cW y=ty at *;generalize cW G=dc at *;generalize cW p.1=t1 at *;generalize cW p.2=t2 at *;go_wp2_with fail;refine a1.mono ?_;rintro e5 F ⟨rfl,af⟩;have:=St.mk af;have ac:=S1.up (b:=F) ar an;have a5:=S1.up (b:=F) ch an;have ad:=S1.up (b:=F) au ao;have ae:=S1.up (b:=F) av ao;have J:b3<F.1.size:=aZ an af.size;have D:b4<F.1.size:=aZ ao af.size;clear ar au av ch a1;go_wp2_with fail;refine wp_region_noPanic ?_;refine wp_region_held_drew (S:=(fun w'=>S1 w' b3 (o3+q) (.string ⟨ty.toArray⟩)∧S1 w' b3 (o3+(q-1)) (.string ⟨dc.toArray⟩)∧S1 w' b4 (q*2) (.string ⟨t1.toArray⟩)∧S1 w' b4 (q*2+1) (.string ⟨t2.toArray⟩))) (by kernel_rfl) (by(try dsimp only);(with_reducible exact⟨ac.up J,a5.up J,ad.up D,ae.up D⟩)) (fun c=> ?_);refine dQ (v:= ?_) 0 120 rfl rfl (by kernel_rfl) (fun _ _ _ h=>h) (by rfl) c ?_ ?_;rotate_left;focus (intro w a;(try dsimp only at a);go_simp;(try with_reducible rfl);done)
         (try simp only[Act.put,List.setIfInBounds_toArray,bzS,List.set_cons_succ]);refine dQ (v:= ?_) 1 121 rfl rfl (by kernel_rfl) (fun _ _ _ h=>h) (by rfl) c ?_ ?_;rotate_left;focus (intro w a;(try dsimp only at a);go_simp;(try with_reducible rfl);done)
         (try simp only[Act.put,List.setIfInBounds_toArray,bzS,List.set_cons_succ]);refine dQ (v:= ?_) 2 122 rfl rfl (by kernel_rfl) (fun _ _ _ h=>h) (by rfl) c ?_ ?_;rotate_left;focus (intro w a;(try dsimp only at a);go_simp;(try with_reducible rfl);done)
         (try simp only[Act.put,List.setIfInBounds_toArray,bzS,List.set_cons_succ]);refine dQ (v:= ?_) 3 123 rfl rfl (by kernel_rfl) (fun _ _ _ h=>h) (by rfl) c ?_ ?_;rotate_left;focus (intro w a;(try dsimp only at a);go_simp;(try with_reducible rfl);done)
         (try simp only[Act.put,List.setIfInBounds_toArray,bzS,List.set_cons_succ]);refine dQ (v:= ?_) 4 124 rfl rfl (by kernel_rfl) (fun _ _ _ h=>h) (by rfl) c ?_ ?_;rotate_left;focus (intro w a;(try dsimp only at a);go_simp;(try with_reducible rfl);done)
         (try simp only[Act.put,List.setIfInBounds_toArray,bzS,List.set_cons_succ]);refine dQ (v:= ?_) 5 125 rfl rfl (by kernel_rfl) (fun _ _ _ h=>h) (by rfl) c ?_ ?_;rotate_left;focus (intro w a;(try dsimp only at a);go_simp;(try with_reducible rfl);done)
         (try simp only[Act.put,List.setIfInBounds_toArray,bzS,List.set_cons_succ]);refine dQ (v:= ?_) 6 126 rfl rfl (by kernel_rfl) (fun _ _ _ h=>h) (by rfl) c ?_ ?_;rotate_left;focus (intro w a;(try dsimp only at a);go_simp;(try with_reducible rfl);done)
         (try simp only[Act.put,List.setIfInBounds_toArray,bzS,List.set_cons_succ]);refine dQ (v:= ?_) 7 127 rfl rfl (by kernel_rfl) (fun _ _ _ h=>h) (by rfl) c ?_ ?_;rotate_left;focus (intro w a;(try dsimp only at a);go_simp;(try with_reducible rfl);done)
         (try simp only[Act.put,List.setIfInBounds_toArray,bzS,List.set_cons_succ]);refine dQ (v:= ?_) 8 128 rfl rfl (by kernel_rfl) (fun _ _ _ h=>h) (by rfl) c ?_ ?_;rotate_left;focus (intro w a;(try dsimp only at a);go_simp;(try with_reducible rfl);done)
         (try simp only[Act.put,List.setIfInBounds_toArray,bzS,List.set_cons_succ]);refine dQ (v:= ?_) 9 129 rfl rfl (by kernel_rfl) (fun _ _ _ h=>h) (by rfl) c ?_ ?_;rotate_left;focus (intro w a;(try dsimp only at a);go_simp;(try with_reducible rfl);done)
         (try simp only[Act.put,List.setIfInBounds_toArray,bzS,List.set_cons_succ]);refine dQ (v:= ?_) 10 130 rfl rfl (by kernel_rfl) (fun _ _ _ h=>h) (by rfl) c ?_ ?_;rotate_left;focus (intro w a;(try dsimp only at a);go_simp;(try with_reducible rfl);done)
         (try simp only[Act.put,List.setIfInBounds_toArray,bzS,List.set_cons_succ]);refine dQ (v:= ?_) 11 131 rfl rfl (by kernel_rfl) (fun _ _ _ h=>h) (by rfl) c ?_ ?_;rotate_left;focus (intro w a;(try dsimp only at a);go_simp;(try with_reducible rfl);done)
         (try simp only[Act.put,List.setIfInBounds_toArray,bzS,List.set_cons_succ]);refine dQ (v:= ?_) 12 132 rfl rfl (by kernel_rfl) (fun _ _ _ h=>h) (by rfl) c ?_ ?_;rotate_left;focus (intro w a;(try dsimp only at a);go_simp;(try with_reducible rfl);done)
         (try simp only[Act.put,List.setIfInBounds_toArray,bzS,List.set_cons_succ]);refine dQ (v:= ?_) 13 133 rfl rfl (by kernel_rfl) (fun _ _ _ h=>h) (by rfl) c ?_ ?_;rotate_left;focus (intro w a;(try dsimp only at a);go_simp;(try with_reducible rfl);done)
         (try simp only[Act.put,List.setIfInBounds_toArray,bzS,List.set_cons_succ]);refine dQ (v:= ?_) 14 134 rfl rfl (by kernel_rfl) (fun _ _ _ h=>h) (by rfl) c ?_ ?_;rotate_left;focus (intro w a;(try dsimp only at a);go_simp;(try with_reducible rfl);done)
         (try simp only[Act.put,List.setIfInBounds_toArray,bzS,List.set_cons_succ]);refine dQ (v:= ?_) 15 135 rfl rfl (by kernel_rfl) (fun _ _ _ h=>h) (by rfl) c ?_ ?_;rotate_left;focus (intro w a;(try dsimp only at a);go_simp;(try with_reducible rfl);done)
         (try simp only[Act.put,List.setIfInBounds_toArray,bzS,List.set_cons_succ]);refine dQ (v:= ?_) 16 136 rfl rfl (by kernel_rfl) (fun _ _ _ h=>h) (by rfl) c ?_ ?_;rotate_left;focus (intro w a;(try dsimp only at a);go_simp;(try with_reducible rfl);done)
         (try simp only[Act.put,List.setIfInBounds_toArray,bzS,List.set_cons_succ]);refine dQ (v:= ?_) 17 137 rfl rfl (by kernel_rfl) (fun _ _ _ h=>h) (by rfl) c ?_ ?_;rotate_left;focus (intro w a;(try dsimp only at a);go_simp;(try with_reducible rfl);done)
         (try simp only[Act.put,List.setIfInBounds_toArray,bzS,List.set_cons_succ]);refine dQ (v:= ?_) 18 138 rfl rfl (by kernel_rfl) (fun _ _ _ h=>h) (by rfl) c ?_ ?_;rotate_left;focus (intro w a;(try dsimp only at a);go_simp;(try with_reducible rfl);done)
         (try simp only[Act.put,List.setIfInBounds_toArray,bzS,List.set_cons_succ]);refine wpAnyH_ready (rs:=[19]) (by kernel_rfl) (by simp) (AllReadyH.cons (o:=_) rfl (fun K E=> ?_) AllReadyH.nil);go_simp;(go_at_call 13;refine(c1 _ (m.be (bJ d))).mono ?_;rintro e6 w6 ⟨rfl,ag⟩;have:=St.mk ag);go_wp2_with fail;refine E.out _ _ (by(try dsimp only);(with_reducible exact⟨ac.up J,a5.up J,ad.up D,ae.up D⟩)) (fun c=> ?_);clear E K;(try simp only[Act.put,List.setIfInBounds_toArray,bzS,List.set_cons_succ]);refine dQ (v:= ?_) 20 140 rfl rfl (by kernel_rfl) (fun _ _ _ h=>h) (by rfl) c ?_ ?_;rotate_left;focus (intro w a;(try dsimp only at a);go_simp;(try with_reducible rfl);done)
         (try simp only[Act.put,List.setIfInBounds_toArray,bzS,List.set_cons_succ]);refine dQ (v:= ?_) 21 141 rfl rfl (by kernel_rfl) (fun _ _ _ h=>h) (by rfl) c ?_ ?_;rotate_left;focus (intro w a;(try dsimp only at a);go_simp;(try with_reducible rfl);done)
         (try simp only[Act.put,List.setIfInBounds_toArray,bzS,List.set_cons_succ]);refine dQ (v:= ?_) 22 142 rfl rfl (by kernel_rfl) (fun _ _ _ h=>h) (by rfl) c ?_ ?_;rotate_left;focus (intro w a;(try dsimp only at a);go_simp;(try with_reducible rfl);done)
         (try simp only[Act.put,List.setIfInBounds_toArray,bzS,List.set_cons_succ]);refine dQ (v:= ?_) 23 143 rfl rfl (by kernel_rfl) (fun _ _ _ h=>h) (by rfl) c ?_ ?_;rotate_left;focus (intro w a;(try dsimp only at a);go_simp;(try with_reducible rfl);done)
         (try simp only[Act.put,List.setIfInBounds_toArray,bzS,List.set_cons_succ]);refine dQ (v:= ?_) 24 144 rfl rfl (by kernel_rfl) (fun _ _ _ h=>h) (by rfl) c ?_ ?_;rotate_left;focus (intro w a;(try dsimp only at a);go_simp;(try with_reducible rfl);done)
         (try simp only[Act.put,List.setIfInBounds_toArray,bzS,List.set_cons_succ]);refine dQ (v:= ?_) 25 145 rfl rfl (by kernel_rfl) (fun _ _ _ h=>h) (by rfl) c ?_ ?_;rotate_left;focus (intro w a;(try dsimp only at a);go_simp;(try with_reducible rfl);done)
         (try simp only[Act.put,List.setIfInBounds_toArray,bzS,List.set_cons_succ]);refine dQ (v:= ?_) 26 146 rfl rfl (by kernel_rfl) (fun _ _ _ h=>h) (by rfl) c ?_ ?_;rotate_left;focus (intro w a;(try dsimp only at a);go_simp;(try with_reducible rfl);done)
         (try simp only[Act.put,List.setIfInBounds_toArray,bzS,List.set_cons_succ]);refine dQ (v:= ?_) 27 147 rfl rfl (by kernel_rfl) (fun _ _ _ h=>h) (by rfl) c ?_ ?_;rotate_left;focus (intro w a;(try dsimp only at a);go_simp;(try with_reducible rfl);done)
         (try simp only[Act.put,List.setIfInBounds_toArray,bzS,List.set_cons_succ]);refine dQ (v:= ?_) 28 148 rfl rfl (by kernel_rfl) (fun _ _ _ h=>h) (by rfl) c ?_ ?_;rotate_left;focus (intro w a;(try dsimp only at a);go_simp;(try with_reducible rfl);done)
         (try simp only[Act.put,List.setIfInBounds_toArray,bzS,List.set_cons_succ]);refine dQ (v:= ?_) 29 149 rfl rfl (by kernel_rfl) (fun _ _ _ h=>h) (by rfl) c ?_ ?_;rotate_left;focus (intro w a;(try dsimp only at a);go_simp;(try with_reducible rfl);done)
         (try simp only[Act.put,List.setIfInBounds_toArray,bzS,List.set_cons_succ]);refine dQ (v:= ?_) 30 150 rfl rfl (by kernel_rfl) (fun _ _ _ h=>h) (by rfl) c ?_ ?_;rotate_left;focus (intro w a;(try dsimp only at a);go_simp;(try with_reducible rfl);done)
         (try simp only[Act.put,List.setIfInBounds_toArray,bzS,List.set_cons_succ]);refine dQ (v:= ?_) 31 151 rfl rfl (by kernel_rfl) (fun _ _ _ h=>h) (by rfl) c ?_ ?_;rotate_left;focus (intro w a;(try dsimp only at a);go_simp;(try with_reducible rfl);done)
         (try simp only[Act.put,List.setIfInBounds_toArray,bzS,List.set_cons_succ]);refine dQ (v:= ?_) 32 152 rfl rfl (by kernel_rfl) (fun _ _ _ h=>h) (by rfl) c ?_ ?_;rotate_left;focus (intro w a;(try dsimp only at a);go_simp;(try with_reducible rfl);done)
         (try simp only[Act.put,List.setIfInBounds_toArray,bzS,List.set_cons_succ]);refine wpAnyH_ready (rs:=[33]) (by kernel_rfl) (by simp) (AllReadyH.cons (o:=_) rfl (fun K E=> ?_) AllReadyH.nil);go_simp;(go_at_call 13;refine(c2 _ (m.be (bJ d))).mono ?_;rintro e7 w7 ⟨rfl,al⟩;have:=St.mk al);go_wp2_with fail;refine E.out _ _ (by(try dsimp only);(with_reducible exact⟨ac.up J,a5.up J,ad.up D,ae.up D⟩)) (fun c=> ?_);clear E K;(try simp only[Act.put,List.setIfInBounds_toArray,bzS,List.set_cons_succ]);refine dQ (v:= ?_) 34 154 rfl rfl (by kernel_rfl) (fun _ _ _ h=>h) (by rfl) c ?_ ?_;rotate_left;focus (intro w a;(try dsimp only at a);go_simp;(try with_reducible rfl);done)
         (try simp only[Act.put,List.setIfInBounds_toArray,bzS,List.set_cons_succ]);refine dQ (v:= ?_) 35 155 rfl rfl (by kernel_rfl) (fun _ _ _ h=>h) (by rfl) c ?_ ?_;rotate_left;focus (intro w a;(try dsimp only at a);go_simp;(try with_reducible rfl);done)
         (try simp only[Act.put,List.setIfInBounds_toArray,bzS,List.set_cons_succ]);refine dQ (v:= ?_) 36 156 rfl rfl (by kernel_rfl) (fun _ _ _ h=>h) (by rfl) c ?_ ?_;rotate_left;focus (intro w a;(try dsimp only at a);go_simp;(try with_reducible rfl);done)
         (try simp only[Act.put,List.setIfInBounds_toArray,bzS,List.set_cons_succ]);refine dQ (v:= ?_) 37 157 rfl rfl (by kernel_rfl) (fun _ _ _ h=>h) (by rfl) c ?_ ?_;rotate_left;focus (intro w a;(try dsimp only at a);go_simp;(try with_reducible rfl);done)
         (try simp only[Act.put,List.setIfInBounds_toArray,bzS,List.set_cons_succ]);refine dQ (v:= ?_) 38 158 rfl rfl (by kernel_rfl) (fun _ _ _ h=>h) (by rfl) c ?_ ?_;rotate_left;focus (intro w a;(try dsimp only at a);go_simp;(try with_reducible rfl);done)
         (try simp only[Act.put,List.setIfInBounds_toArray,bzS,List.set_cons_succ]);refine dQ (v:= ?_) 39 159 rfl rfl (by kernel_rfl) (fun _ _ _ h=>h) (by rfl) c ?_ ?_;rotate_left;focus (intro w a;(try dsimp only at a);go_simp;(try with_reducible rfl);done)
         (try simp only[Act.put,List.setIfInBounds_toArray,bzS,List.set_cons_succ]);refine dQ (v:= ?_) 40 160 rfl rfl (by kernel_rfl) (fun _ _ _ h=>h) (by rfl) c ?_ ?_;rotate_left;focus (intro w a;(try dsimp only at a);go_simp;(try with_reducible rfl);done)
         (try simp only[Act.put,List.setIfInBounds_toArray,bzS,List.set_cons_succ]);refine dQ (v:= ?_) 41 161 rfl rfl (by kernel_rfl) (fun _ _ _ h=>h) (by rfl) c ?_ ?_;rotate_left;focus (intro w a;(try dsimp only at a);go_simp;(try with_reducible rfl);done)
         (try simp only[Act.put,List.setIfInBounds_toArray,bzS,List.set_cons_succ]);refine dQ (v:= ?_) 42 162 rfl rfl (by kernel_rfl) (fun _ _ _ h=>h) (by rfl) c ?_ ?_;rotate_left;focus (intro w a;(try dsimp only at a);go_simp;(try with_reducible rfl);done)
         (try simp only[Act.put,List.setIfInBounds_toArray,bzS,List.set_cons_succ]);refine dQ (v:= ?_) 43 163 rfl rfl (by kernel_rfl) (fun _ _ _ h=>h) (by rfl) c ?_ ?_;rotate_left;focus (intro w a;(try dsimp only at a);go_simp;(try with_reducible rfl);done)
         (try simp only[Act.put,List.setIfInBounds_toArray,bzS,List.set_cons_succ]);refine dQ (v:= ?_) 44 164 rfl rfl (by kernel_rfl) (fun _ _ _ h=>h) (by rfl) c ?_ ?_;rotate_left;focus (intro w a;(try dsimp only at a);go_simp;(try with_reducible rfl);done)
         (try simp only[Act.put,List.setIfInBounds_toArray,bzS,List.set_cons_succ]);refine dQ (v:= ?_) 45 165 rfl rfl (by kernel_rfl) (fun _ _ _ h=>h) (by rfl) c ?_ ?_;rotate_left;focus (intro w a;(try dsimp only at a);go_simp;(try with_reducible rfl);done)
         (try simp only[Act.put,List.setIfInBounds_toArray,bzS,List.set_cons_succ]);refine wpAnyH_ready (rs:=[46]) (by kernel_rfl) (by simp) (AllReadyH.cons (o:=_) rfl (fun K E=> ?_) AllReadyH.nil);go_simp;(go_at_call 13;refine(c3 _ (m.be (bJ d))).mono ?_;rintro e8 w8 ⟨rfl,am⟩;have:=St.mk am);go_wp2_with fail;refine E.out _ _ (by(try dsimp only);(with_reducible exact⟨ac.up J,a5.up J,ad.up D,ae.up D⟩)) (fun c=> ?_);clear E K;(try simp only[Act.put,List.setIfInBounds_toArray,bzS,List.set_cons_succ]);refine dQ (v:= ?_) 47 167 rfl rfl (by kernel_rfl) (fun _ _ _ h=>h) (by rfl) c ?_ ?_;rotate_left;focus (intro w a;(try dsimp only at a);go_simp;(try with_reducible rfl);done)
         (try simp only[Act.put,List.setIfInBounds_toArray,bzS,List.set_cons_succ]);refine dQ (v:= ?_) 48 168 rfl rfl (by kernel_rfl) (fun _ _ _ h=>h) (by rfl) c ?_ ?_;rotate_left;focus (intro w a;(try dsimp only at a);go_simp;(try with_reducible rfl);done)
         (try simp only[Act.put,List.setIfInBounds_toArray,bzS,List.set_cons_succ]);refine wpAnyH_done (by kernel_rfl) ?_ _;refine NoPanic.normal ?_;go_wp2;go_roundg k
         case rel=>exact⟨q+1,by have:=P.out;unfold Hid;omega,by go_num,bJ B⟩
         case measure=>omega
end Go.Proofs.YtjgbleapffgbcaaGreatDoor
namespace Go.Proofs.YtjgbleapffgbcaaGreatDoor
open Go.ChangeShapes Go.WideShapes Go.ChangeAt Go.WideMaps Go.WideElems Go.RowKit Go.Proofs.Tryz
variable{W e:World}
def own:ownKnob Tryz.prog.godebug=none:=by kernel_rfl
def LZ:laidOutB prog=true:=by kernel_rfl
def ayO:Tryz.prog.cellsOf 9=1:=by kernel_rfl
def ayP:Tryz.prog.globalNamed "math/bits.deBruijn64tab" =some 0:=by kernel_rfl
def ayQ:Tryz.prog.globalNamed "internal/strconv.uint64pow10" =some 3:=by kernel_rfl
def ayR:(Tryz.prog.globals[0]?).map (·.type)=some 203:=by kernel_rfl
def ayS:(Tryz.prog.globals[3]?).map (·.type)=some 209:=by kernel_rfl
def ayT:Tryz.prog.cellsOf 203=64:=by kernel_rfl
def ayU:Tryz.prog.cellsOf 209=20:=by kernel_rfl
def ayV:Tryz.prog.cellsOf 5=1:=by kernel_rfl
def ayW:Tryz.prog.cellsOf 119=1:=by kernel_rfl
def uX:List (String×DataW Unit):=[("math/bits.deBruijn32tab",Rows.laid_math_bits_deBruijn32tab),("math/bits.deBruijn64tab",Rows.laid_math_bits_deBruijn64tab),("internal/strconv.uint64pow10",Rows.laid_internal_strconv_uint64pow10)]
def ayX(os:Os)(args:Array Value):laidMetH prog uX ((World.doorLaid prog 400 os).forCall (fun _ _=>0) ⟨#[],args,[]⟩).memory:=
 laidMetH_of_parts3 (fuel:=8) (laidMet_of_run' 8 (by kernel_rfl) (by kernel_rfl)) (by kernel_rfl) (by kernel_rfl)
def ayY:(Rows.laid_math_bits_deBruijn64tab:DataW Unit)=Lib.tabData .u8 (Lib.deBruijn64tab.map (fun z:Nat=>(z:Int))):=by rfl
def ayZ:(Rows.laid_internal_strconv_uint64pow10:DataW Unit)=Lib.tabData .u64 Lib.pow10Tab:=by rfl
def az0(h:laidMetH prog uX W):Glob W:=by
 rw[MakeChecks.laidMetH_plain _ _ _ (by kernel_rfl)] at h;obtain⟨C,⟨t,G,n,q,A,D,x,y,z,w,⟨u,H,o,r,B,E,c,i,l,a,⟨v,I,p,s,p2,F,f,k,m,b,_,_⟩,_⟩,_⟩,_,_⟩:=h;obtain rfl:=Option.some.inj (ayP.symm.trans c);obtain rfl:=Option.some.inj (ayQ.symm.trans f);obtain rfl:=Option.some.inj (ayR.symm.trans i);obtain rfl:=Option.some.inj (ayS.symm.trans k);rw[ayY] at a;rw[ayZ] at b;have d:=Lib.cells_of_tab underlying203 underlying5 ayV ayT a;have e:=Lib.cells_of_tab underlying209 underlying119 ayW ayU b;refine⟨fun j g=> ?_,?_⟩
 ·have:=World.var?_cell c l j;rw[this,<-Array.getElem?_toList,d];simp[List.getElem?_map,List.getElem?_eq_getElem g]
 ·unfold Lib.TabIs;rw[m,<-e]
def az1{H:Type}{enc:TypeId×Value->H}{p:Option Addr}{c k fuel:Nat}{x:DataW H×List MemPlace}
  (w:DataW.trod enc prog W 0 (fun _=>true) true fuel 22 [.slice p c k]=some x):
  ∃t:List (List UInt8),StrsAt W (.slice p c k) t∧∀l∈t,l.length<=9223372036854775807:=by
 rcases open_strings underlying22 underlying9 ayO w with ⟨d,C⟩|⟨a,G,E,o,d,_,y,F,D,C,m,B⟩
 ·simp at d;obtain⟨rfl,rfl,rfl⟩:=d;exact⟨[],StrsAt.nil _ _ _,fun l h=>by cases h⟩
 ·simp at d;obtain⟨rfl,rfl,rfl⟩:=d;simp only[if_true] at D;obtain⟨b,f,u⟩:=a;have n:((o.take c).map (·.data.toList)).length=c:=by simp;omega
  refine⟨(o.take c).map (·.data.toList),⟨some ⟨b,f,u⟩,k,by rw[n],by rw[n];exact y,?_⟩,fun l h=> ?_⟩
  ·rcases Nat.eq_zero_or_pos c with q|q
   ·left;rw[q];rfl
   ·right;have A:u=none:=by simpa [Addr.add] using World.cell?_spot (m 0 (by omega))
    subst A;refine⟨b,f,rfl,?_,fun i l j=> ?_⟩
    ·have g:=m 0 (by omega);exact block_lt_of_cell (a:=⟨b,f,none⟩) (by simpa [Addr.add] using g)
    ·have r:=(List.getElem?_eq_some_iff.1 j).1;rw[n] at r;have g:=m i (by omega);have v:(⟨b,f,none⟩:Addr).add i=⟨b,f+i,none⟩:=by unfold Addr.add;split<;>simp_all
     rw[v] at g;rw[g];rw[List.getElem?_map,List.getElem?_take_of_lt r,List.getElem?_eq_getElem (by omega)] at j;simp only[Option.map_some,Option.some.injEq] at j;subst j;simp[List.getD,List.getElem?_eq_getElem (show i<o.length by omega)]
  ·obtain⟨s,z,rfl⟩:=List.mem_map.1 h;have:=B s (List.mem_of_mem_take z);unfold maxLen at this;have e:s.data.toList.length=s.size:=Array.length_toList;rw[e];exact this
def az2{H:Type}{enc:TypeId×Value->H}{P:Program}{f:Func}{s:ChangeSpec}{args:Array Value}{y:TypeId}{d:List (DataW H)}{a:List MemPlace}
  (g:DataW.Whole enc P f.params.toList s.vars false W args.toList d [] a)(hv:s.vars=[])(q:f.resultTypes= #[y])(v:P.underlying y=some .bool)
  (i:s.fn H d={ results:=[.lit (.bool true)],args:=d })
  (A:∀sp:Nat->Bool,(∀p∈a,sp p.block=true)->DataW.TrodAll enc P e 0 sp true f.params.toList args.toList d a)(l:Below W.1.size W e):
  s.post enc P f false true false false W args (.bool true) e:=by
 have o:∀p∈a,p.block<W.1.size:=fun p c=>g.lt p c;have C:∀p∈a,(fun b=>decide (b<W.1.size)) p.block=true:=fun p c=>by simpa using o p c
 have u:∀(b:Nat) (sp:Nat->Bool) (m:Bool),DataW.TrodAll enc P e b sp m f.resultTypes.toList ((Value.bool true).resultList f.resultTypes.size) (s.fn H (d++[])).results []:=fun b sp m=>by
  rw[List.append_nil,i,q];exact trodAll_mk1 (shut_bool v _)
 have k:∀sp:Nat->Bool,(∀p∈a,sp p.block=true)->DataW.TrodAll enc P e 0 sp true f.params.toList args.toList (s.fn H (d++[])).args a:=fun sp h=>by
  rw[List.append_nil,i];exact A sp h
 have w:∀sp:Nat->Bool,DataW.TrodVars enc P e sp s.vars (s.fn H (d++[])).vars []:=fun sp=>by
  rw[List.append_nil,i,hv];exact rfl
 refine⟨d,[],a,[],a,[],g,u _ _ _,k _ C,w _,World.keptBut_mono (fun p c=>⟨c,.inr (.inl c)⟩) (l.frame (·∈a)),fun _=> ?_⟩;obtain⟨_,_,_,_,_,E,hn⟩:=g;refine⟨fun j t r B D=> ?_,_,_,([]++a)++[],⟨[]++a,[],trodAll_append (k _ (fun _ _=>rfl)) (u _ _ _),w _,rfl,fun b x c=> ?_,fun z=>by cases z⟩,fun p c _=>by simpa using c⟩
 ·exact ok_one (by rw[q]) rfl (okWide_bool_mk v true) j t r B D
 ·have n:MemPlace.cell b x∈a:=by simpa using c
  rw[l.frozen (o _ n)];exact E b x n
