/- Laws. -/
import Derived.Test.YtpjpfjephpgcbaaGreatDoorRows
import Derived.Test.YtpjpfjephpgcbaaGreatDoorR28
import Derived.Test.YtpjpfjephpgcbaaGreatDoorR29
import Derived.ProofKit
import Derived.LaidMore
import Derived.OpenShut
import Derived.Stop.Joined
import Derived.SliceStrings
import Derived.Lib.LaidTab
import Derived.Carry
set_option linter.all false
set_option maxHeartbeats 8000000
set_option maxRecDepth 99999
namespace Go.Proofs.YtpjpfjephpgcbaaGreatDoor
open Go.RowKit Sos Go.Proofs.Tryz
variable{f m n:Int}{a bs t:List UInt8}{b:Nat}{g i j v:Value}{W c q w:World}{x y:Rat}
def StrsAt.built(w:World)(a:List (List UInt8))(t:TypeId):StrsAt (w.alloc (.cells (a.map (fun l=>Value.string ⟨l.toArray⟩)).toArray t)) (.slice (some ⟨w.1.size,0,none⟩) a.length a.length) a:=by
 refine⟨_,_,rfl,aE,.inr ⟨w.1.size,0,rfl,by simp,fun i l b=> ?_⟩⟩;have B:=Bx.new w (a.map (fun l=>Value.string ⟨l.toArray⟩)) t;rw[bA];exact B.cell i (by rw[iK,b];rfl)
def ayE(a:List (List UInt8))(v:Value)(w:World)(hv:StrsAt w v a)(h:∀l∈a,l.length<=9223372036854775807):
  Calls prog 5 #[v] w fun e w'=>e= .returned (.bool (decide (a.length<=7)&&jH 6 a))∧w=w':=by
 obtain⟨A,c,rfl,k⟩:=hv.form;by_cases g:a.length<=7
 ·have i:(a.length:Int)<=7:=by omega
  have f:Calls prog 6 #[.int .i64 6,.slice A a.length c] w fun e w'=>e= .returned (.bool (jH 6 a))∧w=w':=LX 6 a (.slice A a.length c) w hv (by decide) (by omega) h;obtain⟨S,d⟩:∃S,jH 6 a=S:=⟨_,rfl⟩;have b:Hid ((decide (a.length<=7)&&jH 6 a)=S):=by unfold Hid;rw[d];simp[g]
  rw[d] at f;clear d;go_enter func5,ntmps5;go_wp2_with fail;refine f.mono ?_;rintro j m ⟨rfl,rfl⟩;go_wp2;go_ret;rw[b.out];exact⟨rfl,rfl⟩
 ·have i:¬(a.length:Int)<=7:=by omega
  have b:Hid ((decide (a.length<=7)&&jH 6 a)=false):=by unfold Hid;simp[g]
  go_enter func5,ntmps5;go_wp2;go_ret
  first
   |exact⟨rfl,rfl⟩
   |(rw[b.out];exact⟨rfl,rfl⟩)
def yO:aU [[45,50],[48],[49]]=[-2,0,1]:=by
 show[(bD [45,50]).getD 0,(bD [48]).getD 0,(bD [49]).getD 0]=_
 rw[ayN,LY,ayM];rfl
def ayF:bD [45,52]=some (-4):=by decide
def ayG:bD [52]=some 4:=by decide
def ayH:([(-4,0),(0,4)]:List (Rat×Rat)).map kQ=[([45,52],[48]),([48],[52])]:=by
 show[(cW (-4),cW 0),(cW 0,cW 4)]=_
 rw[tL ayF,tL LY,tL ayG]
def LW:vl [[45,50],[48],[49]]=true:=by
 unfold vl;rw[iQ,yO];exact⟨by decide,by decide,by decide⟩
def ayI:dM [[45,50],[48],[49]]=0:=by unfold dM;rw[if_pos LW,if_neg (by simp)]
def ayJ:oS [[45,50],[48],[49]] [] []=0:=by
 have h:dM [[45,50],[48],[49]]=0:=by unfold dM;rw[if_pos LW,if_neg (by simp)]
 unfold oS;rw[h];rfl
def ayK(h:KU (aU [[45,50],[48],[49]]) (lC [] (-1)) (m5 []) (lC [] 1) (m5 []) 0 n):n=2:=by
 have a:=h.2 rfl;rw[yO] at a;rw[a.get (by decide) D6 KQ (by decide)];exact Z5
def ayL:∀p∈([(-4,0),(0,4)]:List (Rat×Rat)),RL 110079 p.1∧RL 110079 p.2:=fun p b=>by
 have c:RL 110079 ((4:Int):Rat):=uW (aH (cJ (m:=1) (by unfold BN;decide)) (by decide)) (by decide);have d:RL 110079 ((-4:Int):Rat):=uW (aH (cJ (m:=1) (by unfold BN;decide)) (by decide)) (by decide);have a:RL 110079 (0:Rat):=iG (by decide);simp only[List.mem_cons,List.not_mem_nil,or_false] at b;rcases b with rfl|rfl
 ·exact⟨d,a⟩
 ·exact⟨a,c⟩
def DV(w:World)(g:Glob w):Calls prog 7 #[] w fun e w'=>e= .returned (.bool true)∧Below w.1.size w w':=by
 have m:=fun W v g h=>LT [[45,50],[48],[49]] 2 110079 (fun l=>l=[(-4,0),(0,4)]) v W g h (by decide) (by decide) (fun _ _=>by rw[yO,ZF];exact ZG) (by decide) (by decide) (by decide) y7 (ZV (by unfold aJ;decide)) (fun l h=>by rw[h];exact⟨by decide,ayL⟩) (fun w s c p z=>by rw[yO] at p;exact⟨_,ZH p z.1,rfl⟩);have i:=fun W v g h=>KV [[45,50],[48],[49]] v W g h (by decide) (by decide);unfold uM at i;rw[ayJ] at i;rw[ayI] at m;go_enter func7,ntmps7;go_wp2_with fail;have a:Below w.1.size w (w.alloc (.cells #[.string ⟨#[45,50]⟩,.string ⟨#[48]⟩,.string ⟨#[49]⟩] 9)):=(aG _ _).alloc aE _;have q:StrsAt (w.alloc (.cells #[.string ⟨#[45,50]⟩,.string ⟨#[48]⟩,.string ⟨#[49]⟩] 9)) (.slice (some ⟨w.1.size,0,none⟩) 3 3) [[45,50],[48],[49]]:=StrsAt.built w [[45,50],[48],[49]] 9;generalize w.alloc (.cells #[.string ⟨#[45,50]⟩,.string ⟨#[48]⟩,.string ⟨#[49]⟩] 9)=W at *;refine(m _ _ (g.be a) q).mono ?_;rintro E d ⟨I,l,rfl,A, -,b,x⟩;obtain rfl:=A trivial;rw[ayH] at b;replace a:=aC a x;obtain⟨t,u,rfl,H⟩:=b.form;replace b:IvsAt d (.slice t 2 u) [([45,52],[48]),([48],[52])]:=b;clear q m;go_wp2_with fail;have j:Below d.1.size d (d.alloc (.cells #[.string ⟨#[45,50]⟩,.string ⟨#[48]⟩,.string ⟨#[49]⟩] 9)):=(aG _ _).alloc aE _;have r:StrsAt (d.alloc (.cells #[.string ⟨#[45,50]⟩,.string ⟨#[48]⟩,.string ⟨#[49]⟩] 9)) (.slice (some ⟨d.1.size,0,none⟩) 3 3) [[45,50],[48],[49]]:=StrsAt.built d [[45,50],[48],[49]] 9;replace b:=b.be j;replace a:=aC a j;clear j;generalize d.alloc (.cells #[.string ⟨#[45,50]⟩,.string ⟨#[48]⟩,.string ⟨#[49]⟩] 9)=C at *;refine(i _ _ (g.be a) r).mono ?_;rintro F f ⟨n,rfl, -, -,hn,o⟩;obtain rfl:=ayK hn;replace b:=b.be o;replace a:=aC a o;clear r i hn;go_wp2_with fail;have k:Below f.1.size f (f.alloc (.cells #[.string ⟨#[45,52]⟩,.string ⟨#[48]⟩,.string ⟨#[48]⟩,.string ⟨#[52]⟩] 24)):=(aG _ _).alloc aE _;have B:IvsAt (f.alloc (.cells #[.string ⟨#[45,52]⟩,.string ⟨#[48]⟩,.string ⟨#[48]⟩,.string ⟨#[52]⟩] 24)) (.slice (some ⟨f.1.size,0,none⟩) 2 2) [([45,52],[48]),([48],[52])]:=IvsAt.built f [([45,52],[48]),([48],[52])] 24;replace b:=b.be k;replace a:=aC a k;clear k;generalize f.alloc (.cells #[.string ⟨#[45,52]⟩,.string ⟨#[48]⟩,.string ⟨#[48]⟩,.string ⟨#[52]⟩] 24)=D at *;refine(LP _ _ _ _ b B (by decide)).mono ?_;rintro G J ⟨rfl,y⟩;go_wp2;go_ret;exact⟨rfl,aC a y⟩
def IvsAt.up{a b:World}[u:Up a b]{l:List (List UInt8×List UInt8)}(h:IvsAt a v l):IvsAt b v l:=h.be u.out
def cxG(n:Int)(m:Nat)(w:World)(a: -9223372036854775808<=n)(b:n<=9223372036854775807)(c:0<m)(d:m<=1073741824):
  Calls prog 9 #[.int .i64 n,.int .i64 m] w fun e w'=>∃j:Nat,j<m∧e= .returned (.int .i64 j)∧w=w':=by
 have f:=Int.tmod_lt_of_pos n (show(0:Int)<m by omega);have g: -(m:Int)<n.tmod m:=by
  have:=Int.tmod_lt_of_pos (-n) (show(0:Int)<m by omega);rw[Int.neg_tmod] at this;omega
 have h:((m:Int)==0)=false:=by rw[beq_eq_false_iff_ne];omega
 go_enter func9,ntmps9;go_wp2
 ·have e:n.tmod m+m=(((n.tmod m+m).toNat:Nat):Int):=by omega
  rw[e];go_ret;exact⟨_,by omega,rfl,rfl⟩
 ·have e:n.tmod m=(((n.tmod m).toNat:Nat):Int):=by omega
  rw[e];go_ret;exact⟨_,by omega,rfl,rfl⟩
def cy6(f:Value)(i:Int)(w:World)(b:Value->World->Prop)(G: -9223372036854775808<i)(H:i<=9223372036854775807)(k:Glob w)(a:0<=i->Apps w f (Lib.decDigits i.natAbs) b)
  (hn:i<0->Apps w f [45] (fun g w1=>Glob w1∧Apps w1 g (Lib.decDigits i.natAbs) b)):
  Calls prog 111 #[f,.int .i64 i,.int .i64 10] w fun e w'=>∃c,e= .returned c∧b c w':=by
 have B:i.natAbs<BN:=by unfold BN;omega
 have d:∀W v,Glob W->Apps W v (Lib.decDigits i.natAbs) b->Calls prog 195 #[v,.int .u64 i.natAbs,.int .i64 10] W fun e w'=>∃c,e= .returned c∧b c w':=fun W v k h=>by
  by_cases D:i.natAbs<100
  ·exact TU v i.natAbs W b D h
  ·exact TV v i.natAbs W b (by omega) B k h
 have y:Calls prog 161 #[f,.int .i64 i,.int .i64 10] w fun e w'=>∃c,e= .returned c∧b c w':=by
  by_cases z:i<0
  ·have o:IntKind.u64.wrap i=i+18446744073709551616:=by rw[IntKind.wrap_u64];omega
   have F:IntKind.u64.wrap (-(i+18446744073709551616))=(i.natAbs:Int):=by rw[IntKind.wrap_u64];omega
   have p:Below w.1.size w (w.alloc (.cells #[.int .u8 45] 5)):=(aG _ _).alloc aE _
   obtain⟨g,w1,r,C⟩:=(hn z).2 (w.alloc (.cells #[.int .u8 45] 5)) ⟨w.1.size,0,none⟩ 1 p (fun j u m=>by
    have A:j=0:=by
     have:=(List.getElem?_eq_some_iff.1 m).1;simp[Lib.byteCells] at this;omega
    subst A;simp[Lib.byteCells] at m;subst m;exact(Bx.new w [.int .u8 45] 5).cell 0 rfl)
   obtain⟨x,q⟩:=C;have s:=aB r;have l:=d _ _ x q;clear r hn a p d q;generalize (i.natAbs:Int)=u at *;go_enter func161,ntmps161;go_wp2_with (at_builtin;refine IL rfl rfl rfl rfl rfl s.out ?_);refine l.mono ?_;rintro t E ⟨n,rfl,a⟩;go_wp2;go_ret;exact⟨n,rfl,a⟩
  ·have o:IntKind.u64.wrap i=(i.natAbs:Int):=by rw[IntKind.wrap_u64];omega
   have l:=d _ _ k (a (by omega));clear hn a d;generalize (i.natAbs:Int)=u at *;go_enter func161,ntmps161;go_wp2_with fail;refine l.mono ?_;rintro t E ⟨n,rfl,a⟩;go_wp2;go_ret;exact⟨n,rfl,a⟩
 clear hn a d;go_enter func111,ntmps111;go_wp2_with fail;refine y.mono ?_;rintro o w1 ⟨g,rfl,a⟩;go_wp2;go_ret;exact⟨g,rfl,a⟩
def BufAt(a w:World)(b:Nat)(bs:List UInt8):Prop:=Shape w b 164 48∧VC w b 0 (Lib.byteCells bs)∧Below a.1.size a w∧a.1.size<=b
def BufAt.be{w':World}(h:BufAt c w b bs)(a:Below w.1.size w w'):BufAt c w' b bs:=⟨h.1.be a h.1.lt,h.2.1.be a h.1.lt,h.2.2.1.trans (a.mono h.2.2.1.size),h.2.2.2⟩
def BufAt.apps{l:List UInt8}(h:BufAt q w b bs)(C:bs.length+l.length<=48):
  Apps w (.slice (some ⟨b,0,none⟩) bs.length 48) l (fun A w'=>A= .slice (some ⟨b,0,none⟩) (bs++l).length 48∧BufAt q w' b (bs++l)):=by
 refine TS _ _ _ _ ?_;intro f z x r t;obtain⟨i,s,D,m,B⟩:=info_parts nF;obtain⟨d,u,a,y⟩:=h.be r
 have p:=run_append_room_src (P:=prog) f 165 z 165 5 i underlying165 s b 0 bs.length 48 x l.length (Lib.byteCells l) (by rw[m];exact t) (by omega)
  (fun j g=>by rw[Lib.byteCells_length] at g;rw[m,az9,bA];exact d.isSome (by omega)) (fun j _=>d.soft.free _)
 rw[m,az9,bA] at p;refine⟨_,_,p,by rw[bE],Shape.setCells b _ _ f d,?_,?_,y⟩
 ·intro j v hv;rw[IF] at hv;rcases dE j (Lib.byteCells bs).length with k|k
  ·rw[gA k] at hv;rw[bA,World.cell?_setCells_out b _ _ _ _ (fun _ _=> .inl (by rw[Lib.byteCells_length] at k;exact k))];have:=u j v hv;rwa [bA] at this
  ·rw[fK k] at hv;have n:=(List.getElem?_eq_some_iff.1 hv).1;rw[Lib.byteCells_length] at k hv n;have:=World.cell?_setCells_in b (Lib.byteCells l) bs.length f (fun j g=>by rw[Lib.byteCells_length] at g;exact d.isSome (by omega)) (j-bs.length) n;rw[show bs.length+(j-bs.length)=0+j by omega] at this;rw[this,<-hv,aR n]
 ·have c:=II b (Lib.byteCells l) bs.length f;exact⟨c.os.trans a.os,c.tape.trans a.tape,c.output.trans a.output,aH a.size c.size,fun k o=>(c.block k (aZ o a.size) (fun e=>by injection e with e;omega)).trans (a.block k o)⟩
def cy7(x y:Int)(w:World):Calls prog 105 #[.int .i64 x,.int .i64 y] w fun e w'=>e= .returned (.int .i64 (bZ x y))∧w=w':=by
 rcases kJ x y with ⟨a,e⟩|⟨a,e⟩|⟨a,e⟩
 ·rw[e];clear e;go_enter func105,ntmps105;go_wp2;go_ret;exact⟨rfl,rfl⟩
 ·rw[e];clear e;subst a;go_enter func105,ntmps105;go_wp2;go_ret;exact⟨rfl,rfl⟩
 ·rw[e];clear e;have b:¬x<y:=by omega
  go_enter func105,ntmps105;go_wp2;go_ret;exact⟨rfl,rfl⟩
def cy8(x y:Int)(w:World):Calls prog 51 #[.int .i64 x,.int .i64 y] w fun e w'=>e= .returned (.int .i64 (bZ x y))∧w=w':=by
 have a:=cy7 x y w;generalize bZ x y=R at *;go_enter func51,ntmps51;go_wp2_with fail;refine a.mono ?_;rintro b c ⟨rfl,rfl⟩;go_wp2;go_ret;exact⟨rfl,rfl⟩
def cyK(l:List UInt8)(w:World)(g:Glob w)(u:l.length<=1073741824):Calls prog 52 #[.string ⟨l.toArray⟩] w (iF w ((bD l).getD 0)):=by
 have q:=fun W g=>wU l W g u;unfold IP at q;generalize (bD l).getD 0=x at *;generalize (bD l).isSome=D at *;obtain⟨W,o,a,R⟩:=bI w [.bool false,.slice none 0 0,.bool false,.slice none 0 0] 71;have r:=R.g4;go_enter func52,ntmps52;go_wp2_with fail;(try rw[o]);clear o;refine(q _ (g.be a)).mono ?_;rintro A y ⟨E,rfl,b,p⟩;obtain⟨k,c,i,e,m,d,j,f,rfl⟩:=b.form;replace R:=R.be p;replace a:=aC a p;have C:=R.lt;obtain⟨F,n,h,P⟩:=bI y [.bool k,.slice c i e,.bool m,.slice d j f] 71;replace b:=b.be h;replace R:=R.be h;replace a:=aC a h;have r:=aa R.g4 P.k4;go_wp2_with fail;(try rw[n]);(try clear n);obtain⟨z,s,R,a,t,B⟩:=R.put4 a (by omega) (.bool k) (.slice c i e) (.bool m) (.slice d j f) rfl rfl;rw[s];exact aM (v:= .agg #[.bool k,.slice c i e,.bool m,.slice d j f]) (by simp[results,results52,go_sem,R.k4]) rfl ⟨_,rfl,b.ke t,a⟩
def Bx.putB2{B:Nat}{cs:List Value}{t:TypeId}(h:Bx W b cs t)(l:Below B w W)(e:B<=b)(a c:Value)(m:cs=[i,j]):
  ∃d,(W.setCell ⟨b,0,none⟩ a).setCell ⟨b,1,none⟩ c=d∧Bx d b [a,c] t∧Below B w d∧∀{g:Nat} {cs:List Value} {t:TypeId},Bx W g cs t->b≠g->Bx d g cs t:=by
 subst m;exact⟨_,rfl,(h.set 0 a).set 1 c,(l.setCell (p:=⟨b,0,none⟩) e a).setCell (p:=⟨b,1,none⟩) e c,fun k f=>(k.far 0 a f).far 1 c f⟩
def cxN(a b:List UInt8)(w:World)(M:a.length<=1099511627776)(N:b.length<=1099511627776):
  Calls prog 50 #[.string ⟨a.toArray⟩,.string ⟨b.toArray⟩] w fun e w'=>∃n d m f J,e= .returned (.tuple #[.agg #[.int .i64 n,.int .i64 d],.agg #[.int .i64 m,.int .i64 f],.bool J])∧(J=true->cyG a n d∧cyG b m f)∧Below w.1.size w w':=by
 have I:=fun W=>cyM a W M;have z:=fun W=>cyM b W N;obtain⟨W,H,c,R,S⟩:=eL w [.int .i64 0,.int .i64 0] 103 [.int .i64 0,.int .i64 0] 103;have G:=aa R.g2 S.g2;go_enter func50,ntmps50;go_wp2_with fail;(try rw[H]);clear H;refine(I _).mono ?_;rintro Q s ⟨n,d,O,rfl,C,A⟩;have V:=S.lt;have ac:=A.size;obtain⟨w2,i,K,X⟩:=bI s [.int .i64 n,.int .i64 d] 103;have y:=aC A K;replace R:=R.be y;replace S:=S.be y;replace c:=aC c y;have U:=R.lt;have Z:=S.lt;have G:=aa R.g2 (aa S.g2 X.k2);clear I;cases O with
 |false=>
  clear C z;go_wp2_with fail;all_goals (try rw[i])
  obtain⟨u,j,R,c,g⟩:=R.putB2 c (by omega) (.int .i64 0) (.int .i64 0) rfl;replace S:=g S (by omega);rw[j];obtain⟨x,k,S,c,g⟩:=S.putB2 c (by omega) (.int .i64 0) (.int .i64 0) rfl;replace R:=g R (by omega);rw[k];exact aM (v:= .tuple #[.agg #[.int .i64 0,.int .i64 0],.agg #[.int .i64 0,.int .i64 0],.bool false]) (by simp[results,results50,go_sem,R.k2,S.k2]) rfl ⟨_,_,_,_,false,rfl,(fun h=>by cases h),c⟩
 |true=>
  have E:Hid (cyG a n d):=C rfl;clear C;go_wp2_with fail;(try rw[i]);(try clear i);refine(z _).mono ?_;rintro T t ⟨m,f,P,rfl,D,B⟩;have ae:=X.lt;have ad:=B.size;obtain⟨w4,i,L,Y⟩:=bI t [.int .i64 m,.int .i64 f] 103;have r:=aC B L;replace R:=R.be r;replace S:=S.be r;replace X:=X.be r;replace c:=aC c r;have G:=aa R.g2 (aa S.g2 (aa X.k2 Y.k2));clear z;cases P with
  |false=>
   clear D;go_wp2_with fail;all_goals (try rw[i])
   obtain⟨u,j,R,c,g⟩:=R.putB2 c (by omega) (.int .i64 0) (.int .i64 0) rfl;replace S:=g S (by omega);rw[j];obtain⟨x,k,S,c,g⟩:=S.putB2 c (by omega) (.int .i64 0) (.int .i64 0) rfl;replace R:=g R (by omega);rw[k];exact aM (v:= .tuple #[.agg #[.int .i64 0,.int .i64 0],.agg #[.int .i64 0,.int .i64 0],.bool false]) (by simp[results,results50,go_sem,R.k2,S.k2]) rfl ⟨_,_,_,_,false,rfl,(fun h=>by cases h),c⟩
  |true=>
   have F:Hid (cyG b m f):=D rfl;clear D;go_wp2_with fail;(try rw[i]);(try clear i);have l:w.1.size≠s.1.size:=by omega
   have o:w.1.size≠t.1.size:=by omega
   have p:w.1.size+1≠s.1.size:=by omega
   have q:w.1.size+1≠t.1.size:=by omega
   go_region_held3 (fun w'=>C2 w' s.1.size (.int .i64 n) (.int .i64 d)∧C2 w' t.1.size (.int .i64 m) (.int .i64 f))
    (first
     |(with_reducible exact⟨X.up.k2,Y.up.k2⟩)
     |(with_reducible exact⟨((X.far 0 _ l).far 1 _ l).drew.k2,((Y.far 0 _ o).far 1 _ o).drew.k2⟩)
     |(with_reducible exact⟨((X.far 0 _ p).far 1 _ p).drew.k2,((Y.far 0 _ q).far 1 _ q).drew.k2⟩)
     |(with_reducible exact⟨((((X.far 0 _ l).far 1 _ l).far 0 _ p).far 1 _ p).drew.k2,((((Y.far 0 _ o).far 1 _ o).far 0 _ q).far 1 _ q).drew.k2⟩)
     |(with_reducible exact⟨((((X.far 0 _ p).far 1 _ p).far 0 _ l).far 1 _ l).drew.k2,((((Y.far 0 _ q).far 1 _ q).far 0 _ o).far 1 _ o).drew.k2⟩))
    (fail)
   all_goals (
    go_wp2_with fail
    first
     |(obtain⟨u,j,R,c,g⟩:=R.putB2 c (by omega) (.int .i64 n) (.int .i64 d) rfl
       replace S:=g S (by omega)
       rw[j]
       obtain⟨x,k,S,c,g⟩:=S.putB2 c (by omega) (.int .i64 m) (.int .i64 f) rfl
       replace R:=g R (by omega)
       rw[k]
       exact aM (v:= .tuple #[.agg #[.int .i64 n,.int .i64 d],.agg #[.int .i64 m,.int .i64 f],.bool true]) (by simp[results,results50,go_sem,R.k2,S.k2]) rfl ⟨_,_,_,_,true,rfl,(fun _=>⟨E.out,F.out⟩),c.drew⟩)
     |(obtain⟨u,j,S,c,g⟩:=S.putB2 c (by omega) (.int .i64 m) (.int .i64 f) rfl
       replace R:=g R (by omega)
       rw[j]
       obtain⟨x,k,R,c,g⟩:=R.putB2 c (by omega) (.int .i64 n) (.int .i64 d) rfl
       replace S:=g S (by omega)
       rw[k]
       exact aM (v:= .tuple #[.agg #[.int .i64 n,.int .i64 d],.agg #[.int .i64 m,.int .i64 f],.bool true]) (by simp[results,results50,go_sem,R.k2,S.k2]) rfl ⟨_,_,_,_,true,rfl,(fun _=>⟨E.out,F.out⟩),c.drew⟩))
def cy9{b:List UInt8}{d:Int}(r:cyG a n d)(s:cyG b m f)(t:bD a=some x)(v:bD b=some y):bZ (n*f) (m*d)=(x-y).num.sign∧ -1000000000000000000<n*f∧n*f<1000000000000000000∧ -1000000000000000000<m*d∧m*d<1000000000000000000:=by
 obtain⟨-,D,rfl,z,i,o,c⟩:=r;obtain⟨-,F,rfl,A,j,l,g⟩:=s;rw[t] at c;rw[v] at g;injection c with c;injection g with g;have bd:∀(n:Int) (F:Nat),n.natAbs<1000000000->F<1000000000-> -1000000000000000000<n*(F:Int)∧n*(F:Int)<1000000000000000000:=fun n F B C=>by
  have E:(n*(F:Int)).natAbs<=999999999*999999999:=by
   rw[fL,dD];exact aqK (by omega) (by omega)
  omega
 refine⟨?_,(bd n F o j).1,(bd n F o j).2,(bd m D l i).1,(bd m D l i).2⟩;have p:0<((D:Int):Rat):=by
  have:(0:Int)<(D:Int):=by omega
  exact_mod_cast this
 have q:0<((F:Int):Rat):=by
  have:(0:Int)<(F:Int):=by omega
  exact_mod_cast this
 have u:x*((D:Int):Rat)=(n:Rat):=by rw[c,Rat.mkRat_eq_div,<-aq3,gW (by grind)]
 have w:y*((F:Int):Rat)=(m:Rat):=by rw[g,Rat.mkRat_eq_div,<-aq3,gW (by grind)]
 have e:((n*(F:Int)-m*(D:Int):Int):Rat)=((D:Int):Rat)*((F:Int):Rat)*(x-y):=by
  rw[Rat.intCast_sub,eJ,eJ,<-u,<-w];grind
 have k:=tU (azA p q) (x-y);rw[<-e,xJ] at k;rw[<-k];rcases kJ (n*(F:Int)) (m*(D:Int)) with ⟨h,e⟩|⟨h,e⟩|⟨h,e⟩
 ·rw[e,aqT (by omega)]
 ·rw[e,h,Int.sub_self];rfl
 ·rw[e,aqI (by omega)]
def cyO(a b:List UInt8)(x y:Rat)(K:Nat)(w:World)(e:Glob w)(r:bD a=some x)(s:bD b=some y)(A:RL K x)(B:RL K y)(I:K<=1073741824)(N:a.length<=1073741824)(O:b.length<=1073741824):
  Calls prog 19 #[.string ⟨a.toArray⟩,.string ⟨b.toArray⟩] w (eO w (x-y).num.sign):=by
 have G:=fun W=>cxN a b W (by omega) (by omega);have g:=fun W e=>cyK a W e (by omega);have i:=fun W e=>cyK b W e (by omega);rw[r] at g;rw[s] at i;have p:=fun W u v h l=>BY x y u v W h l K A B (by omega);have k:Hid (∀n d m f,cyG a n d->cyG b m f->bZ (n*f) (m*d)=(x-y).num.sign∧ -1000000000000000000<n*f∧n*f<1000000000000000000∧ -1000000000000000000<m*d∧m*d<1000000000000000000):=fun n d m f h l=>cy9 h l r s;unfold eO at p;unfold iF at g i;unfold eO;simp only[Option.getD_some] at g i;clear r s N O A B I;generalize (x-y).num.sign=R at *;go_enter func19,ntmps19;go_wp2_with fail;refine(G _).mono ?_;rintro U Q ⟨n,d,m,f,P,rfl,q,c⟩;obtain⟨w2,j,J,X,Y⟩:=eL Q [.int .i64 n,.int .i64 d] 103 [.int .i64 m,.int .i64 f] 103;replace c:=aC c J;have T:=aa X.k2 Y.k2;cases P with
 |true=>
  obtain⟨C,D⟩:=q rfl;obtain⟨E,z4,z5,z6,z7⟩:=k.out n d m f C D;have z:=fun W=>cy8 (n*f) (m*d) W;rw[E] at z;have ac:IntKind.i64.wrap (n*f)=n*f:=IntWalk.i64_in _ ⟨by omega,by omega⟩;have ad:IntKind.i64.wrap (m*d)=m*d:=IntWalk.i64_in _ ⟨by omega,by omega⟩;clear q g i p k C D E;go_wp2_with fail;(try rw[j]);(try clear j);refine(z _).mono ?_;rintro F S ⟨rfl,rfl⟩;go_wp2;go_ret;exact⟨rfl,c⟩
 |false=>
  clear q k;go_wp2_with fail;(try rw[j]);(try clear j);refine(g _ (e.be c)).mono ?_;rintro F S ⟨v3,rfl,o,L⟩;replace c:=aC c L;go_wp2_with fail;refine(i _ (e.be c)).mono ?_;rintro V w4 ⟨v4,rfl,H,t⟩;replace o:=o.be t;replace c:=aC c t;go_wp2_with fail;refine(p _ _ _ o H).mono ?_;rintro Z w5 ⟨rfl,M⟩;go_wp2;go_ret;exact⟨rfl,aC c M⟩
def cy2(a b:Nat)(w:World)(l:a<4611686018427387904)(m:b<4611686018427387904):
  Calls prog 109 #[.int .i64 a,.int .i64 b] w fun e w'=>e= .returned (.int .i64 (Nat.gcd a b:Nat))∧Below w.1.size w w':=by
 go_enter func109,ntmps109;go_wp2_with fail;go_loopw [0,1] (fun u v wr=>∃x y:Nat,u= .int .i64 x∧v= .int .i64 y∧x<4611686018427387904∧y<4611686018427387904∧Hid (Nat.gcd x y=Nat.gcd a b)∧Below w.1.size w wr) (fun _ v _=>(intOf v).toNat)
 case atStart=>exact⟨a,b,rfl,rfl,l,m,rfl,aG _ _⟩
 case round=>
  obtain⟨x,y,rfl,rfl,q,s,d,f⟩:=hrel;by_cases c:y=0
  ·have k:((y:Int)==0)=true:=by rw[c];rfl
   have j:Hid (x=Nat.gcd a b):=by have:=d.out;rw[c,bxN] at this;exact this
   clear k;obtain rfl:y=0:=c;go_wp2;go_ret;rw[<-j.out];exact⟨rfl,f⟩
  ·have t:(0:Int)<(y:Int):=by omega
   have r:(0:Int)<=(x:Int):=by omega
   have p:((y:Int)==0)=false:=by simp;exact c
   have g:(x:Int)%(y:Int)=((x%y:Nat):Int):=by omega
   have i:=aB g;have o:x%y<y:=dI _ (by omega);have h:Hid (Nat.gcd y (x%y)=Nat.gcd a b):=by unfold Hid;rw[<-d.out,azD x y,Nat.gcd_rec y x,azD]
   have n:=f.drew;clear g;go_wp2_with fail;go_region
   all_goals (
    go_wp2_with fail;go_roundw
    case rel=>exact⟨y,x%y,rfl,by rw[<-i.out],by omega,by omega,h,n⟩
    case measure=>simp[intOf];omega)
def cxL(m:Int)(w:World)(d:Glob w)(b: -9223372036854775808<=m)(c:m<=9223372036854775807):Calls prog 110 #[.int .i64 m,.int .i64 10] w fun e w'=>e= .returned (.string ⟨(iP m).toArray⟩)∧Below w.1.size w w':=by
 have a:=Tryz.strconv_FormatInt_10 m b c w d.pow;rw[SW] at a;refine a.mono ?_;rintro e h ⟨rfl,k,g,f⟩;exact⟨rfl,by rw[f];exact Lib.below_grow w.1.size w aE k g⟩
def cy3(q:Rat):(q.den=1->cW q=iP q.num)∧(q.den≠1->cW q=iP q.num++47 :: Lib.decDigits q.den):=by
 constructor
 ·intro h;unfold cW iP;rw[if_pos h,fH]
 ·intro h;unfold cW iP;rw[if_neg h]
def Apps.mono{l:List UInt8}{P Q:Value->World->Prop}(h:Apps w g l P)(k:∀v w',P v w'->Q v w'):Apps w g l Q:=
 ⟨fun f e=>let ⟨v,w',b,d⟩:=h.1 f e;⟨v,w',b,k v w' d⟩,fun f a c e i=>let ⟨v,w',b,d⟩:=h.2 f a c e i;⟨v,w',b,k v w' d⟩⟩
def cxM{d:World}(h:BufAt d w b bs)(g:Glob d)(m:Int)(k: -9223372036854775808<m)(a:m<=9223372036854775807)(f:bs.length+(iP m).length<=48):
  Calls prog 111 #[.slice (some ⟨b,0,none⟩) bs.length 48,.int .i64 m,.int .i64 10] w fun e w'=>e= .returned (.slice (some ⟨b,0,none⟩) (bs++iP m).length 48)∧BufAt d w' b (bs++iP m):=by
 refine(cy6 _ m w (fun j w'=>j= .slice (some ⟨b,0,none⟩) (bs++iP m).length 48∧BufAt d w' b (bs++iP m)) k a (g.be h.2.2.1) (fun i=> ?_) (fun i=> ?_)).mono (fun e w' ⟨j,a,c,n⟩=>⟨by rw[a,c],n⟩)
 ·have e:iP m=Lib.decDigits m.natAbs:=by unfold iP;rw[if_neg (by omega)];rfl
  rw[e] at f⊢;exact h.apps f
 ·have e:iP m=[45]++Lib.decDigits m.natAbs:=by unfold iP;rw[if_pos i]
  rw[e,bE] at f;rw[e,<-eK];refine(h.apps (l:=[45]) (by omega)).mono (fun o p a=> ?_);obtain⟨rfl,c⟩:=a;exact⟨g.be c.2.2.1,c.apps (by rw[bE];omega)⟩
def cy4(h:BufAt c w b bs):(convert 165 9 (.slice (some ⟨b,0,none⟩) bs.length 48)).run prog w= .ok (.string ⟨bs.toArray⟩) w:=
 run_convert_bytes_back (P:=prog) w 165 9 5 ⟨b,0,none⟩ 48 bs underlying165 underlying5 underlying9 (fun j a=>by
  have:=h.2.1 j (.int .u8 (bs[j].toNat:Int)) (by simp[Lib.byteCells,a]);rw[Lib.add_plain];exact this)
def cy5(n:Int)(d:Nat)(w:World)(a:Glob w)(S:0<d)(hn:n.natAbs<4611686018427387904)(ag:d<4611686018427387904):
  Calls prog 54 #[.int .i64 n,.int .i64 d] w fun e w'=>e= .returned (.string ⟨(cW ((n:Rat)/((d:Int):Rat))).toArray⟩)∧Below w.1.size w w':=by
 obtain⟨z,A⟩:=F4 (n:=n) (d:=(d:Int)) (by omega);rw[dD] at z A;obtain⟨t1,t2⟩:=cy3 ((n:Rat)/((d:Int):Rat));generalize (n:Rat)/((d:Int):Rat)=q at *;obtain⟨g,f⟩:∃g,g=Nat.gcd n.natAbs d:=⟨_,rfl⟩;rw[<-f] at z A;have ai:0<g:=by rw[f];exact Nat.gcd_pos_of_pos_right _ S
 have aj:g<=d:=by rw[f];exact aqY S (azU _ _)
 have t:(d:Int).tdiv (g:Int)=((d/g:Nat):Int):=by rw[Int.tdiv_eq_ediv_of_nonneg (by omega)];rfl
 have U:q.den=d/g:=by rw[t] at A;omega
 have F:d/g<=d:=azK _ _;have I:(n.tdiv g).natAbs<=n.natAbs:=by rw[Int.natAbs_tdiv,dD];exact azK _ _
 have ah:¬(d:Int)<0:=by omega
 have J:IntKind.i64.wrap (-n)= -n:=IntWalk.i64_in _ ⟨by omega,by omega⟩;have Q:Hid ((⟨(cW q).toArray⟩:ByteArray)=⟨(if q.den=1 then iP q.num else iP q.num++47 :: Lib.decDigits q.den).toArray⟩):=by
  unfold Hid;by_cases h:q.den=1
  ·rw[if_pos h,t1 h]
  ·rw[if_neg h,t2 h]
 rw[Q.out];rw[U,z];clear Q t1 t2 z A U;by_cases K:d=1
 ·subst K;obtain rfl:g=1:=by omega
  have x:=fun W a=>cxL n W a (by omega) (by omega);have s:n.tdiv ((1:Nat):Int)=n:=Int.tdiv_one n;rw[if_pos rfl,s];clear f s I t F J ah;go_enter func54,ntmps54;go_wp2_with fail;refine(x _ a).mono ?_;rintro s k ⟨rfl,b⟩;go_wp2;go_ret;exact⟨rfl,b⟩
 ·have am:((d:Int)==1)=false:=beq_eq_false_iff_ne.2 (by omega);have an:((d:Int) != 1)=true:=by simp;omega
  have V:max n (-n)=(n.natAbs:Int):=by omega
  have y:=fun W=>cy2 n.natAbs d W hn ag;rw[<-f] at y;have ao:((g:Int)==0)=false:=beq_eq_false_iff_ne.2 (by omega);have ap:¬(g:Int)=0:=by omega
  obtain⟨m,hm⟩:∃m,n.tdiv (g:Int)=m:=⟨_,rfl⟩;obtain⟨D,C⟩:∃D,d/g=D:=⟨_,rfl⟩;have Z:IntKind.i64.wrap m=m:=IntWalk.i64_in _ ⟨by omega,by omega⟩;have Y:IntKind.i64.wrap (D:Int)=(D:Int):=IntWalk.i64_in _ ⟨by omega,by omega⟩;rw[hm] at I⊢;rw[C] at t F⊢;have ac:0<D:=by rw[<-C];exact Nat.div_pos aj ai
  have x:=fun W a=>cxL m W a (by omega) (by omega);obtain⟨T,G⟩:∃T,(if D=1 then iP m else iP m++47 :: Lib.decDigits D)=T:=⟨_,rfl⟩;rw[G];have p:=aB G;clear f C K G;generalize (n.natAbs:Int)=N at *;go_enter func54,ntmps54;go_wp2_with fail;refine(y _).mono ?_;rintro s k ⟨rfl,b⟩;go_wp2_with fail;go_region;by_cases E:D=1
  ·subst E;have r:Hid (T=iP m):=by have:=p.out;rw[if_pos rfl] at this;exact this.symm
   clear p y J Z Y V;obtain rfl:=r.out;go_wp2_with fail;refine(x _ (a.be b.drew)).mono ?_;rintro e3 o ⟨rfl,ae⟩;go_wp2;go_ret;exact⟨rfl,b.drew.trans (ae.mono b.size)⟩
  ·have r:Hid (T=iP m++47 :: Lib.decDigits D):=by have:=p.out;rw[if_neg E] at this;exact this.symm
   have al:((D:Int)==1)=false:=beq_eq_false_iff_ne.2 (by omega);have lm:(iP m).length<=22:=SY m 1 (cJ (by unfold BN;omega));have lD:(iP (D:Int)).length<=22:=SY D 1 (cJ (by unfold BN;omega));have P:BufAt w (k.alloc (.cells (Array.replicate 48 (.int .u8 0)) 164)) k.1.size []:=⟨⟨_,heap_alloc_new k _,by simp⟩,(fun i v h=>by simp[Lib.byteCells] at h),b.alloc b.size _,b.size⟩;have c:=cxM (P.be (aG _ _).drew) a m (by omega) (by omega) (by simp;omega);have eD:iP (D:Int)=Lib.decDigits D:=by unfold iP;rw[if_neg (by omega)];rfl
   rw[iM] at c;have ad:(D:Int)<=9223372036854775807:=by omega
   clear p y J Z Y V x t F ac E P I;go_wp2_with fail;refine c.mono ?_;rintro e3 o ⟨rfl,L⟩;clear c;have M:BufAt w (o.alloc (.cells #[.int .u8 47] 5)) k.1.size (iP m):=L.be ((aG _ _).alloc aE _)
   obtain⟨v5,w5,X,rfl,O⟩:=(M.apps (l:=[47]) (by simp;omega)).2 (o.alloc (.cells #[.int .u8 47] 5)) ⟨o.1.size,0,none⟩ 1 (aG _ _) (fun j u H=>by
    have ak:j=0:=by
     have:=(List.getElem?_eq_some_iff.1 H).1;simp[Lib.byteCells] at this;omega
    subst ak;simp[Lib.byteCells] at H;subst H;exact(Bx.new o [.int .u8 47] 5).cell 0 rfl)
   have HR:=aB X;have c:=cxM O a (D:Int) (by omega) ad (by simp;omega);rw[eD,show List.length (iP m++([47]:List UInt8))=(iP m).length+1 from by simp] at c;clear X L M;go_wp2_with (at_builtin;refine IL rfl rfl rfl rfl rfl HR.out ?_);refine c.mono ?_;rintro e6 w6 ⟨rfl,B⟩;have hc:=cy4 B;have R:iP m++[47]++Lib.decDigits D=T:=by rw[r.out,eK];rfl
   have af:=B.2.2.1;clear c O B;rw[R] at hc⊢;clear R r;go_wp2;go_ret;exact⟨rfl,af⟩
def cy0{b:List UInt8}{d:Int}(q:cyG a n d)(c:cyG b m f)(r:bD a=some x)(s:bD b=some y):∃D F:Nat,d=(D:Int)∧f=(F:Int)∧0<D∧0<F∧D<1000000000∧F<1000000000∧x*((D:Int):Rat)=(n:Rat)∧y*((F:Int):Rat)=(m:Rat)∧(n*f).natAbs<1000000000000000000∧(m*d).natAbs<1000000000000000000∧0<D*F∧D*F<1000000000000000000∧d*f=((D*F:Nat):Int):=by
 obtain⟨-,D,rfl,k,i,u,g⟩:=q;obtain⟨-,F,rfl,l,j,t,h⟩:=c;rw[r] at g;rw[s] at h;injection g with g;injection h with h;have c:∀(n:Nat) (F:Nat),n<1000000000->F<1000000000->n*F<1000000000000000000:=fun n F v w=>by
  have:n*F<=999999999*999999999:=aqK (by omega) (by omega);omega
 have o:((D:Int):Rat)≠0:=fun e=>by have:(D:Int)=0:=by exact_mod_cast e
                                   omega
 have p:((F:Int):Rat)≠0:=fun e=>by have:(F:Int)=0:=by exact_mod_cast e
                                   omega
 refine⟨D,F,rfl,rfl,k,l,i,j,?_,?_,?_,?_,aqZ k l,c _ _ i j,by rw[az8]⟩
 ·rw[g,Rat.mkRat_eq_div,<-aq3,gW o]
 ·rw[h,Rat.mkRat_eq_div,<-aq3,gW p]
 ·rw[fL,dD];exact c _ _ u j
 ·rw[fL,dD];exact c _ _ t i
def cy1(a b:List UInt8)(x y:Rat)(K:Nat)(w:World)(g:Glob w)(C:bD a=some x)(E:bD b=some y)(G:RL K x)(H:RL K y)(hK:K<=268435456)(af:a.length<=1073741824)(ag:b.length<=1073741824):
  Calls prog 20 #[.string ⟨a.toArray⟩,.string ⟨b.toArray⟩] w fun e w'=>e= .returned (.string ⟨(cW (x-y)).toArray⟩)∧Below w.1.size w w':=by
 have U:=fun W=>cxN a b W (by omega) (by omega);have j:=fun W g=>cyK a W g (by omega);have k:=fun W g=>cyK b W g (by omega);rw[C] at j;rw[E] at k;have t:=fun W u v g h p=>cx0 x y u v W g h p K G H (by unfold aJ;omega);have B:=fun W v g h=>I4 (x-y) v W g h (2*K+1) (bU (JM G H) (by omega)) (by omega);have l:Hid (∀n d m f,cyG a n d->cyG b m f->(n*f).natAbs<1000000000000000000∧(m*d).natAbs<1000000000000000000∧∃D:Nat,d*f=(D:Int)∧0<D∧D<1000000000000000000∧x-y=((n*f-m*d:Int):Rat)/((D:Int):Rat)):=fun n d m f h p=>by
  obtain⟨D,F,rfl,rfl,d0,f0, -, -,I,i,Q,R,p0,p1,p2⟩:=cy0 h p C E;refine⟨Q,R,D*F,p2,p0,p1,?_⟩;have e:((n*(F:Int)-m*(D:Int):Int):Rat)=(x-y)*(((D*F:Nat):Int):Rat):=by
   rw[Rat.intCast_sub,eJ,eJ,<-I,<-i,az8,eJ];grind
  have hz:(((D*F:Nat):Int):Rat)≠0:=fun e=>by
   have:((D*F:Nat):Int)=0:=by exact_mod_cast e
   omega
  rw[e];grind
 unfold iF at j k t;simp only[Option.getD_some] at j k;clear C E af ag G H hK;obtain⟨T,r⟩:∃T,(cW (x-y)).toArray=T:=⟨_,rfl⟩;rw[r] at B⊢;have o:=aB r;clear r;go_enter func20,ntmps20;go_wp2_with fail;refine(U _).mono ?_;rintro I w1 ⟨n,d,m,f,ok,rfl,A,c⟩;obtain⟨w2,i,ac,X,Y⟩:=eL w1 [.int .i64 n,.int .i64 d] 103 [.int .i64 m,.int .i64 f] 103;replace c:=aC c ac;have cM:=aa X.k2 Y.k2;cases ok with
 |true=>
  obtain⟨M,N⟩:=A rfl;obtain⟨z3,z4,D,O,z6,z7,P⟩:=l.out n d m f M N;have L:=fun W g=>cy5 (n*f-m*d) D W g z6 (by omega) (by omega);rw[<-P,o.out] at L;have ah:IntKind.i64.wrap (n*f)=n*f:=IntWalk.i64_in _ ⟨by omega,by omega⟩;have ai:IntKind.i64.wrap (m*d)=m*d:=IntWalk.i64_in _ ⟨by omega,by omega⟩;have ak:IntKind.i64.wrap (n*f-m*d)=n*f-m*d:=IntWalk.i64_in _ ⟨by omega,by omega⟩;have aj:IntKind.i64.wrap (d*f)=(D:Int):=by rw[O];exact IntWalk.i64_in _ ⟨by omega,by omega⟩
  clear A j k t l M N z3 z4 O P B o;go_wp2_with fail;(try rw[i]);(try clear i);refine(L _ (g.be c)).mono ?_;rintro S w3 ⟨rfl,s⟩;go_wp2;go_ret;exact⟨rfl,aC c s⟩
 |false=>
  clear A l o;generalize x-y=z at *;go_wp2_with fail;(try rw[i]);(try clear i);refine(j _ (g.be c)).mono ?_;rintro S w3 ⟨v3,rfl,q,s⟩;replace c:=aC c s;go_wp2_with fail;refine(k _ (g.be c)).mono ?_;rintro e4 w4 ⟨v4,rfl,V,J⟩;replace q:=q.be J;replace c:=aC c J;go_wp2_with fail;refine(t _ _ _ (g.be c) q V).mono ?_;rintro e5 w5 ⟨v5,rfl,Z,ad⟩;replace c:=aC c ad;go_wp2_with fail;refine(B _ _ (g.be c) Z).mono ?_;rintro e6 w6 ⟨rfl,ae⟩;go_wp2;go_ret;exact⟨rfl,aC c ae⟩
def cyA:cW 0=[48]:=by
 have:cW 0=[]++Lib.decDigits 0++[]:=rfl;rw[this,BM];rfl
def cyB(q:Rat):∃c r,cW q=c :: r∧(c=45↔q.num<0):=by
 unfold cW;by_cases h:q.num<0
 ·rw[if_pos h];exact⟨45,_,rfl,fun _=>h,fun _=>rfl⟩
 ·rw[if_neg h];cases hd:Lib.decDigits q.num.natAbs with
  |nil=>exact absurd hd (tK _)
  |cons c r=>
   refine⟨c,_,rfl,fun e=> ?_,fun k=>absurd k h⟩;have:=oL q.num.natAbs c (by rw[hd];exact iC);rw[e] at this;exact absurd this.1 (by decide)
def cyC(t:List UInt8)(w:World)(f:Glob w)(s:t.length<=1073741824):
  Calls prog 12 #[.string ⟨t.toArray⟩] w (eO w ((bD t).getD 0).num.sign):=by
 have b:=fun W f=>cxS t W f s;unfold eO;obtain⟨S,l⟩:∃S,((bD t).getD 0).num.sign=S:=⟨_,rfl⟩;rw[l];have a:=aB l;clear l;by_cases d:t=[48]
 ·subst d;obtain rfl:S=0:=by rw[<-a.out];rfl
  clear b a;go_enter func12,ntmps12;go_wp2;go_ret;exact⟨rfl,aG _ _⟩
 ·have z:(t==[48])=false:=by simpa using d
  cases hr:bD t with
  |none=>
   have i:rd t=false:=by unfold rd;rw[hr];rfl
   obtain rfl:S=0:=by rw[<-a.out,hr];rfl
   rw[i] at b;clear a hr i d;go_enter func12,ntmps12;go_wp2_with fail;refine(b _ f).mono ?_;rintro o p ⟨rfl,g⟩;go_wp2;go_ret;exact⟨rfl,g⟩
  |some q=>
   have i:rd t=true:=by unfold rd;rw[hr];rfl
   have n:=tL hr;obtain⟨c,r,e,m⟩:=cyB q;rw[n] at e;have u:q.num≠0:=fun k=>d (by rw[<-n,Rat.num_eq_zero.1 k];exact cyA);have j:S=if c=45 then -1 else 1:=by
    rw[<-a.out,hr];show q.num.sign=_
    by_cases k:c=45
    ·rw[if_pos k,aqT (m.1 k)]
    ·rw[if_neg k,aqI (by have v:¬q.num<0:=(fun h=>k (m.2 h));omega)]
   rw[i] at b;subst e;clear a hr i d n m u;have x:∀h:0<(⟨(c :: r).toArray⟩:ByteArray).size,(⟨(c :: r).toArray⟩:ByteArray)[0]'h=c:=fun _=>rfl;by_cases k:c=45
   ·subst k;rw[if_pos rfl] at j;subst j;go_enter func12,ntmps12;go_wp2_with fail;refine(b _ f).mono ?_;rintro o p ⟨rfl,g⟩;go_wp2;go_ret;exact⟨rfl,g⟩
   ·rw[if_neg k] at j;subst j;have y:((c.toNat:Int)==45)=false:=by
     rw[beq_eq_false_iff_ne];intro e;exact k (UInt8.toNat_inj.1 (show c.toNat=(45:UInt8).toNat by show c.toNat=45;omega))
    clear k;go_enter func12,ntmps12;go_wp2_with fail;refine(b _ f).mono ?_;rintro o p ⟨rfl,g⟩;go_wp2;go_ret;exact⟨rfl,g⟩
def cxO(a:List (List UInt8))(v:Value)(w:World)(hv:StrsAt w v a)(e:a.length<=7)(f:∀l∈a,l.length<=6):Calls prog 14 #[v] w (eO w (dM a)):=by
 obtain⟨A,c,rfl,i⟩:=hv.form;have b:=fun W h=>L5 a (.slice A a.length c) W h e f;unfold yA at b;unfold eO;generalize dM a=E at *;go_enter func14,ntmps14;go_wp2_with fail;refine(b _ hv).mono ?_;rintro g k ⟨j,rfl, -,d⟩;go_wp2;go_ret;exact⟨rfl,d⟩
structure RfG(ls:List (List UInt8))(t:List UInt8)(p Q:Rat×Rat):Prop where
 ref:∀W v,Glob W->StrsAt W v ls->Calls prog 10 #[v,.agg #[.string ⟨(cW p.1).toArray⟩,.string ⟨(cW p.2).toArray⟩],.string ⟨t.toArray⟩] W (bxU W 0 (kQ Q))
 iso:∀W v,Glob W->StrsAt W v ls->Calls prog 17 #[v,.agg #[.string ⟨(cW Q.1).toArray⟩,.string ⟨(cW Q.2).toArray⟩]] W fun e w'=>e= .returned (.bool true)∧Below W.1.size W w'
 iss:∀W v u,QsAt W v (aU ls)->IvN W u Q.1 Q.2->Calls prog 18 #[v,u] W fun e w'=>e= .returned (.bool true)∧Below W.1.size W w'
 kp:RL 1500000 p.1∧RL 1500000 p.2
 kq:RL 12000010 Q.1∧RL 12000010 Q.2
 le:p.1<=Q.1∧Q.2<=p.2∧Q.2-Q.1<=azQ t
def cxP{d:List (List UInt8)}{n:Nat}{l:List (Rat×Rat)}(R:dM d=0)(T:yF (aU d) n l)(y:d.length<=7)(B:∀l∈d,l.length<=6)(P:t.length<=18)(N:rd t=true)(G:0<azQ t){p:Rat×Rat}(K:p∈l):∃Q,RfG d t p Q:=by
 obtain⟨w,s,c,o,r,Y,V, -⟩:=T;have U:∀q∈aU d,RL 1 q:=pI (fun l y=>aH (B l y) (by decide));have ae:(aU d).length=d.length:=cH _
 obtain⟨J, -, -⟩:=cxY Y (by
  have E:((0:Int):Rat)<(((2:Int)^n:Int):Rat):=Rat.intCast_lt_intCast.2 (aqH (by decide));rw[bx4];grind) p K
 obtain⟨C,D⟩:=V p K;have Z:RL 1 (azQ t):=by
  obtain⟨q,g⟩:=Option.isSome_iff_exists.1 N;unfold azQ;rw[g];exact tS g P
 obtain⟨m,I,M⟩:=bqR C D Z G;have g:=cxZ o r G m p.1 p.2 J I;have k:=cyN (f:=fun z=>aP s 0 z) (L:=azQ t) M m 0 0 (bA _) aE;obtain⟨q0,q1⟩:=bqG p.1 (p.2-p.1);rw[q0,q1,show p.1+(p.2-p.1)=p.2 by grind] at k;have F:dM d=0->Prp (aU d) w∧CnZ w s c:=fun _=>⟨o,r⟩;have e:∀q:Rat,rd (cW q)=true∧(bD (cW q)).getD 0=q:=fun q=>⟨by unfold rd;rw[SU];rfl,by rw[SU];rfl⟩;have O:∀a b:Rat,IsoAt s c a b->qY d s c (cW a) (cW b)=true:=fun a b h=>by
  unfold qY mB;rw[R,(e a).1,(e b).1,(e a).2,(e b).2,h.ok o r];rfl
 obtain⟨Q,H⟩:∃Q,azN (fun z=>aP s 0 z) (azQ t) m p.1 p.2=Q:=⟨_,rfl⟩;rw[H] at g k;have x:∀{q:Rat},RL 12000010 q->EdT (cW q):=fun h=>⟨aH (cx1 h) (by decide),fun _=>by rw[SU];exact bU h (by decide)⟩;have ac:=bU C (show 1500000<=12000010 by decide);have ad:=bU D (show 1500000<=12000010 by decide);refine⟨Q,fun W v A hv=>bqT d w s c (cW p.1) (cW p.2) t m Q 0 (kQ Q) F ⟨fun h=> ?_,fun _ h=> ?_,fun _ _=>⟨rfl,rfl,?_,?_,?_⟩⟩ v W A hv y B (x ac) (x ad) P,fun W v A hv=> ?_,fun W v u hv X=> ?_,⟨C,D⟩,k,g.2⟩
 ·rw[O _ _ J,N] at h;cases h
 ·exfalso;grind
 ·rw[(e p.1).2,(e p.2).2,H]
 ·rw[(e p.1).2,(e p.2).2];exact I
 ·rw[(e p.1).2,(e p.2).2];exact fun j i S E=>bU (M j i S E) (by decide)
 ·have:=ayA d w s c (cW Q.1) (cW Q.2) F v W A hv y B (x k.1) (x k.2);rw[O _ _ g.1] at this;exact this
 ·have:=M5 (aU d) w s c Q.1 Q.2 v u W hv X o r U (by omega) (bU k.1 (by decide)) (bU k.2 (by decide));rw[M4 o r,g.1.ok o r] at this;exact this
def cxQ(f:List (List UInt8))(k:Int)(t:List UInt8)(v:Value)(w:World)(d:Glob w)(hv:StrsAt w v f)(a7:∀l∈f,l.length<=9223372036854775807)(ct:t.length<=9223372036854775807)(I: -9223372036854775808<=k)(J:k<=9223372036854775807):
  Calls prog 4 #[v,.int .i64 k,.string ⟨t.toArray⟩] w fun e w'=>e= .returned (.bool true)∧Below w.1.size w w':=by
 obtain⟨A,T,rfl,hc⟩:=hv.form;have am:=fun W h=>ayE f (.slice A f.length T) W h a7;have cu:(⟨t.toArray⟩:ByteArray).size=t.length:=by simp[ByteArray.size]
 clear a7;go_enter func4,ntmps4;go_wp2_with fail;refine(am _ hv).mono ?_;rintro e1 w1 ⟨rfl,rfl⟩;have a:=aG w.1.size w;cases hs:(decide (f.length<=7)&&jH 6 f) with
 |false=>
  clear hs am I J;go_wp2_with fail;refine(DV _ (d.be a)).mono ?_;rintro z r ⟨rfl,g⟩;go_wp2;go_ret;exact⟨rfl,aC a g⟩
 |true=>
  rw[az7,iQ] at hs;obtain⟨ad,ak⟩:=hs;have L:∀l∈f,l.length<=6:=fun l N=>by
   unfold jH at ak;exact of_decide_eq_true (List.all_eq_true.1 ak l N)
  clear am ak;by_cases h6:t.length<=6
  ·have q6:¬(6:Int)<(t.length:Int):=by omega
   have al:=fun W d=>cyC t W d (by omega);have H6:=aB h6;clear h6;unfold eO at al;have hS:0<((bD t).getD 0).num.sign->rd t=true∧0<azQ t:=fun h=>by
    unfold rd azQ;cases hr:bD t with
    |none=>rw[hr] at h;exact absurd h (by decide)
    |some q=>
     rw[hr] at h;refine⟨rfl,?_⟩;have:=bq6 q 0;rw[show q-0=q by grind] at this;exact this.1 h
   have HS:=aB hS;clear hS;generalize ((bD t).getD 0).num.sign=S at *;go_wp2_with fail;refine(al _ d).mono ?_;rintro e2 w2 ⟨rfl,a6⟩;replace a:=aC a a6;clear al a6;by_cases br:S<=0
   ·clear HS I J;go_wp2_with fail;refine(DV _ (d.be a)).mono ?_;rintro z r ⟨rfl,g⟩;go_wp2;go_ret;exact⟨rfl,aC a g⟩
   ·obtain⟨ag,hL⟩:=HS.out (by omega);have aj:∀q∈aU f,RL 1 q:=pI (fun l N=>aH (L l N) (by decide));obtain⟨n,hn,bf⟩:=ax2 320 (ax3 (bU (L4 aj (by decide)) (show 4*1+1<=5 by decide)));have H:=fun W d h=>LT f n 1000000000 (yF (aU f) n) (.slice A f.length T) W d h ad L (fun _ _=>bf) (by omega) (by decide) (by decide) (fun _ _=>True) (fun x y _ kx ky W u v d h h'=>UW x y u v W d h h' 1000000000 kx ky (by unfold aJ;decide)) (fun l h=>by obtain⟨_,_,_,_,_,_,m,h2⟩:=h;exact⟨by omega,fun p o=>⟨bU (m p o).1 (by decide),bU (m p o).2 (by decide)⟩⟩) (fun w s c hw hc=>ax4 hw hc (by omega));have ac:=fun W h=>cxO f (.slice A f.length T) W h ad L;have ae:=fun W h=>VQ f (.slice A f.length T) W h (by omega) (fun l N=>aH (L l N) (by decide)) (fun q K=>bU (aj q K) (by decide));have a8:∀l,dM f=0->yF (aU f) n l->∀p∈l,∃Q,RfG f t p Q:=fun l m h2 p o=>cxP m h2 ad L (by have:=H6.out;omega) ag hL o;have bb:∀l,yF (aU f) n l->l.length<=8:=fun l h=>by obtain⟨_,_,_,_,_,_,_,h⟩:=h;exact h
    have bg:dM f=0->vl f=true∧oP f=aU f:=fun h=>by
     rcases uL f with ⟨-,m, -⟩|⟨m, -⟩|⟨m, -⟩
     ·exact⟨m,tW m⟩
     ·omega
     ·omega
    have R:=aB bg;have P:=aB a8;unfold eO at ac;unfold qP at ae;clear HS aj bf ad L bg a8;obtain⟨E,hE⟩:∃E,dM f=E:=⟨_,rfl⟩;rw[hE] at H ac R P;clear hE;go_wp2_with fail;refine(H _ (d.be a) (hv.be a)).mono ?_;rintro e3 w3 ⟨v3,l,rfl,i1,i2,h3,b2⟩;obtain⟨A3,c3,rfl, -⟩:=h3.form;rw[cH] at h3⊢;replace a:=aC a b2;clear H;clear br;have an:(E≠0∧(E==0)=false∨E=0∧(l.length:Int)=0)∨E=0∧0<l.length:=by
     by_cases h:E=0
     ·by_cases h':l.length=0
      ·exact .inl (.inr ⟨h,by omega⟩)
      ·exact .inr ⟨h,by omega⟩
     ·exact .inl (.inl ⟨h,beq_eq_false_iff_ne.2 h⟩)
    rcases an with an|⟨rfl,ba⟩
    ·rcases an with ⟨hE,cn⟩|⟨rfl,ba⟩
     all_goals (
      (try rw[show l.length=0 by omega] at h3⊢);clear P R I J i1 i2;go_wp2_with fail;refine(ac _ (hv.be a)).mono ?_;rintro e4 w4 ⟨rfl,b3⟩;replace a:=aC a b3;go_wp2_with fail;refine(DV _ (d.be a)).mono ?_;rintro z r ⟨rfl,g⟩;go_wp2;go_ret;exact⟨rfl,aC a g⟩
     )
    ·have hI:=i1 rfl;have cs:=bb l hI;have bc:=fun W=>cxG k l.length W I J ba (by omega);have b8:¬(l.length:Int)=0:=by omega
     have cr:((l.length:Int)==0)=false:=beq_eq_false_iff_ne.2 b8;have a0:=fun p o=>P.out l rfl hI p o;obtain⟨bi,a5⟩:=R.out rfl;rw[bi,a5] at ae;have ax:=aB a0;clear P R i1 i2 hI bb I J a0 bi a5 ac;go_wp2_with fail;refine(bc _).mono ?_;rintro e4 w4 ⟨j,hj,rfl,rfl⟩;have cp:(0:Int)<=(j:Int):=by omega
     have cq:(j:Int)<(l.length:Int):=by omega
     have o:l[j]? =some l[j]:=aR hj;have bh:(l.map kQ)[j]? =some (kQ l[j]):=by rw[iK,o];rfl
     obtain⟨bq,rfl,co,u0,u1⟩:=h3.at_ bh;obtain⟨Q,hg⟩:=ax.out _ (aq0 hj);generalize l[j]=p at *;obtain⟨af,H,a9,⟨ao,ap⟩,⟨B,C⟩,g1,g2,g3⟩:=hg;have a1:(kQ p).1=cW p.1:=rfl;have a2:(kQ p).2=cW p.2:=rfl;have a3:(kQ Q).1=cW Q.1:=rfl;have a4:(kQ Q).2=cW Q.2:=rfl;rw[a1] at u0;rw[a2] at u1;unfold bxU at af;rw[a3,a4] at af;have D:∀{q:Rat},RL 12000010 q->(cW q).length<=1073741824:=fun h=>aH (cx1 h) (by decide);have lp:∀{q:Rat},RL 1500000 q->(cW q).length<=1073741824:=fun h=>aH (cx1 h) (by decide);have rT:∀q:Rat,rd (cW q)=true:=fun q=>by unfold rd;rw[SU];rfl
     have ah:=fun W=>CE (cW Q.1) W (D B);have ai:=fun W=>CE (cW Q.2) W (D C);unfold JH at ah ai;rw[rT,SU] at ah ai;have c1:=fun W d=>cyO (cW Q.1) (cW p.1) Q.1 p.1 12000010 W d (SU _) (SU _) B (bU ao (by decide)) (by decide) (D B) (lp ao);have c2:=fun W d=>cyO (cW Q.2) (cW p.2) Q.2 p.2 12000010 W d (SU _) (SU _) C (bU ap (by decide)) (by decide) (D C) (lp ap);have c3:=fun W d=>cy1 (cW Q.2) (cW Q.1) Q.2 Q.1 12000010 W d (SU _) (SU _) C B (by decide) (D C) (D B);have kd:=bU (JM C B) (show 12000010+12000010+1<=24000021 by decide);have c4:=fun W d=>cyO (cW (Q.2-Q.1)) t (Q.2-Q.1) (azQ t) 24000021 W d (SU _) (by obtain⟨q,K⟩:=Option.isSome_iff_exists.1 ag;unfold azQ;rw[K];rfl) kd (by obtain⟨q,K⟩:=Option.isSome_iff_exists.1 ag;unfold azQ;rw[K];exact bU (tS K (by have:=H6.out;omega)) (by decide)) (by decide) (aH (cx1 kd) (by decide)) (by have:=H6.out;omega);have d1:0<=(Q.1-p.1).num.sign:=by
      rcases iY (Q.1-p.1) with h|h|h
      ·exfalso;grind
      ·rw[h];decide
      ·rw[(fS _).1 h];decide
     have dn:∀x:Rat,x<=0->x.num.sign<=0:=fun x hx=>by
      rcases iY x with h|h|h
      ·rw[(fS _).2 h];decide
      ·rw[h];decide
      ·exfalso;grind
     have d2:=dn (Q.2-p.2) (by grind);have d4:=dn (Q.2-Q.1-azQ t) (by grind);unfold eO at c1 c2 c4;generalize (Q.1-p.1).num.sign=S1 at *;generalize (Q.2-p.2).num.sign=S2 at *;generalize (Q.2-Q.1-azQ t).num.sign=S4 at *;generalize (⟨(cW p.1).toArray⟩:ByteArray)=b9 at *;generalize (⟨(cW p.2).toArray⟩:ByteArray)=ca at *;generalize (⟨(cW Q.1).toArray⟩:ByteArray)=cb at *;generalize (⟨(cW Q.2).toArray⟩:ByteArray)=cc at *;generalize (⟨(cW (Q.2-Q.1)).toArray⟩:ByteArray)=td at *;obtain⟨w5,e5,b4,X⟩:=bI w3 [.string b9,.string ca] 24;have cX:=X.k2;replace a:=aC a b4;clear ax hj o bh bc g1 g2 g3 ao ap B C kd D lp rT a1 a2 a3 a4 dn hL ag;go_wp2_with fail;(try rw[e5]);(try clear e5);refine(af _ _ (d.be a) (hv.be a)).mono ?_;rintro e6 w6 ⟨rfl,b5⟩;obtain⟨w7,e7,b6,Y⟩:=bI w6 [.string cb,.string cc] 24;have:=St.mk b5;have:=St.mk b6;replace X:=X.up (b:=w7);replace a:=bJ (b:=w7) a;have i:=aa X.k2 Y.k2;clear af cX;go_wp2_with fail;(try rw[e7]);(try clear e7);refine(ah _).mono ?_;rintro e8 w8 ⟨v8,x8,rfl,G,bk,b7⟩;obtain rfl:=bk _ rfl;obtain⟨s1,A1,k1,bm,s2,A2,k2,bn,rfl⟩:=G.form;obtain⟨r,z,g,Z⟩:=bI w8 [.bool s1,.slice A1 k1 bm,.bool s2,.slice A2 k2 bn] 42;have:=St.mk b7;have:=St.mk g;replace X:=X.up (b:=r);replace Y:=Y.up (b:=r);replace G:=G.up (b:=r);replace a:=bJ (b:=r) a;have i:=aa X.k2 (aa Y.k2 Z.k4);clear ah bk;go_wp2_with fail;(try rw[z]);(try clear z);refine(ai _).mono ?_;rintro ce cd ⟨cv,cx,rfl,U,bj,bs⟩;obtain rfl:=bj _ rfl;obtain⟨s3,A4,k3,bo,s4,A5,k4,bp,rfl⟩:=U.form;obtain⟨M,ay,bt,V⟩:=bI cd [.bool s3,.slice A4 k3 bo,.bool s4,.slice A5 k4 bp] 42;have:=St.mk bs;have:=St.mk bt;replace X:=X.up (b:=M);replace Y:=Y.up (b:=M);replace Z:=Z.up (b:=M);replace G:=G.up (b:=M);replace U:=U.up (b:=M);replace a:=bJ (b:=M) a;have i:=aa X.k2 (aa Y.k2 (aa Z.k4 V.k4));clear ai bj;go_wp2_with fail;(try rw[ay]);(try clear ay);refine(ae _ (hv.be a)).mono ?_;rintro cg O ⟨cw,rfl,az,bu⟩;obtain⟨A6,c6,rfl, -⟩:=az.form;have:=St.mk bu;replace X:=X.up (b:=O);replace Y:=Y.up (b:=O);replace Z:=Z.up (b:=O);replace V:=V.up (b:=O);replace a:=bJ (b:=O) a;have i:=aa X.k2 (aa Y.k2 (aa Z.k4 V.k4));clear ae;go_wp2_with fail;refine(H _ _ (d.be a) (hv.be a)).mono ?_;rintro ch F ⟨rfl,bv⟩;have:=St.mk bv;replace X:=X.up (b:=F);replace Y:=Y.up (b:=F);replace Z:=Z.up (b:=F);replace V:=V.up (b:=F);replace a:=bJ (b:=F) a;have i:=aa X.k2 (aa Y.k2 (aa Z.k4 V.k4));clear H;go_wp2_with fail;refine(a9 _ _ _ az.up (IvN.of (G.up (b:=F)) (U.up (b:=F)))).mono ?_;rintro ci aq ⟨rfl,bw⟩;have:=St.mk bw;replace X:=X.up (b:=aq);replace Y:=Y.up (b:=aq);replace a:=bJ (b:=aq) a;have i:=aa X.k2 Y.k2;clear a9 Z V;go_wp2_with fail;refine(c1 _ (d.be a)).mono ?_;rintro cj ar ⟨rfl,bx⟩;have:=St.mk bx;replace X:=X.up (b:=ar);replace Y:=Y.up (b:=ar);replace a:=bJ (b:=ar) a;have i:=aa X.k2 Y.k2;go_wp2_with fail;refine(c2 _ (d.be a)).mono ?_;rintro ck au ⟨rfl,bz⟩;have:=St.mk bz;replace X:=X.up (b:=au);replace Y:=Y.up (b:=au);replace a:=bJ (b:=au) a;have i:=aa X.k2 Y.k2;go_wp2_with fail;refine(c3 _ (d.be a)).mono ?_;rintro cl av ⟨rfl,b0⟩;have:=St.mk b0;replace X:=X.up (b:=av);replace Y:=Y.up (b:=av);replace a:=bJ (b:=av) a;have i:=aa X.k2 Y.k2;go_wp2_with fail;refine(c4 _ (d.be a)).mono ?_;rintro cm aw ⟨rfl,b1⟩;have:=St.mk b1;replace X:=X.up (b:=aw);replace Y:=Y.up (b:=aw);replace a:=bJ (b:=aw) a;have i:=aa X.k2 Y.k2;go_wp2_with fail;refine(DV _ (d.be a)).mono ?_;rintro z r ⟨rfl,g⟩;go_wp2;go_ret;exact⟨rfl,aC a g⟩
  ·have q6:(6:Int)<(t.length:Int):=by omega
   clear I J;go_wp2_with fail;refine(DV _ (d.be a)).mono ?_;rintro z r ⟨rfl,g⟩;go_wp2;go_ret;exact⟨rfl,aC a g⟩
end Go.Proofs.YtpjpfjephpgcbaaGreatDoor
namespace Go.Proofs.YtpjpfjephpgcbaaGreatDoor
open Go.ChangeShapes Go.WideShapes Go.ChangeAt Go.WideMaps Go.WideElems Go.RowKit Go.Proofs.Tryz
variable{W e:World}
def own:ownKnob Tryz.prog.godebug=none:=by kernel_rfl
def LZ:laidOutB prog=true:=by kernel_rfl
def ayO:Tryz.prog.cellsOf 9=1:=by kernel_rfl
def ayP:Tryz.prog.globalNamed "math/bits.deBruijn64tab" =some 1:=by kernel_rfl
def ayQ:Tryz.prog.globalNamed "internal/strconv.uint64pow10" =some 0:=by kernel_rfl
def ayR:(Tryz.prog.globals[1]?).map (·.type)=some 259:=by kernel_rfl
def ayS:(Tryz.prog.globals[0]?).map (·.type)=some 250:=by kernel_rfl
def ayT:Tryz.prog.cellsOf 259=64:=by kernel_rfl
def ayU:Tryz.prog.cellsOf 250=20:=by kernel_rfl
def ayV:Tryz.prog.cellsOf 5=1:=by kernel_rfl
def ayW:Tryz.prog.cellsOf 191=1:=by kernel_rfl
def uX:List (String×DataW Unit):=[("math/bits.deBruijn32tab",Rows.laid_math_bits_deBruijn32tab),("math/bits.deBruijn64tab",Rows.laid_math_bits_deBruijn64tab),("internal/strconv.uint64pow10",Rows.laid_internal_strconv_uint64pow10)]
def ayX(os:Os)(args:Array Value):laidMetH prog uX ((World.doorLaid prog 400 os).forCall (fun _ _=>0) ⟨#[],args,[]⟩).memory:=
 laidMetH_of_parts3 (fuel:=8) (laidMet_of_run' 8 (by kernel_rfl) (by kernel_rfl)) (by kernel_rfl) (by kernel_rfl)
def ayY:(Rows.laid_math_bits_deBruijn64tab:DataW Unit)=Lib.tabData .u8 (Lib.deBruijn64tab.map (fun z:Nat=>(z:Int))):=by rfl
def ayZ:(Rows.laid_internal_strconv_uint64pow10:DataW Unit)=Lib.tabData .u64 Lib.pow10Tab:=by rfl
def az0(h:laidMetH prog uX W):Glob W:=by
 rw[MakeChecks.laidMetH_plain _ _ _ (by kernel_rfl)] at h;obtain⟨C,⟨t,G,n,q,A,D,x,y,z,w,⟨u,H,o,r,B,E,c,i,l,a,⟨v,I,p,s,p2,F,f,k,m,b,_,_⟩,_⟩,_⟩,_,_⟩:=h;obtain rfl:=Option.some.inj (ayP.symm.trans c);obtain rfl:=Option.some.inj (ayQ.symm.trans f);obtain rfl:=Option.some.inj (ayR.symm.trans i);obtain rfl:=Option.some.inj (ayS.symm.trans k);rw[ayY] at a;rw[ayZ] at b;have d:=Lib.cells_of_tab underlying259 underlying5 ayV ayT a;have e:=Lib.cells_of_tab underlying250 underlying191 ayW ayU b;refine⟨fun j g=> ?_,?_⟩
 ·have:=World.var?_cell c l j;rw[this,<-Array.getElem?_toList,d];simp[List.getElem?_map,List.getElem?_eq_getElem g]
 ·unfold Lib.TabIs;rw[m,<-e]
def az1{H:Type}{enc:TypeId×Value->H}{p:Option Addr}{c k fuel:Nat}{x:DataW H×List MemPlace}
  (w:DataW.trod enc prog W 0 (fun _=>true) true fuel 22 [.slice p c k]=some x):
  ∃t:List (List UInt8),StrsAt W (.slice p c k) t∧∀l∈t,l.length<=9223372036854775807:=by
 rcases open_strings underlying22 underlying9 ayO w with ⟨d,C⟩|⟨a,G,E,o,d,_,y,F,D,C,m,B⟩
 ·simp at d;obtain⟨rfl,rfl,rfl⟩:=d;exact⟨[],StrsAt.nil _ _ _,fun l h=>by cases h⟩
 ·simp at d;obtain⟨rfl,rfl,rfl⟩:=d;simp only[if_true] at D;obtain⟨b,f,u⟩:=a;have n:((o.take c).map (·.data.toList)).length=c:=by simp;omega
  refine⟨(o.take c).map (·.data.toList),⟨some ⟨b,f,u⟩,k,by rw[n],by rw[n];exact y,?_⟩,fun l h=> ?_⟩
  ·rcases Nat.eq_zero_or_pos c with q|q
   ·left;rw[q];rfl
   ·right;have A:u=none:=by simpa [Addr.add] using World.cell?_spot (m 0 (by omega))
    subst A;refine⟨b,f,rfl,?_,fun i l j=> ?_⟩
    ·have g:=m 0 (by omega);exact block_lt_of_cell (a:=⟨b,f,none⟩) (by simpa [Addr.add] using g)
    ·have r:=(List.getElem?_eq_some_iff.1 j).1;rw[n] at r;have g:=m i (by omega);have v:(⟨b,f,none⟩:Addr).add i=⟨b,f+i,none⟩:=by unfold Addr.add;split<;>simp_all
     rw[v] at g;rw[g];rw[List.getElem?_map,List.getElem?_take_of_lt r,List.getElem?_eq_getElem (by omega)] at j;simp only[Option.map_some,Option.some.injEq] at j;subst j;simp[List.getD,List.getElem?_eq_getElem (show i<o.length by omega)]
  ·obtain⟨s,z,rfl⟩:=List.mem_map.1 h;have:=B s (List.mem_of_mem_take z);unfold maxLen at this;have e:s.data.toList.length=s.size:=Array.length_toList;rw[e];exact this
def az2{H:Type}{enc:TypeId×Value->H}{P:Program}{f:Func}{s:ChangeSpec}{args:Array Value}{y:TypeId}{d:List (DataW H)}{a:List MemPlace}
  (g:DataW.Whole enc P f.params.toList s.vars false W args.toList d [] a)(hv:s.vars=[])(q:f.resultTypes= #[y])(v:P.underlying y=some .bool)
  (i:s.fn H d={ results:=[.lit (.bool true)],args:=d })
  (A:∀sp:Nat->Bool,(∀p∈a,sp p.block=true)->DataW.TrodAll enc P e 0 sp true f.params.toList args.toList d a)(l:Below W.1.size W e):
  s.post enc P f false true false false W args (.bool true) e:=by
 have o:∀p∈a,p.block<W.1.size:=fun p c=>g.lt p c;have C:∀p∈a,(fun b=>decide (b<W.1.size)) p.block=true:=fun p c=>by simpa using o p c
 have u:∀(b:Nat) (sp:Nat->Bool) (m:Bool),DataW.TrodAll enc P e b sp m f.resultTypes.toList ((Value.bool true).resultList f.resultTypes.size) (s.fn H (d++[])).results []:=fun b sp m=>by
  rw[List.append_nil,i,q];exact trodAll_mk1 (shut_bool v _)
 have k:∀sp:Nat->Bool,(∀p∈a,sp p.block=true)->DataW.TrodAll enc P e 0 sp true f.params.toList args.toList (s.fn H (d++[])).args a:=fun sp h=>by
  rw[List.append_nil,i];exact A sp h
 have w:∀sp:Nat->Bool,DataW.TrodVars enc P e sp s.vars (s.fn H (d++[])).vars []:=fun sp=>by
  rw[List.append_nil,i,hv];exact rfl
 refine⟨d,[],a,[],a,[],g,u _ _ _,k _ C,w _,World.keptBut_mono (fun p c=>⟨c,.inr (.inl c)⟩) (l.frame (·∈a)),fun _=> ?_⟩;obtain⟨_,_,_,_,_,E,hn⟩:=g;refine⟨fun j t r B D=> ?_,_,_,([]++a)++[],⟨[]++a,[],trodAll_append (k _ (fun _ _=>rfl)) (u _ _ _),w _,rfl,fun b x c=> ?_,fun z=>by cases z⟩,fun p c _=>by simpa using c⟩
 ·exact ok_one (by rw[q]) rfl (okWide_bool_mk v true) j t r B D
 ·have n:MemPlace.cell b x∈a:=by simpa using c
  rw[l.frozen (o _ n)];exact E b x n
