/- Laws. -/
import Derived.Test.YtpjpfjephpgcbaaGreatDoorRows
import Derived.Test.YtpjpfjephpgcbaaGreatDoorQ28
import Derived.Test.YtpjpfjephpgcbaaGreatDoorQ29
import Derived.ProofKit
import Derived.LaidMore
import Derived.OpenShut
import Derived.Stop.Joined
import Derived.SliceStrings
import Derived.Lib.LaidTab
import Derived.Carry
set_option linter.all false
set_option maxHeartbeats 8000000
set_option maxRecDepth 99999
namespace Go.Proofs.YtpjpfjephpgcbaaGreatDoor
open Go.RowKit Sos Go.Proofs.Tryz
variable{b w:World}{v:Value}
def StrsAt.built(w:World)(a:List (List UInt8))(t:TypeId):StrsAt (w.alloc (.cells (a.map (fun l=>Value.string ⟨l.toArray⟩)).toArray t)) (.slice (some ⟨w.1.size,0,none⟩) a.length a.length) a:=by
 refine⟨_,_,rfl,aE,.inr ⟨w.1.size,0,rfl,by simp,fun i l b=> ?_⟩⟩;have B:=Bx.new w (a.map (fun l=>Value.string ⟨l.toArray⟩)) t;rw[bA];exact B.cell i (by rw[iK,b];rfl)
def ayE(a:List (List UInt8))(v:Value)(w:World)(hv:StrsAt w v a)(h:∀l∈a,l.length<=9223372036854775807):
  Calls prog 5 #[v] w fun e w'=>e= .returned (.bool (decide (a.length<=7)&&jH 6 a))∧w=w':=by
 obtain⟨A,c,rfl,k⟩:=hv.form;by_cases g:a.length<=7
 ·have i:(a.length:Int)<=7:=by omega
  have f:Calls prog 6 #[.int .i64 6,.slice A a.length c] w fun e w'=>e= .returned (.bool (jH 6 a))∧w=w':=LX 6 a (.slice A a.length c) w hv (by decide) (by omega) h;obtain⟨S,d⟩:∃S,jH 6 a=S:=⟨_,rfl⟩;have b:Hid ((decide (a.length<=7)&&jH 6 a)=S):=by unfold Hid;rw[d];simp[g]
  rw[d] at f;clear d;go_enter func5,ntmps5;go_wp2_with fail;refine f.mono ?_;rintro j m ⟨rfl,rfl⟩;go_wp2;go_ret;rw[b.out];exact⟨rfl,rfl⟩
 ·have i:¬(a.length:Int)<=7:=by omega
  have b:Hid ((decide (a.length<=7)&&jH 6 a)=false):=by unfold Hid;simp[g]
  go_enter func5,ntmps5;go_wp2;go_ret
  first
   |exact⟨rfl,rfl⟩
   |(rw[b.out];exact⟨rfl,rfl⟩)
def yO:aU [[45,50],[48],[49]]=[-2,0,1]:=by
 show[(bD [45,50]).getD 0,(bD [48]).getD 0,(bD [49]).getD 0]=_
 rw[ayN,LY,ayM];rfl
def ayF:bD [45,52]=some (-4):=by decide
def ayG:bD [52]=some 4:=by decide
def ayH:([(-4,0),(0,4)]:List (Rat×Rat)).map kQ=[([45,52],[48]),([48],[52])]:=by
 show[(cW (-4),cW 0),(cW 0,cW 4)]=_
 rw[tL ayF,tL LY,tL ayG]
def LW:vl [[45,50],[48],[49]]=true:=by
 unfold vl;rw[iQ,yO];exact⟨by decide,by decide,by decide⟩
def ayI:dM [[45,50],[48],[49]]=0:=by unfold dM;rw[if_pos LW,if_neg (by simp)]
def ayJ:oS [[45,50],[48],[49]] [] []=0:=by
 have h:dM [[45,50],[48],[49]]=0:=by unfold dM;rw[if_pos LW,if_neg (by simp)]
 unfold oS;rw[h];rfl
def ayK{n:Int}(h:KU (aU [[45,50],[48],[49]]) (lC [] (-1)) (m5 []) (lC [] 1) (m5 []) 0 n):n=2:=by
 have a:=h.2 rfl;rw[yO] at a;rw[a.get (by decide) D6 KQ (by decide)];exact Z5
def ayL:∀p∈([(-4,0),(0,4)]:List (Rat×Rat)),RL 110079 p.1∧RL 110079 p.2:=fun p b=>by
 have c:RL 110079 ((4:Int):Rat):=uW (aH (cJ (m:=1) (by unfold BN;decide)) (by decide)) (by decide);have d:RL 110079 ((-4:Int):Rat):=uW (aH (cJ (m:=1) (by unfold BN;decide)) (by decide)) (by decide);have a:RL 110079 (0:Rat):=iG (by decide);simp only[List.mem_cons,List.not_mem_nil,or_false] at b;rcases b with rfl|rfl
 ·exact⟨d,a⟩
 ·exact⟨a,c⟩
def DV(w:World)(g:Glob w):Calls prog 7 #[] w fun e w'=>e= .returned (.bool true)∧Below w.1.size w w':=by
 have m:=fun W v g h=>LT [[45,50],[48],[49]] 2 110079 (fun l=>l=[(-4,0),(0,4)]) v W g h (by decide) (by decide) (fun _ _=>by rw[yO,ZF];exact ZG) (by decide) (by decide) (by decide) y7 (ZV (by unfold aJ;decide)) (fun l h=>by rw[h];exact⟨by decide,ayL⟩) (fun w s c p z=>by rw[yO] at p;exact⟨_,ZH p z.1,rfl⟩);have i:=fun W v g h=>KV [[45,50],[48],[49]] v W g h (by decide) (by decide);unfold uM at i;rw[ayJ] at i;rw[ayI] at m;go_enter func7,ntmps7;go_wp2_with fail;have a:Below w.1.size w (w.alloc (.cells #[.string ⟨#[45,50]⟩,.string ⟨#[48]⟩,.string ⟨#[49]⟩] 9)):=(aG _ _).alloc aE _;have q:StrsAt (w.alloc (.cells #[.string ⟨#[45,50]⟩,.string ⟨#[48]⟩,.string ⟨#[49]⟩] 9)) (.slice (some ⟨w.1.size,0,none⟩) 3 3) [[45,50],[48],[49]]:=StrsAt.built w [[45,50],[48],[49]] 9;generalize w.alloc (.cells #[.string ⟨#[45,50]⟩,.string ⟨#[48]⟩,.string ⟨#[49]⟩] 9)=W at *;refine(m _ _ (g.be a) q).mono ?_;rintro E d ⟨I,l,rfl,A, -,b,x⟩;obtain rfl:=A trivial;rw[ayH] at b;replace a:=aC a x;obtain⟨t,u,rfl,H⟩:=b.form;replace b:IvsAt d (.slice t 2 u) [([45,52],[48]),([48],[52])]:=b;clear q m;go_wp2_with fail;have j:Below d.1.size d (d.alloc (.cells #[.string ⟨#[45,50]⟩,.string ⟨#[48]⟩,.string ⟨#[49]⟩] 9)):=(aG _ _).alloc aE _;have r:StrsAt (d.alloc (.cells #[.string ⟨#[45,50]⟩,.string ⟨#[48]⟩,.string ⟨#[49]⟩] 9)) (.slice (some ⟨d.1.size,0,none⟩) 3 3) [[45,50],[48],[49]]:=StrsAt.built d [[45,50],[48],[49]] 9;replace b:=b.be j;replace a:=aC a j;clear j;generalize d.alloc (.cells #[.string ⟨#[45,50]⟩,.string ⟨#[48]⟩,.string ⟨#[49]⟩] 9)=C at *;refine(i _ _ (g.be a) r).mono ?_;rintro F f ⟨n,rfl, -, -,hn,o⟩;obtain rfl:=ayK hn;replace b:=b.be o;replace a:=aC a o;clear r i hn;go_wp2_with fail;have k:Below f.1.size f (f.alloc (.cells #[.string ⟨#[45,52]⟩,.string ⟨#[48]⟩,.string ⟨#[48]⟩,.string ⟨#[52]⟩] 24)):=(aG _ _).alloc aE _;have B:IvsAt (f.alloc (.cells #[.string ⟨#[45,52]⟩,.string ⟨#[48]⟩,.string ⟨#[48]⟩,.string ⟨#[52]⟩] 24)) (.slice (some ⟨f.1.size,0,none⟩) 2 2) [([45,52],[48]),([48],[52])]:=IvsAt.built f [([45,52],[48]),([48],[52])] 24;replace b:=b.be k;replace a:=aC a k;clear k;generalize f.alloc (.cells #[.string ⟨#[45,52]⟩,.string ⟨#[48]⟩,.string ⟨#[48]⟩,.string ⟨#[52]⟩] 24)=D at *;refine(LP _ _ _ _ b B (by decide)).mono ?_;rintro G J ⟨rfl,y⟩;go_wp2;go_ret;exact⟨rfl,aC a y⟩
def M0{P:Program}{f:FuncId}{args:Array Value}{R:Ending->World->Prop}(h:Calls P f args w R):∃e w',R e w':=by
 obtain⟨e,w',b,a, -⟩:=h [];exact⟨e,w',a⟩
def M1{a:List (List UInt8)}(j:Glob w)(hv:StrsAt w v a)(m:a.length<=7)(o:∀l∈a,l.length<=6):∃b s c,dM a=0->Prp (aU a) b∧CnZ b s c:=by
 obtain⟨e,p,n, -, -, -,k, -⟩:=M0 (KV a v w j hv m o);by_cases d:dM a=0
 ·have i:oS a [] []=0:=by unfold oS;rw[d];rfl
  obtain⟨b,s,c,f,g, -⟩:=(k.2 i).2 (by decide);exact⟨b,s,c,fun _=>⟨f,g⟩⟩
 ·exact⟨[],[],[],fun h=>absurd h d⟩
def IvsAt.up{a:World}[u:Up a b]{l:List (List UInt8×List UInt8)}(h:IvsAt a v l):IvsAt b v l:=h.be u.out
def cxG(n:Int)(m:Nat)(w:World)(a: -9223372036854775808<=n)(b:n<=9223372036854775807)(c:0<m)(d:m<=1073741824):
  Calls prog 9 #[.int .i64 n,.int .i64 m] w fun e w'=>∃j:Nat,j<m∧e= .returned (.int .i64 j)∧w=w':=by
 have f:=Int.tmod_lt_of_pos n (show(0:Int)<m by omega);have g: -(m:Int)<n.tmod m:=by
  have:=Int.tmod_lt_of_pos (-n) (show(0:Int)<m by omega);rw[Int.neg_tmod] at this;omega
 have h:((m:Int)==0)=false:=by rw[beq_eq_false_iff_ne];omega
 go_enter func9,ntmps9;go_wp2
 ·have e:n.tmod m+m=(((n.tmod m+m).toNat:Nat):Int):=by omega
  rw[e];go_ret;exact⟨_,by omega,rfl,rfl⟩
 ·have e:n.tmod m=(((n.tmod m).toNat:Nat):Int):=by omega
  rw[e];go_ret;exact⟨_,by omega,rfl,rfl⟩
def bq3{q:Rat}(h:RL 1500000 q):EdT (cW q):=⟨aH (cx1 h) (by decide),fun _=>by rw[SU];exact bU h (by decide)⟩
def bqL(f:List (List UInt8))(a b t:List UInt8)(k:Int)(v:Value)(w:World)(x:Glob w)(hv:StrsAt w v f)(ah:∀l∈f,l.length<=9223372036854775807)(ai:a.length<=9223372036854775807)(aj:b.length<=9223372036854775807)(ak:t.length<=9223372036854775807)(P: -9223372036854775808<=k)(R:k<=9223372036854775807):
  Calls prog 3 #[v,.agg #[.string ⟨a.toArray⟩,.string ⟨b.toArray⟩],.string ⟨t.toArray⟩,.int .i64 k] w fun e w'=>e= .returned (.bool true)∧Below w.1.size w w':=by
 obtain⟨A,y,rfl,hc⟩:=hv.form;have aw:=hv;have ac:=fun W h=>ayE f (.slice A f.length y) W h ah
 have V:∀W v,StrsAt W v [a,b,t]->Calls prog 6 #[.int .i64 8,v] W fun e w'=>e= .returned (.bool (jH 8 [a,b,t]))∧W=w':=fun W v h=>LX 8 [a,b,t] v W h (by decide) (by show 3<=1073741824;decide) (fun l z=>by
  simp only[List.mem_cons,List.not_mem_nil,or_false] at z;rcases z with rfl|rfl|rfl
  ·exact ai
  ·exact aj
  ·exact ak)
 clear ah ai aj ak;obtain⟨o,ae,d,X⟩:=bI w [.string ⟨a.toArray⟩,.string ⟨b.toArray⟩] 24;have r:=X.k2;go_enter func3,ntmps3;go_wp2_with fail;(try rw[ae]);(try clear ae);refine(ac _ (hv.be d)).mono ?_;rintro e1 w1 ⟨rfl,rfl⟩;cases hs:(decide (f.length<=7)&&jH 6 f) with
 |false=>
  clear hs ac V P R;go_wp2_with fail;refine(DV _ (x.be d)).mono ?_;rintro e9 w9 ⟨rfl,I⟩;go_wp2;go_ret;exact⟨rfl,aC d I⟩
 |true=>
  rw[az7,iQ] at hs;obtain⟨J,U⟩:=hs;have B:∀l∈f,l.length<=6:=fun l z=>by
   unfold jH at U;exact of_decide_eq_true (List.all_eq_true.1 U l z)
  obtain⟨w0,s,c,G⟩:=M1 x hv J B;have af:∀q∈aU f,RL 1 q:=pI (fun l z=>aH (B l z) (by decide));obtain⟨n,hn,am⟩:=ax2 320 (ax3 (bU (L4 af (by decide)) (show 4*1+1<=5 by decide)));obtain⟨l,i1,i2,i3⟩:∃l,(dM f=0->yF (aU f) n l)∧(dM f≠0->l=[])∧l.length<=8∧∀p∈l,RL 1500000 p.1∧RL 1500000 p.2:=by
   by_cases D:dM f=0
   ·obtain⟨l, -,h⟩:=ax4 (G D).1 (G D).2 (n:=n) (by omega);obtain⟨_,_,_,_,_,_,h1,h2⟩:=id h;exact⟨l,fun _=>h,fun k=>absurd D k,h2,h1⟩
   ·exact⟨[],fun h=>absurd h D,fun _=>rfl,dC _,fun p N=>by cases N⟩
  have ad:=fun W h=>MB f n l i1 i2 (fun _=>am) (by omega) (.slice A f.length y) W h J B;have H:∀g i,EdT g->EdT i->t.length<=18->∃(E:Int) (p:List UInt8×List UInt8),(∀W,Glob W->StrsAt W (.slice A f.length y) f->Calls prog 10 #[.slice A f.length y,.agg #[.string ⟨g.toArray⟩,.string ⟨i.toArray⟩],.string ⟨t.toArray⟩] W (bxU W E p))∧∀W,StrsAt W (.slice A f.length y) f->Calls prog 11 #[.slice A f.length y,.agg #[.string ⟨g.toArray⟩,.string ⟨i.toArray⟩],.string ⟨t.toArray⟩] W (bxU W E p):=fun g i K L M=>by
   obtain⟨m,Q,E,p,h⟩:=bqS f s c K L M;exact⟨E,p,fun W x hv=>bqT f w0 s c g i t m Q E p G h _ W x hv J B K L M,fun W hv=>bqP f w0 s c g i t m Q E p G h _ W hv J B K L M⟩
  clear ac U B G af am i1 i2;go_wp2_with fail;have ag:Below o.1.size o (o.alloc (.cells #[.string ⟨a.toArray⟩,.string ⟨b.toArray⟩,.string ⟨t.toArray⟩] 9)):=(aG _ _).alloc aE _;have x1:StrsAt (o.alloc (.cells #[.string ⟨a.toArray⟩,.string ⟨b.toArray⟩,.string ⟨t.toArray⟩] 9)) (.slice (some ⟨o.1.size,0,none⟩) 3 3) [a,b,t]:=StrsAt.built o [a,b,t] 9;replace d:=aC d ag;replace X:=X.be ag;replace hv:=hv.be d;generalize o.alloc (.cells #[.string ⟨a.toArray⟩,.string ⟨b.toArray⟩,.string ⟨t.toArray⟩] 9)=W at *;clear r;have r:=X.k2;refine(V _ _ x1).mono ?_;rintro e2 w2 ⟨rfl,rfl⟩;clear V x1;cases h8:jH 8 [a,b,t] with
  |false=>
   clear h8 ad H P R;go_wp2_with fail;refine(DV _ (x.be d)).mono ?_;rintro e9 w9 ⟨rfl,I⟩;go_wp2;go_ret;exact⟨rfl,aC d I⟩
  |true=>
   have ao:a.length<=8∧b.length<=8∧t.length<=8:=by
    unfold jH at h8;simpa using h8
   obtain⟨K,L,M⟩:=ao;replace H:=fun g i h h'=>H g i h h' (by omega);have ea:EdT a:=EdT.short (by omega);have eb:EdT b:=EdT.short (by omega);clear h8 K L M J;generalize dM f=F at *;go_wp2_with fail;refine(ad _ hv).mono ?_;rintro e3 w3 ⟨v3,rfl,u,O⟩;obtain⟨A3,c3,rfl, -⟩:=u.form;rw[cH] at u⊢;replace hv:=hv.be O;replace X:=X.be O;replace d:=aC d O;clear r ad;have r:=X.g2;have av:(F==0)=false∨F=0∧(l.length:Int)=0∨F=0∧(0:Int)<(l.length:Int)∧k.tmod 3=0∨F=0∧(0:Int)<(l.length:Int)∧(k.tmod 3==0)=false:=by
    by_cases hF:F=0
    ·by_cases D:l.length=0
     ·exact .inr (.inl ⟨hF,by omega⟩)
     ·by_cases u:k.tmod 3=0
      ·exact .inr (.inr (.inl ⟨hF,by omega,u⟩))
      ·exact .inr (.inr (.inr ⟨hF,by omega,beq_eq_false_iff_ne.2 u⟩))
    ·exact .inl (beq_eq_false_iff_ne.2 hF)
   rcases av with hF|⟨rfl,hl0⟩|⟨rfl,hl1,hk3⟩|⟨rfl,hl1,hk4⟩;rotate_left 3
   focus (
    have al:=fun W=>cxG k l.length W P R (by omega) (by omega);go_wp2_with fail;refine(al _).mono ?_;rintro e4 w4 ⟨j,hj,rfl,rfl⟩;have ay:(0:Int)<=(j:Int):=by omega
    have az:(j:Int)<(l.length:Int):=by omega
    have N:l[j]? =some l[j]:=aR hj;have an:(l.map kQ)[j]? =some (kQ l[j]):=by rw[iK,N];rfl
    obtain⟨bq,rfl,ax,u0,u1⟩:=u.at_ an;obtain⟨r1,r2⟩:=i3.2 _ (aq0 hj);replace ea:EdT (kQ l[j]).1:=bq3 r1;replace eb:EdT (kQ l[j]).2:=bq3 r2;generalize l[j]=q at *;clear N an al hk4 r1 r2;go_wp2_with fail;obtain⟨W6,C,X,d,hk,ff⟩:=X.put2 d (by omega) (.string ⟨(kQ q).1.toArray⟩) (.string ⟨(kQ q).2.toArray⟩) rfl rfl;replace hv:=aw.be d;rw[C];clear C;have r:=X.g2;go_wp2_with fail
   )
   rotate_left
   focus (
    go_wp2_with fail
   )
   rotate_left
   focus (
    rw[show l.length=0 by omega] at u⊢;go_wp2_with fail
   )
   rotate_left
   focus (
    go_wp2_with fail
   )
   all_goals (
    obtain⟨E,p,S,T⟩:=H _ _ ea eb;unfold bxU at S T;clear H;refine(S _ (x.be d) hv).mono ?_;rintro e5 w5 ⟨rfl,ap⟩;obtain⟨w6,C,aq,Y⟩:=bI w5 [.string ⟨p.1.toArray⟩,.string ⟨p.2.toArray⟩] 24;have:=St.mk ap;have:=St.mk aq;replace X:=X.up (b:=w6);replace hv:=StrsAt.up (b:=w6) hv;replace d:=bJ (b:=w6) d;have r:=aa X.k2 Y.k2;clear S;go_wp2_with fail;(try rw[C]);(try clear C);refine(T _ hv).mono ?_;rintro e7 w7 ⟨rfl,ar⟩;obtain⟨w8,e8,au,Z⟩:=bI w7 [.string ⟨p.1.toArray⟩,.string ⟨p.2.toArray⟩] 24;have:=St.mk ar;have:=St.mk au;replace Y:=Y.up (b:=w8);replace d:=bJ (b:=w8) d;have cY:=aa Y.k2 Z.k2;clear T r;generalize (⟨p.1.toArray⟩:ByteArray)=t1 at *;generalize (⟨p.2.toArray⟩:ByteArray)=t2 at *;go_wp2_with fail;(try rw[e8]);(try clear e8);refine(DV _ (x.be d)).mono ?_;rintro e9 w9 ⟨rfl,I⟩;go_wp2;go_ret;exact⟨rfl,aC d I⟩
   )
end Go.Proofs.YtpjpfjephpgcbaaGreatDoor
namespace Go.Proofs.YtpjpfjephpgcbaaGreatDoor
open Go.ChangeShapes Go.WideShapes Go.ChangeAt Go.WideMaps Go.WideElems Go.RowKit Go.Proofs.Tryz
variable{W e:World}
def own:ownKnob Tryz.prog.godebug=none:=by kernel_rfl
def LZ:laidOutB prog=true:=by kernel_rfl
def ayO:Tryz.prog.cellsOf 9=1:=by kernel_rfl
def ayP:Tryz.prog.globalNamed "math/bits.deBruijn64tab" =some 1:=by kernel_rfl
def ayQ:Tryz.prog.globalNamed "internal/strconv.uint64pow10" =some 0:=by kernel_rfl
def ayR:(Tryz.prog.globals[1]?).map (·.type)=some 259:=by kernel_rfl
def ayS:(Tryz.prog.globals[0]?).map (·.type)=some 250:=by kernel_rfl
def ayT:Tryz.prog.cellsOf 259=64:=by kernel_rfl
def ayU:Tryz.prog.cellsOf 250=20:=by kernel_rfl
def ayV:Tryz.prog.cellsOf 5=1:=by kernel_rfl
def ayW:Tryz.prog.cellsOf 191=1:=by kernel_rfl
def uX:List (String×DataW Unit):=[("math/bits.deBruijn32tab",Rows.laid_math_bits_deBruijn32tab),("math/bits.deBruijn64tab",Rows.laid_math_bits_deBruijn64tab),("internal/strconv.uint64pow10",Rows.laid_internal_strconv_uint64pow10)]
def ayX(os:Os)(args:Array Value):laidMetH prog uX ((World.doorLaid prog 400 os).forCall (fun _ _=>0) ⟨#[],args,[]⟩).memory:=
 laidMetH_of_parts3 (fuel:=8) (laidMet_of_run' 8 (by kernel_rfl) (by kernel_rfl)) (by kernel_rfl) (by kernel_rfl)
def ayY:(Rows.laid_math_bits_deBruijn64tab:DataW Unit)=Lib.tabData .u8 (Lib.deBruijn64tab.map (fun z:Nat=>(z:Int))):=by rfl
def ayZ:(Rows.laid_internal_strconv_uint64pow10:DataW Unit)=Lib.tabData .u64 Lib.pow10Tab:=by rfl
def az0(h:laidMetH prog uX W):Glob W:=by
 rw[MakeChecks.laidMetH_plain _ _ _ (by kernel_rfl)] at h;obtain⟨C,⟨t,G,n,q,A,D,x,y,z,w,⟨u,H,o,r,B,E,c,i,l,a,⟨v,I,p,s,p2,F,f,k,m,b,_,_⟩,_⟩,_⟩,_,_⟩:=h;obtain rfl:=Option.some.inj (ayP.symm.trans c);obtain rfl:=Option.some.inj (ayQ.symm.trans f);obtain rfl:=Option.some.inj (ayR.symm.trans i);obtain rfl:=Option.some.inj (ayS.symm.trans k);rw[ayY] at a;rw[ayZ] at b;have d:=Lib.cells_of_tab underlying259 underlying5 ayV ayT a;have e:=Lib.cells_of_tab underlying250 underlying191 ayW ayU b;refine⟨fun j g=> ?_,?_⟩
 ·have:=World.var?_cell c l j;rw[this,<-Array.getElem?_toList,d];simp[List.getElem?_map,List.getElem?_eq_getElem g]
 ·unfold Lib.TabIs;rw[m,<-e]
def az1{H:Type}{enc:TypeId×Value->H}{p:Option Addr}{c k fuel:Nat}{x:DataW H×List MemPlace}
  (w:DataW.trod enc prog W 0 (fun _=>true) true fuel 22 [.slice p c k]=some x):
  ∃t:List (List UInt8),StrsAt W (.slice p c k) t∧∀l∈t,l.length<=9223372036854775807:=by
 rcases open_strings underlying22 underlying9 ayO w with ⟨d,C⟩|⟨a,G,E,o,d,_,y,F,D,C,m,B⟩
 ·simp at d;obtain⟨rfl,rfl,rfl⟩:=d;exact⟨[],StrsAt.nil _ _ _,fun l h=>by cases h⟩
 ·simp at d;obtain⟨rfl,rfl,rfl⟩:=d;simp only[if_true] at D;obtain⟨b,f,u⟩:=a;have n:((o.take c).map (·.data.toList)).length=c:=by simp;omega
  refine⟨(o.take c).map (·.data.toList),⟨some ⟨b,f,u⟩,k,by rw[n],by rw[n];exact y,?_⟩,fun l h=> ?_⟩
  ·rcases Nat.eq_zero_or_pos c with q|q
   ·left;rw[q];rfl
   ·right;have A:u=none:=by simpa [Addr.add] using World.cell?_spot (m 0 (by omega))
    subst A;refine⟨b,f,rfl,?_,fun i l j=> ?_⟩
    ·have g:=m 0 (by omega);exact block_lt_of_cell (a:=⟨b,f,none⟩) (by simpa [Addr.add] using g)
    ·have r:=(List.getElem?_eq_some_iff.1 j).1;rw[n] at r;have g:=m i (by omega);have v:(⟨b,f,none⟩:Addr).add i=⟨b,f+i,none⟩:=by unfold Addr.add;split<;>simp_all
     rw[v] at g;rw[g];rw[List.getElem?_map,List.getElem?_take_of_lt r,List.getElem?_eq_getElem (by omega)] at j;simp only[Option.map_some,Option.some.injEq] at j;subst j;simp[List.getD,List.getElem?_eq_getElem (show i<o.length by omega)]
  ·obtain⟨s,z,rfl⟩:=List.mem_map.1 h;have:=B s (List.mem_of_mem_take z);unfold maxLen at this;have e:s.data.toList.length=s.size:=Array.length_toList;rw[e];exact this
def az2{H:Type}{enc:TypeId×Value->H}{P:Program}{f:Func}{s:ChangeSpec}{args:Array Value}{y:TypeId}{d:List (DataW H)}{a:List MemPlace}
  (g:DataW.Whole enc P f.params.toList s.vars false W args.toList d [] a)(hv:s.vars=[])(q:f.resultTypes= #[y])(v:P.underlying y=some .bool)
  (i:s.fn H d={ results:=[.lit (.bool true)],args:=d })
  (A:∀sp:Nat->Bool,(∀p∈a,sp p.block=true)->DataW.TrodAll enc P e 0 sp true f.params.toList args.toList d a)(l:Below W.1.size W e):
  s.post enc P f false true false false W args (.bool true) e:=by
 have o:∀p∈a,p.block<W.1.size:=fun p c=>g.lt p c;have C:∀p∈a,(fun b=>decide (b<W.1.size)) p.block=true:=fun p c=>by simpa using o p c
 have u:∀(b:Nat) (sp:Nat->Bool) (m:Bool),DataW.TrodAll enc P e b sp m f.resultTypes.toList ((Value.bool true).resultList f.resultTypes.size) (s.fn H (d++[])).results []:=fun b sp m=>by
  rw[List.append_nil,i,q];exact trodAll_mk1 (shut_bool v _)
 have k:∀sp:Nat->Bool,(∀p∈a,sp p.block=true)->DataW.TrodAll enc P e 0 sp true f.params.toList args.toList (s.fn H (d++[])).args a:=fun sp h=>by
  rw[List.append_nil,i];exact A sp h
 have w:∀sp:Nat->Bool,DataW.TrodVars enc P e sp s.vars (s.fn H (d++[])).vars []:=fun sp=>by
  rw[List.append_nil,i,hv];exact rfl
 refine⟨d,[],a,[],a,[],g,u _ _ _,k _ C,w _,World.keptBut_mono (fun p c=>⟨c,.inr (.inl c)⟩) (l.frame (·∈a)),fun _=> ?_⟩;obtain⟨_,_,_,_,_,E,hn⟩:=g;refine⟨fun j t r B D=> ?_,_,_,([]++a)++[],⟨[]++a,[],trodAll_append (k _ (fun _ _=>rfl)) (u _ _ _),w _,rfl,fun b x c=> ?_,fun z=>by cases z⟩,fun p c _=>by simpa using c⟩
 ·exact ok_one (by rw[q]) rfl (okWide_bool_mk v true) j t r B D
 ·have n:MemPlace.cell b x∈a:=by simpa using c
  rw[l.frozen (o _ n)];exact E b x n
