/- Laws. -/
import Derived.Test.YtgjeoghojliocaaGreatDoorRows
import Derived.Test.YtgjeoghojliocaaGreatDoorE29
import Derived.Test.YtgjeoghojliocaaGreatDoorE30
import Derived.ProofKit
import Derived.LaidMore
import Derived.OpenShut
import Derived.Stop.Joined
import Derived.SliceStrings
import Derived.Lib.LaidTab
import Derived.Carry
set_option linter.all false
set_option maxHeartbeats 8000000
set_option maxRecDepth 99999
namespace Go.Proofs.YtgjeoghojliocaaGreatDoor
open Go.RowKit Sos Go.Proofs.Tryz
def StrsAt.built(w:World)(a:List (List UInt8))(t:TypeId):StrsAt (w.alloc (.cells (a.map (fun l=>Value.string ⟨l.toArray⟩)).toArray t)) (.slice (some ⟨w.heap.size,0,none⟩) a.length a.length) a:=by
 refine⟨_,_,rfl,aE,.inr ⟨w.heap.size,0,rfl,by simp,fun i l b=> ?_⟩⟩;have B:=Bx.new w (a.map (fun l=>Value.string ⟨l.toArray⟩)) t;rw[bA];exact B.cell i (by rw[iK,b];rfl)
def ayE(a:List (List UInt8))(v:Value)(w:World)(hv:StrsAt w v a)(h:∀l∈a,l.length<=9223372036854775807):
  Calls prog 4 #[v] w fun e w'=>e= .returned (.bool (decide (a.length<=7)&&jH 6 a))∧w=w':=by
 obtain⟨A,c,rfl,k⟩:=hv.form;by_cases g:a.length<=7
 ·have i:(a.length:Int)<=7:=by omega
  have f:Calls prog 5 #[.int .i64 6,.slice A a.length c] w fun e w'=>e= .returned (.bool (jH 6 a))∧w=w':=LX 6 a (.slice A a.length c) w hv (by decide) (by omega) h;obtain⟨S,d⟩:∃S,jH 6 a=S:=⟨_,rfl⟩;have b:Hid ((decide (a.length<=7)&&jH 6 a)=S):=by unfold Hid;rw[d];simp[g]
  rw[d] at f;clear d;go_enter func4,ntmps4;go_wp2_with fail;refine f.mono ?_;rintro j m ⟨rfl,rfl⟩;go_wp2;go_ret;rw[b.out];exact⟨rfl,rfl⟩
 ·have i:¬(a.length:Int)<=7:=by omega
  have b:Hid ((decide (a.length<=7)&&jH 6 a)=false):=by unfold Hid;simp[g]
  go_enter func4,ntmps4;go_wp2;go_ret
  first
   |exact⟨rfl,rfl⟩
   |(rw[b.out];exact⟨rfl,rfl⟩)
def yO:aU [[45,50],[48],[49]]=[-2,0,1]:=by
 show[(bD [45,50]).getD 0,(bD [48]).getD 0,(bD [49]).getD 0]=_
 rw[ayN,LY,ayM];rfl
def ayF:bD [45,52]=some (-4):=by decide
def ayG:bD [52]=some 4:=by decide
def ayH:([(-4,0),(0,4)]:List (Rat×Rat)).map kQ=[([45,52],[48]),([48],[52])]:=by
 show[(cW (-4),cW 0),(cW 0,cW 4)]=_
 rw[tL ayF,tL LY,tL ayG]
def LW:vl [[45,50],[48],[49]]=true:=by
 unfold vl;rw[iQ,yO];exact⟨by decide,by decide,by decide⟩
def ayI:dM [[45,50],[48],[49]]=0:=by unfold dM;rw[if_pos LW,if_neg (by simp)]
def ayJ:oS [[45,50],[48],[49]] [] []=0:=by
 have h:dM [[45,50],[48],[49]]=0:=by unfold dM;rw[if_pos LW,if_neg (by simp)]
 unfold oS;rw[h];rfl
def ayK{n:Int}(h:KU (aU [[45,50],[48],[49]]) (lC [] (-1)) (m5 []) (lC [] 1) (m5 []) 0 n):n=2:=by
 have a:=h.2 rfl;rw[yO] at a;rw[a.get (by decide) D6 KQ (by decide)];exact Z5
def ayL:∀p∈([(-4,0),(0,4)]:List (Rat×Rat)),RL 35080695 p.1∧RL 35080695 p.2:=fun p b=>by
 have c:RL 35080695 ((4:Int):Rat):=uW (aH (cJ (m:=1) (by unfold BN;decide)) (by decide)) (by decide);have d:RL 35080695 ((-4:Int):Rat):=uW (aH (cJ (m:=1) (by unfold BN;decide)) (by decide)) (by decide);have a:RL 35080695 (0:Rat):=iG (by decide);simp only[List.mem_cons,List.not_mem_nil,or_false] at b;rcases b with rfl|rfl
 ·exact⟨d,a⟩
 ·exact⟨a,c⟩
def DV(w:World)(g:Glob w):Calls prog 6 #[] w fun e w'=>e= .returned (.bool true)∧Below w.heap.size w w':=by
 have m:=fun W v g h=>LT [[45,50],[48],[49]] 2 35080695 (fun l=>l=[(-4,0),(0,4)]) v W g h (by decide) (by decide) (fun _ _=>by rw[yO,ZF];exact ZG) (by decide) (by decide) (by decide) y7 (ZV (by unfold aJ;decide)) (fun l h=>by rw[h];exact⟨by decide,ayL⟩) (fun w s c p z=>by rw[yO] at p;exact⟨_,ZH p z.1,rfl⟩);have i:=fun W v g h=>KV [[45,50],[48],[49]] v W g h (by decide) (by decide);unfold uM at i;rw[ayJ] at i;rw[ayI] at m;go_enter func6,ntmps6;go_wp2_with fail;have a:Below w.heap.size w (w.alloc (.cells #[.string ⟨#[45,50]⟩,.string ⟨#[48]⟩,.string ⟨#[49]⟩] 9)):=(aG _ _).alloc aE _;have q:StrsAt (w.alloc (.cells #[.string ⟨#[45,50]⟩,.string ⟨#[48]⟩,.string ⟨#[49]⟩] 9)) (.slice (some ⟨w.heap.size,0,none⟩) 3 3) [[45,50],[48],[49]]:=StrsAt.built w [[45,50],[48],[49]] 9;generalize w.alloc (.cells #[.string ⟨#[45,50]⟩,.string ⟨#[48]⟩,.string ⟨#[49]⟩] 9)=W at *;refine(m _ _ (g.be a) q).mono ?_;rintro E d ⟨I,l,rfl,A, -,b,x⟩;obtain rfl:=A trivial;rw[ayH] at b;replace a:=aC a x;obtain⟨t,u,rfl,H⟩:=b.form;replace b:IvsAt d (.slice t 2 u) [([45,52],[48]),([48],[52])]:=b;clear q m;go_wp2_with fail;have j:Below d.heap.size d (d.alloc (.cells #[.string ⟨#[45,50]⟩,.string ⟨#[48]⟩,.string ⟨#[49]⟩] 9)):=(aG _ _).alloc aE _;have r:StrsAt (d.alloc (.cells #[.string ⟨#[45,50]⟩,.string ⟨#[48]⟩,.string ⟨#[49]⟩] 9)) (.slice (some ⟨d.heap.size,0,none⟩) 3 3) [[45,50],[48],[49]]:=StrsAt.built d [[45,50],[48],[49]] 9;replace b:=b.be j;replace a:=aC a j;clear j;generalize d.alloc (.cells #[.string ⟨#[45,50]⟩,.string ⟨#[48]⟩,.string ⟨#[49]⟩] 9)=C at *;refine(i _ _ (g.be a) r).mono ?_;rintro F f ⟨n,rfl, -, -,hn,o⟩;obtain rfl:=ayK hn;replace b:=b.be o;replace a:=aC a o;clear r i hn;go_wp2_with fail;have k:Below f.heap.size f (f.alloc (.cells #[.string ⟨#[45,52]⟩,.string ⟨#[48]⟩,.string ⟨#[48]⟩,.string ⟨#[52]⟩] 24)):=(aG _ _).alloc aE _;have B:IvsAt (f.alloc (.cells #[.string ⟨#[45,52]⟩,.string ⟨#[48]⟩,.string ⟨#[48]⟩,.string ⟨#[52]⟩] 24)) (.slice (some ⟨f.heap.size,0,none⟩) 2 2) [([45,52],[48]),([48],[52])]:=IvsAt.built f [([45,52],[48]),([48],[52])] 24;replace b:=b.be k;replace a:=aC a k;clear k;generalize f.alloc (.cells #[.string ⟨#[45,52]⟩,.string ⟨#[48]⟩,.string ⟨#[48]⟩,.string ⟨#[52]⟩] 24)=D at *;refine(LP _ _ _ _ b B (by decide)).mono ?_;rintro G J ⟨rfl,y⟩;go_wp2;go_ret;exact⟨rfl,aC a y⟩
def M0{P:Program}{f:FuncId}{args:Array Value}{w:World}{R:Ending->World->Prop}(h:Calls P f args w R):∃e w',R e w':=by
 obtain⟨e,w',b,a, -⟩:=h [];exact⟨e,w',a⟩
def M1{a:List (List UInt8)}{v:Value}{w:World}(j:Glob w)(hv:StrsAt w v a)(m:a.length<=7)(o:∀l∈a,l.length<=6):∃b s c,dM a=0->Prp (aU a) b∧kL b s c:=by
 obtain⟨e,p,n, -, -, -,k, -⟩:=M0 (KV a v w j hv m o);by_cases d:dM a=0
 ·have i:oS a [] []=0:=by unfold oS;rw[d];rfl
  obtain⟨b,s,c,f,g, -⟩:=(k.2 i).2 (by decide);exact⟨b,s,c,fun _=>⟨f,g⟩⟩
 ·exact⟨[],[],[],fun h=>absurd h d⟩
def IvsAt.up{a b:World}[u:Up a b]{v:Value}{l:List (List UInt8×List UInt8)}(h:IvsAt a v l):IvsAt b v l:=h.be u.out
def M3(f:List (List UInt8))(a b:List UInt8)(v:Value)(w:World)(g:Glob w)(hv:StrsAt w v f)(ag:∀l∈f,l.length<=9223372036854775807)(ah:a.length<=9223372036854775807)(ai:b.length<=9223372036854775807):
  Calls prog 3 #[v,.agg #[.string ⟨a.toArray⟩,.string ⟨b.toArray⟩]] w fun e w'=>e= .returned (.bool true)∧Below w.heap.size w w':=by
 obtain⟨A,B,rfl,hc⟩:=hv.form;have Y:=fun W h=>ayE f (.slice A f.length B) W h ag
 have V:∀W v,StrsAt W v [a,b]->Calls prog 5 #[.int .i64 12,v] W fun e w'=>e= .returned (.bool (jH 12 [a,b]))∧W=w':=fun W v h=>LX 12 [a,b] v W h (by decide) (by show 2<=1073741824;decide) (fun l t=>by
  simp only[List.mem_cons,List.not_mem_nil,or_false] at t;rcases t with rfl|rfl
  ·exact ah
  ·exact ai)
 clear ag ah ai;obtain⟨i,ac,d,X⟩:=bI w [.string ⟨a.toArray⟩,.string ⟨b.toArray⟩] 24;have H:=X.k2;go_enter func3,ntmps3;go_wp2_with fail;(try rw[ac]);(try clear ac);refine(Y _ (hv.be d)).mono ?_;rintro e1 w1 ⟨rfl,rfl⟩;cases hs:(decide (f.length<=7)&&jH 6 f) with
 |false=>
  clear hs Y V;go_wp2_with fail;refine(DV _ (g.be d)).mono ?_;rintro e9 w9 ⟨rfl,R⟩;go_wp2;go_ret;exact⟨rfl,aC d R⟩
 |true=>
  rw[Bool.and_eq_true,iQ] at hs;obtain⟨z,U⟩:=hs;have k:∀l∈f,l.length<=6:=fun l t=>by
   unfold jH at U;exact of_decide_eq_true (List.all_eq_true.1 U l t)
  obtain⟨w0,s,c,P⟩:=M1 g hv z k;have ae:∀q∈aU f,RL 1 q:=pI (fun l t=>aH (k l t) (by decide));obtain⟨n,hn,T⟩:=ax2 320 (ax3 (bU (L4 ae (by decide)) (show 4*1+1<=5 by decide)));have S:=fun W g h=>LT f n 1000000000 (yF (aU f) n) (.slice A f.length B) W g h z k (fun _ _=>T) (by omega) (by decide) (by decide) (fun _ _=>True) (fun x y _ kx ky W u v g h N=>UW x y u v W g h N 1000000000 kx ky (by unfold aJ;decide)) (fun l h=>by obtain⟨_,_,_,_,_,_,C,I⟩:=h;exact⟨by omega,C⟩) (fun w s c hw hc=>ax4 hw hc (by omega));have G:=fun l C I W h=>MB f n l C I (fun _=>T) (by omega) (.slice A f.length B) W h z k;have K:=fun W g h m o=>ayA f w0 s c a b P (.slice A f.length B) W g h z k m o;have L:=fun W h m o=>M6 f w0 s c a b P (.slice A f.length B) W h z k m o;have F:∀l,(dM f=0->yF (aU f) n l)->(dM f≠0->l=[])->(l.map kQ).length<=1073741824:=fun l C I=>by
   rw[cH];by_cases h0:dM f=0
   ·obtain⟨_,_,_,_,_,_,_,r⟩:=C h0;omega
   ·rw[I h0];decide
  clear Y U k P ae T;go_wp2_with fail;have af:Below i.heap.size i (i.alloc (.cells #[.string ⟨a.toArray⟩,.string ⟨b.toArray⟩] 9)):=(aG _ _).alloc aE _;have x1:StrsAt (i.alloc (.cells #[.string ⟨a.toArray⟩,.string ⟨b.toArray⟩] 9)) (.slice (some ⟨i.heap.size,0,none⟩) 2 2) [a,b]:=StrsAt.built i [a,b] 9;replace d:=aC d af;replace X:=X.be af;replace hv:=hv.be d;generalize i.alloc (.cells #[.string ⟨a.toArray⟩,.string ⟨b.toArray⟩] 9)=W at *;clear H;have H:=X.k2;refine(V _ _ x1).mono ?_;rintro e2 w2 ⟨rfl,rfl⟩;clear V x1;cases h8:jH 12 [a,b] with
  |false=>
   clear h8 S G K L F;go_wp2_with fail;refine(DV _ (g.be d)).mono ?_;rintro e9 w9 ⟨rfl,R⟩;go_wp2;go_ret;exact⟨rfl,aC d R⟩
  |true=>
   have aj:a.length<=12∧b.length<=12:=by
    unfold jH at h8;simpa using h8
   obtain⟨m,o⟩:=aj;replace K:=fun W g h=>K W g h m o;replace L:=fun W h=>L W h m o;clear h8 m o z;generalize qY f s c a b=Z at *;generalize dM f=E at *;go_wp2_with fail;refine(S _ (g.be d) hv).mono ?_;rintro e3 w3 ⟨v3,l,rfl,i1,i2,r,Q⟩;replace G:=G l i1 i2;replace F:=F l i1 i2;clear S i1 i2;obtain⟨A3,c3,rfl, -⟩:=r.form;rw[cH] at r F⊢;replace hv:=hv.be Q;replace X:=X.be Q;replace d:=aC d Q;replace H:=X.k2;go_wp2_with fail;refine(G _ hv).mono ?_;rintro e4 w4 ⟨v4,rfl,O,D⟩;clear G;obtain⟨A4,c4,rfl, -⟩:=O.form;rw[cH] at O⊢;have:=St.mk D;replace hv:=hv.be D;replace X:=X.be D;replace r:=r.be D;replace d:=aC d D;replace H:=X.k2;have ak:=fun W h N=>LP (l.map kQ) (.slice A3 l.length c3) (.slice A4 l.length c4) W h N (by rw[cH];exact F);generalize (⟨a.toArray⟩:ByteArray)=ta at *;generalize (⟨b.toArray⟩:ByteArray)=tb at *;go_wp2_with fail;have ad:=g.be d
   go_region_held3 (fun w'=>C2 w' w.heap.size (.string ta) (.string tb)) (with_reducible exact X.up.k2)
    (first
     |(go_at_call 9;refine(ak _ r.up O.up).mono ?_;rintro M p ⟨rfl,j⟩;have:=St.mk j;have J:=bJ (b:=p) d)
     |(go_at_call 10;refine(K _ ad.up hv.up).mono ?_;rintro M p ⟨rfl,j⟩;have:=St.mk j;have J:=bJ (b:=p) d)
     |(go_at_call 11;refine(L _ hv.up).mono ?_;rintro M p ⟨rfl,j⟩;have:=St.mk j;have J:=bJ (b:=p) d)
     |(go_at_call 6;refine(DV _ ad.up).mono ?_;rintro M p ⟨rfl,j⟩;have:=St.mk j;have J:=bJ (b:=p) d))
   all_goals (
    go_wp2;go_ret;exact⟨rfl,J⟩)
end Go.Proofs.YtgjeoghojliocaaGreatDoor
namespace Go.Proofs.YtgjeoghojliocaaGreatDoor
open Go.ChangeShapes Go.WideShapes Go.ChangeAt Go.WideMaps Go.WideElems Go.RowKit Go.Proofs.Tryz
def own:ownKnob Tryz.prog.godebug=none:=by kernel_rfl
def LZ:laidOutB prog=true:=by kernel_rfl
def ayO:Tryz.prog.cellsOf 9=1:=by kernel_rfl
def ayP:Tryz.prog.globalNamed "math/bits.deBruijn64tab" =some 0:=by kernel_rfl
def ayQ:Tryz.prog.globalNamed "internal/strconv.uint64pow10" =some 3:=by kernel_rfl
def ayR:(Tryz.prog.globals[0]?).map (·.type)=some 229:=by kernel_rfl
def ayS:(Tryz.prog.globals[3]?).map (·.type)=some 234:=by kernel_rfl
def ayT:Tryz.prog.cellsOf 229=64:=by kernel_rfl
def ayU:Tryz.prog.cellsOf 234=20:=by kernel_rfl
def ayV:Tryz.prog.cellsOf 5=1:=by kernel_rfl
def ayW:Tryz.prog.cellsOf 128=1:=by kernel_rfl
def uX:List (String×DataW Unit):=[("math/bits.deBruijn32tab",Rows.laid_math_bits_deBruijn32tab),("math/bits.deBruijn64tab",Rows.laid_math_bits_deBruijn64tab),("internal/strconv.uint64pow10",Rows.laid_internal_strconv_uint64pow10)]
def ayX(os:Os)(args:Array Value):laidMetH prog uX ((World.doorLaid prog 400 os).forCall (fun _ _=>0) ⟨#[],args,[]⟩).memory:=
 laidMetH_of_parts3 (fuel:=8) (laidMet_of_run' 8 (by kernel_rfl) (by kernel_rfl)) (by kernel_rfl) (by kernel_rfl)
def ayY:(Rows.laid_math_bits_deBruijn64tab:DataW Unit)=Lib.tabData .u8 (Lib.deBruijn64tab.map (fun z:Nat=>(z:Int))):=by rfl
def ayZ:(Rows.laid_internal_strconv_uint64pow10:DataW Unit)=Lib.tabData .u64 Lib.pow10Tab:=by rfl
def az0{W:World}(h:laidMetH prog uX W):Glob W:=by
 rw[MakeChecks.laidMetH_plain _ _ _ (by kernel_rfl)] at h;obtain⟨C,⟨t,G,n,q,A,D,x,y,z,w,⟨u,H,o,r,B,E,c,i,l,a,⟨v,I,p,s,p2,F,f,k,m,b,_,_⟩,_⟩,_⟩,_,_⟩:=h;obtain rfl:=Option.some.inj (ayP.symm.trans c);obtain rfl:=Option.some.inj (ayQ.symm.trans f);obtain rfl:=Option.some.inj (ayR.symm.trans i);obtain rfl:=Option.some.inj (ayS.symm.trans k);rw[ayY] at a;rw[ayZ] at b;have d:=Lib.cells_of_tab underlying229 underlying5 ayV ayT a;have e:=Lib.cells_of_tab underlying234 underlying128 ayW ayU b;refine⟨fun j g=> ?_,?_⟩
 ·have:=World.var?_cell c l j;rw[this,<-Array.getElem?_toList,d];simp[List.getElem?_map,List.getElem?_eq_getElem g]
 ·unfold Lib.TabIs;rw[m,<-e]
def az1{H:Type}{enc:TypeId×Value->H}{W:World}{p:Option Addr}{c k fuel:Nat}{x:DataW H×List MemPlace}
  (w:DataW.trod enc prog W 0 (fun _=>true) true fuel 22 [.slice p c k]=some x):
  ∃t:List (List UInt8),StrsAt W (.slice p c k) t∧∀l∈t,l.length<=9223372036854775807:=by
 rcases open_strings underlying22 underlying9 ayO w with ⟨d,C⟩|⟨a,G,E,o,d,_,y,F,D,C,m,B⟩
 ·simp at d;obtain⟨rfl,rfl,rfl⟩:=d;exact⟨[],StrsAt.nil _ _ _,fun l h=>by cases h⟩
 ·simp at d;obtain⟨rfl,rfl,rfl⟩:=d;simp only[if_true] at D;obtain⟨b,f,u⟩:=a;have n:((o.take c).map (·.data.toList)).length=c:=by simp;omega
  refine⟨(o.take c).map (·.data.toList),⟨some ⟨b,f,u⟩,k,by rw[n],by rw[n];exact y,?_⟩,fun l h=> ?_⟩
  ·rcases Nat.eq_zero_or_pos c with q|q
   ·left;rw[q];rfl
   ·right;have A:u=none:=by simpa [Addr.add] using World.cell?_spot (m 0 (by omega))
    subst A;refine⟨b,f,rfl,?_,fun i l j=> ?_⟩
    ·have g:=m 0 (by omega);exact block_lt_of_cell (a:=⟨b,f,none⟩) (by simpa [Addr.add] using g)
    ·have r:=(List.getElem?_eq_some_iff.1 j).1;rw[n] at r;have g:=m i (by omega);have v:(⟨b,f,none⟩:Addr).add i=⟨b,f+i,none⟩:=by unfold Addr.add;split<;>simp_all
     rw[v] at g;rw[g];rw[List.getElem?_map,List.getElem?_take_of_lt r,List.getElem?_eq_getElem (by omega)] at j;simp only[Option.map_some,Option.some.injEq] at j;subst j;simp[List.getD,List.getElem?_eq_getElem (show i<o.length by omega)]
  ·obtain⟨s,z,rfl⟩:=List.mem_map.1 h;have:=B s (List.mem_of_mem_take z);unfold maxLen at this;have e:s.data.toList.length=s.size:=Array.length_toList;rw[e];exact this
def az2{H:Type}{enc:TypeId×Value->H}{P:Program}{f:Func}{s:ChangeSpec}{W e:World}{args:Array Value}{y:TypeId}{d:List (DataW H)}{a:List MemPlace}
  (g:DataW.Whole enc P f.params.toList s.vars false W args.toList d [] a)(hv:s.vars=[])(q:f.resultTypes= #[y])(v:P.underlying y=some .bool)
  (i:s.fn H d={ results:=[.lit (.bool true)],args:=d })
  (A:∀sp:Nat->Bool,(∀p∈a,sp p.block=true)->DataW.TrodAll enc P e 0 sp true f.params.toList args.toList d a)(l:Below W.heap.size W e):
  s.post enc P f false true false false W args (.bool true) e:=by
 have o:∀p∈a,p.block<W.heap.size:=fun p c=>g.lt p c;have C:∀p∈a,(fun b=>decide (b<W.heap.size)) p.block=true:=fun p c=>by simpa using o p c
 have u:∀(b:Nat) (sp:Nat->Bool) (m:Bool),DataW.TrodAll enc P e b sp m f.resultTypes.toList ((Value.bool true).resultList f.resultTypes.size) (s.fn H (d++[])).results []:=fun b sp m=>by
  rw[List.append_nil,i,q];exact trodAll_mk1 (shut_bool v _)
 have k:∀sp:Nat->Bool,(∀p∈a,sp p.block=true)->DataW.TrodAll enc P e 0 sp true f.params.toList args.toList (s.fn H (d++[])).args a:=fun sp h=>by
  rw[List.append_nil,i];exact A sp h
 have w:∀sp:Nat->Bool,DataW.TrodVars enc P e sp s.vars (s.fn H (d++[])).vars []:=fun sp=>by
  rw[List.append_nil,i,hv];exact rfl
 refine⟨d,[],a,[],a,[],g,u _ _ _,k _ C,w _,World.keptBut_mono (fun p c=>⟨c,.inr (.inl c)⟩) (l.frame (·∈a)),fun _=> ?_⟩;obtain⟨_,_,_,_,_,E,hn⟩:=g;refine⟨fun j t r B D=> ?_,_,_,([]++a)++[],⟨[]++a,[],trodAll_append (k _ (fun _ _=>rfl)) (u _ _ _),w _,rfl,fun b x c=> ?_,fun z=>by cases z⟩,fun p c _=>by simpa using c⟩
 ·exact ok_one (by rw[q]) rfl (okWide_bool_mk v true) j t r B D
 ·have n:MemPlace.cell b x∈a:=by simpa using c
  rw[l.frozen (o _ n)];exact E b x n
