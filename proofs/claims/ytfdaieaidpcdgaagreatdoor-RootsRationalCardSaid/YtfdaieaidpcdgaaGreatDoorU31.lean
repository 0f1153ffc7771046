/- Laws. -/
import Derived.Test.YtfdaieaidpcdgaaGreatDoorRows
import Derived.Test.YtfdaieaidpcdgaaGreatDoorU28
import Derived.Test.YtfdaieaidpcdgaaGreatDoorU29
import Derived.ProofKit
import Derived.LaidMore
import Derived.OpenShut
import Derived.Stop.Joined
import Derived.SliceStrings
import Derived.Lib.LaidTab
import Derived.Carry
set_option linter.all false
set_option maxHeartbeats 8000000
set_option maxRecDepth 99999
namespace Go.Proofs.YtfdaieaidpcdgaaGreatDoor
open Go.RowKit Sos Go.Proofs.Tryz
def StrsAt.built(w:World)(a:List (List UInt8))(t:TypeId):StrsAt (w.alloc (.cells (a.map (fun l=>Value.string ⟨l.toArray⟩)).toArray t)) (.slice (some ⟨w.1.size,0,none⟩) a.length a.length) a:=by
 refine⟨_,_,rfl,aE,.inr ⟨w.1.size,0,rfl,by simp,fun i l b=> ?_⟩⟩;have B:=Bx.new w (a.map (fun l=>Value.string ⟨l.toArray⟩)) t;rw[bA];exact B.cell i (by rw[iK,b];rfl)
def dxK(a:List (List UInt8))(b c:Value)(w:World)(f:StrsAt w b a)(g:StrsAt w c a)(d:a.length<=1099511627776):
  Calls prog 8 #[b,c] w fun e w'=>e= .returned (.bool true)∧Below w.1.size w w':=
 (cqW a a b c w f g d d).mono (fun e w' h=>⟨by rw[h.1,decide_eq_true rfl],h.2⟩)
def ayE(a:List (List UInt8))(v:Value)(w:World)(hv:StrsAt w v a)(h:∀l∈a,l.length<=9223372036854775807):
  Calls prog 4 #[v] w fun e w'=>e= .returned (.bool (decide (a.length<=7)&&jH 6 a))∧w=w':=by
 obtain⟨A,c,rfl,k⟩:=hv.form;by_cases g:a.length<=7
 ·have i:(a.length:Int)<=7:=by omega
  have f:Calls prog 9 #[.int .i64 6,.slice A a.length c] w fun e w'=>e= .returned (.bool (jH 6 a))∧w=w':=LX 6 a (.slice A a.length c) w hv (by decide) (by omega) h;obtain⟨S,d⟩:∃S,jH 6 a=S:=⟨_,rfl⟩;have b:Hid ((decide (a.length<=7)&&jH 6 a)=S):=by unfold Hid;rw[d];simp[g]
  rw[d] at f;clear d;go_enter func4,ntmps4;go_wp2_with fail;refine f.mono ?_;rintro j m ⟨rfl,rfl⟩;go_wp2;go_ret;rw[b.out];exact⟨rfl,rfl⟩
 ·have i:¬(a.length:Int)<=7:=by omega
  have b:Hid ((decide (a.length<=7)&&jH 6 a)=false):=by unfold Hid;simp[g]
  go_enter func4,ntmps4;go_wp2;go_ret
  first
   |exact⟨rfl,rfl⟩
   |(rw[b.out];exact⟨rfl,rfl⟩)
def yO:aU [[45,50],[48],[49]]=[-2,0,1]:=by
 show[(bD [45,50]).getD 0,(bD [48]).getD 0,(bD [49]).getD 0]=_
 rw[ayN,LY,ayM];rfl
def ayF:bD [45,52]=some (-4):=by decide
def ayG:bD [52]=some 4:=by decide
def ayH:([(-4,0),(0,4)]:List (Rat×Rat)).map kQ=[([45,52],[48]),([48],[52])]:=by
 show[(cW (-4),cW 0),(cW 0,cW 4)]=_
 rw[tL ayF,tL LY,tL ayG]
def LW:vl [[45,50],[48],[49]]=true:=by
 unfold vl;rw[iQ,yO];exact⟨by decide,by decide,by decide⟩
def ayI:dM [[45,50],[48],[49]]=0:=by unfold dM;rw[if_pos LW,if_neg (by simp)]
def ayJ:oS [[45,50],[48],[49]] [] []=0:=by
 have h:dM [[45,50],[48],[49]]=0:=by unfold dM;rw[if_pos LW,if_neg (by simp)]
 unfold oS;rw[h];rfl
def ayK{n:Int}(h:KU (aU [[45,50],[48],[49]]) (lC [] (-1)) (m5 []) (lC [] 1) (m5 []) 0 n):n=2:=by
 have a:=h.2 rfl;rw[yO] at a;rw[a.get (by decide) D6 KQ (by decide)];exact Z5
def ayL:∀p∈([(-4,0),(0,4)]:List (Rat×Rat)),RL 110079 p.1∧RL 110079 p.2:=fun p b=>by
 have c:RL 110079 ((4:Int):Rat):=uW (aH (cJ (m:=1) (by unfold BN;decide)) (by decide)) (by decide);have d:RL 110079 ((-4:Int):Rat):=uW (aH (cJ (m:=1) (by unfold BN;decide)) (by decide)) (by decide);have a:RL 110079 (0:Rat):=iG (by decide);simp only[List.mem_cons,List.not_mem_nil,or_false] at b;rcases b with rfl|rfl
 ·exact⟨d,a⟩
 ·exact⟨a,c⟩
def DV(w:World)(g:Glob w):Calls prog 5 #[] w fun e w'=>e= .returned (.bool true)∧Below w.1.size w w':=by
 have m:=fun W v g h=>LT [[45,50],[48],[49]] 2 110079 (fun l=>l=[(-4,0),(0,4)]) v W g h (by decide) (by decide) (fun _ _=>by rw[yO,ZF];exact ZG) (by decide) (by decide) (by decide) y7 (ZV (by unfold aJ;decide)) (fun l h=>by rw[h];exact⟨by decide,ayL⟩) (fun w s c p z=>by rw[yO] at p;exact⟨_,ZH p z.1,rfl⟩);have i:=fun W v g h=>KV [[45,50],[48],[49]] v W g h (by decide) (by decide);unfold uM at i;rw[ayJ] at i;rw[ayI] at m;go_enter func5,ntmps5;go_wp2_with fail;have a:Below w.1.size w (w.alloc (.cells #[.string ⟨#[45,50]⟩,.string ⟨#[48]⟩,.string ⟨#[49]⟩] 9)):=(aG _ _).alloc aE _;have q:StrsAt (w.alloc (.cells #[.string ⟨#[45,50]⟩,.string ⟨#[48]⟩,.string ⟨#[49]⟩] 9)) (.slice (some ⟨w.1.size,0,none⟩) 3 3) [[45,50],[48],[49]]:=StrsAt.built w [[45,50],[48],[49]] 9;generalize w.alloc (.cells #[.string ⟨#[45,50]⟩,.string ⟨#[48]⟩,.string ⟨#[49]⟩] 9)=W at *;refine(m _ _ (g.be a) q).mono ?_;rintro E d ⟨I,l,rfl,A, -,b,x⟩;obtain rfl:=A trivial;rw[ayH] at b;replace a:=aC a x;obtain⟨t,u,rfl,H⟩:=b.form;replace b:IvsAt d (.slice t 2 u) [([45,52],[48]),([48],[52])]:=b;clear q m;go_wp2_with fail;have j:Below d.1.size d (d.alloc (.cells #[.string ⟨#[45,50]⟩,.string ⟨#[48]⟩,.string ⟨#[49]⟩] 9)):=(aG _ _).alloc aE _;have r:StrsAt (d.alloc (.cells #[.string ⟨#[45,50]⟩,.string ⟨#[48]⟩,.string ⟨#[49]⟩] 9)) (.slice (some ⟨d.1.size,0,none⟩) 3 3) [[45,50],[48],[49]]:=StrsAt.built d [[45,50],[48],[49]] 9;replace b:=b.be j;replace a:=aC a j;clear j;generalize d.alloc (.cells #[.string ⟨#[45,50]⟩,.string ⟨#[48]⟩,.string ⟨#[49]⟩] 9)=C at *;refine(i _ _ (g.be a) r).mono ?_;rintro F f ⟨n,rfl, -, -,hn,o⟩;obtain rfl:=ayK hn;replace b:=b.be o;replace a:=aC a o;clear r i hn;go_wp2_with fail;have k:Below f.1.size f (f.alloc (.cells #[.string ⟨#[45,52]⟩,.string ⟨#[48]⟩,.string ⟨#[48]⟩,.string ⟨#[52]⟩] 37)):=(aG _ _).alloc aE _;have B:IvsAt (f.alloc (.cells #[.string ⟨#[45,52]⟩,.string ⟨#[48]⟩,.string ⟨#[48]⟩,.string ⟨#[52]⟩] 37)) (.slice (some ⟨f.1.size,0,none⟩) 2 2) [([45,52],[48]),([48],[52])]:=IvsAt.built f [([45,52],[48]),([48],[52])] 37;replace b:=b.be k;replace a:=aC a k;clear k;generalize f.alloc (.cells #[.string ⟨#[45,52]⟩,.string ⟨#[48]⟩,.string ⟨#[48]⟩,.string ⟨#[52]⟩] 37)=D at *;refine(LP _ _ _ _ b B (by decide)).mono ?_;rintro G J ⟨rfl,y⟩;go_wp2;go_ret;exact⟨rfl,aC a y⟩
def cqA(a:List (List UInt8))(v:Value)(w:World)(d:Glob w)(hv:StrsAt w v a)(r:∀l∈a,l.length<=9223372036854775807):
  Calls prog 3 #[v] w fun e w'=>e= .returned (.bool true)∧Below w.1.size w w':=by
 obtain⟨A,i,rfl,S⟩:=hv.form;have p:=fun W h=>ayE a (.slice A a.length i) W h r;clear r;go_enter func3,ntmps3;go_wp2_with fail;refine(p _ hv).mono ?_;rintro N V ⟨rfl,rfl⟩;cases hs:(decide (a.length<=7)&&jH 6 a) with
 |false=>
  clear hs p;go_wp2_with fail;refine(DV _ d).mono ?_;rintro x I ⟨rfl,j⟩;go_wp2;go_ret;exact⟨rfl,j⟩
 |true=>
  rw[az7,iQ] at hs;obtain⟨k,n⟩:=hs;have o:∀l∈a,l.length<=6:=fun l D=>by
   unfold jH at n;exact of_decide_eq_true (List.all_eq_true.1 n l D)
  have m:=fun W d h=>cqB a (.slice A a.length i) W d h k o;have g:=fun R z B W h=>dxD a R z B (.slice A a.length i) W h k o;unfold czA at m;clear p n o k;generalize dM a=E at *;go_wp2_with fail;refine(m _ d hv).mono ?_;rintro O X ⟨T,R,rfl,c,t,u,F,b⟩;replace g:=g R t u;have s:=fun G H W h y=>dxK (R.map cW) G H W h y (by rw[cH];omega);obtain⟨J,L,rfl, -⟩:=c.form;rw[cH] at c⊢;replace hv:=hv.be b;clear m t u F;go_wp2_with fail;refine(g _ hv).mono ?_;rintro P Y ⟨U,rfl,f,q⟩;obtain⟨K,M,rfl, -⟩:=f.form;rw[cH] at f⊢;replace c:=c.be q;replace b:=aC b q;clear g;go_wp2_with fail;refine(s _ _ _ c f).mono ?_;rintro Q Z ⟨rfl,C⟩;replace b:=aC b C;clear s c f;go_wp2_with fail;refine(DV _ (d.be b)).mono ?_;rintro x I ⟨rfl,j⟩;go_wp2;go_ret;exact⟨rfl,aC b j⟩
end Go.Proofs.YtfdaieaidpcdgaaGreatDoor
namespace Go.Proofs.YtfdaieaidpcdgaaGreatDoor
open Go.ChangeShapes Go.WideShapes Go.ChangeAt Go.WideMaps Go.WideElems Go.RowKit Go.Proofs.Tryz
variable{W e:World}
def own:ownKnob Tryz.prog.godebug=none:=by kernel_rfl
def LZ:laidOutB prog=true:=by kernel_rfl
def ayO:Tryz.prog.cellsOf 9=1:=by kernel_rfl
def ayP:Tryz.prog.globalNamed "math/bits.deBruijn64tab" =some 0:=by kernel_rfl
def ayQ:Tryz.prog.globalNamed "internal/strconv.uint64pow10" =some 3:=by kernel_rfl
def ayR:(Tryz.prog.globals[0]?).map (·.type)=some 226:=by kernel_rfl
def ayS:(Tryz.prog.globals[3]?).map (·.type)=some 231:=by kernel_rfl
def ayT:Tryz.prog.cellsOf 226=64:=by kernel_rfl
def ayU:Tryz.prog.cellsOf 231=20:=by kernel_rfl
def ayV:Tryz.prog.cellsOf 5=1:=by kernel_rfl
def ayW:Tryz.prog.cellsOf 77=1:=by kernel_rfl
def uX:List (String×DataW Unit):=[("math/bits.deBruijn32tab",Rows.laid_math_bits_deBruijn32tab),("math/bits.deBruijn64tab",Rows.laid_math_bits_deBruijn64tab),("internal/strconv.uint64pow10",Rows.laid_internal_strconv_uint64pow10)]
def ayX(os:Os)(args:Array Value):laidMetH prog uX ((World.doorLaid prog 400 os).forCall (fun _ _=>0) ⟨#[],args,[]⟩).memory:=
 laidMetH_of_parts3 (fuel:=8) (laidMet_of_run' 8 (by kernel_rfl) (by kernel_rfl)) (by kernel_rfl) (by kernel_rfl)
def ayY:(Rows.laid_math_bits_deBruijn64tab:DataW Unit)=Lib.tabData .u8 (Lib.deBruijn64tab.map (fun z:Nat=>(z:Int))):=by rfl
def ayZ:(Rows.laid_internal_strconv_uint64pow10:DataW Unit)=Lib.tabData .u64 Lib.pow10Tab:=by rfl
def az0(h:laidMetH prog uX W):Glob W:=by
 rw[MakeChecks.laidMetH_plain _ _ _ (by kernel_rfl)] at h;obtain⟨C,⟨t,G,n,q,A,D,x,y,z,w,⟨u,H,o,r,B,E,c,i,l,a,⟨v,I,p,s,p2,F,f,k,m,b,_,_⟩,_⟩,_⟩,_,_⟩:=h;obtain rfl:=Option.some.inj (ayP.symm.trans c);obtain rfl:=Option.some.inj (ayQ.symm.trans f);obtain rfl:=Option.some.inj (ayR.symm.trans i);obtain rfl:=Option.some.inj (ayS.symm.trans k);rw[ayY] at a;rw[ayZ] at b;have d:=Lib.cells_of_tab underlying226 underlying5 ayV ayT a;have e:=Lib.cells_of_tab underlying231 underlying77 ayW ayU b;refine⟨fun j g=> ?_,?_⟩
 ·have:=World.var?_cell c l j;rw[this,<-Array.getElem?_toList,d];simp[List.getElem?_map,List.getElem?_eq_getElem g]
 ·unfold Lib.TabIs;rw[m,<-e]
def az1{H:Type}{enc:TypeId×Value->H}{p:Option Addr}{c k fuel:Nat}{x:DataW H×List MemPlace}
  (w:DataW.trod enc prog W 0 (fun _=>true) true fuel 22 [.slice p c k]=some x):
  ∃t:List (List UInt8),StrsAt W (.slice p c k) t∧∀l∈t,l.length<=9223372036854775807:=by
 rcases open_strings underlying22 underlying9 ayO w with ⟨d,C⟩|⟨a,G,E,o,d,_,y,F,D,C,m,B⟩
 ·simp at d;obtain⟨rfl,rfl,rfl⟩:=d;exact⟨[],StrsAt.nil _ _ _,fun l h=>by cases h⟩
 ·simp at d;obtain⟨rfl,rfl,rfl⟩:=d;simp only[if_true] at D;obtain⟨b,f,u⟩:=a;have n:((o.take c).map (·.data.toList)).length=c:=by simp;omega
  refine⟨(o.take c).map (·.data.toList),⟨some ⟨b,f,u⟩,k,by rw[n],by rw[n];exact y,?_⟩,fun l h=> ?_⟩
  ·rcases Nat.eq_zero_or_pos c with q|q
   ·left;rw[q];rfl
   ·right;have A:u=none:=by simpa [Addr.add] using World.cell?_spot (m 0 (by omega))
    subst A;refine⟨b,f,rfl,?_,fun i l j=> ?_⟩
    ·have g:=m 0 (by omega);exact block_lt_of_cell (a:=⟨b,f,none⟩) (by simpa [Addr.add] using g)
    ·have r:=(List.getElem?_eq_some_iff.1 j).1;rw[n] at r;have g:=m i (by omega);have v:(⟨b,f,none⟩:Addr).add i=⟨b,f+i,none⟩:=by unfold Addr.add;split<;>simp_all
     rw[v] at g;rw[g];rw[List.getElem?_map,List.getElem?_take_of_lt r,List.getElem?_eq_getElem (by omega)] at j;simp only[Option.map_some,Option.some.injEq] at j;subst j;simp[List.getD,List.getElem?_eq_getElem (show i<o.length by omega)]
  ·obtain⟨s,z,rfl⟩:=List.mem_map.1 h;have:=B s (List.mem_of_mem_take z);unfold maxLen at this;have e:s.data.toList.length=s.size:=Array.length_toList;rw[e];exact this
def az2{H:Type}{enc:TypeId×Value->H}{P:Program}{f:Func}{s:ChangeSpec}{args:Array Value}{y:TypeId}{d:List (DataW H)}{a:List MemPlace}
  (g:DataW.Whole enc P f.params.toList s.vars false W args.toList d [] a)(hv:s.vars=[])(q:f.resultTypes= #[y])(v:P.underlying y=some .bool)
  (i:s.fn H d={ results:=[.lit (.bool true)],args:=d })
  (A:∀sp:Nat->Bool,(∀p∈a,sp p.block=true)->DataW.TrodAll enc P e 0 sp true f.params.toList args.toList d a)(l:Below W.1.size W e):
  s.post enc P f false true false false W args (.bool true) e:=by
 have o:∀p∈a,p.block<W.1.size:=fun p c=>g.lt p c;have C:∀p∈a,(fun b=>decide (b<W.1.size)) p.block=true:=fun p c=>by simpa using o p c
 have u:∀(b:Nat) (sp:Nat->Bool) (m:Bool),DataW.TrodAll enc P e b sp m f.resultTypes.toList ((Value.bool true).resultList f.resultTypes.size) (s.fn H (d++[])).results []:=fun b sp m=>by
  rw[List.append_nil,i,q];exact trodAll_mk1 (shut_bool v _)
 have k:∀sp:Nat->Bool,(∀p∈a,sp p.block=true)->DataW.TrodAll enc P e 0 sp true f.params.toList args.toList (s.fn H (d++[])).args a:=fun sp h=>by
  rw[List.append_nil,i];exact A sp h
 have w:∀sp:Nat->Bool,DataW.TrodVars enc P e sp s.vars (s.fn H (d++[])).vars []:=fun sp=>by
  rw[List.append_nil,i,hv];exact rfl
 refine⟨d,[],a,[],a,[],g,u _ _ _,k _ C,w _,World.keptBut_mono (fun p c=>⟨c,.inr (.inl c)⟩) (l.frame (·∈a)),fun _=> ?_⟩;obtain⟨_,_,_,_,_,E,hn⟩:=g;refine⟨fun j t r B D=> ?_,_,_,([]++a)++[],⟨[]++a,[],trodAll_append (k _ (fun _ _=>rfl)) (u _ _ _),w _,rfl,fun b x c=> ?_,fun z=>by cases z⟩,fun p c _=>by simpa using c⟩
 ·exact ok_one (by rw[q]) rfl (okWide_bool_mk v true) j t r B D
 ·have n:MemPlace.cell b x∈a:=by simpa using c
  rw[l.frozen (o _ n)];exact E b x n
