/-
  Contracts, laws: CardA.
-/
import Derived.Test.YthfnenohhindpaaGreatDoorRows
import Derived.Test.YthfnenohhindpaaGreatDoorC29
import Derived.ProofKit
import Derived.LaidMore
import Derived.OpenShut
import Derived.Stop.Joined
import Derived.SliceStrings
import Derived.Lib.LaidTab
import Derived.Carry
set_option linter.all false
set_option maxHeartbeats 8000000
set_option maxRecDepth 100000
namespace Go.Proofs.YthfnenohhindpaaGreatDoor
open Go.ChangeShapes Go.WideShapes Go.ChangeAt Go.WideMaps Go.WideElems Go.RowKit
theorem own:ownKnob Tryz.prog.godebug=none:=by kernel_rfl
theorem zI:laidOutB Tryz.prog=true:=by kernel_rfl
theorem WB:Tryz.prog.cellsOf 9=1:=by kernel_rfl
theorem WC:Tryz.prog.globalNamed "math/bits.deBruijn64tab" =some 1:=by kernel_rfl
theorem WD:Tryz.prog.globalNamed "internal/strconv.uint64pow10" =some 0:=by kernel_rfl
theorem WE:(Tryz.prog.globals[1]?).map (·.type)=some 265:=by kernel_rfl
theorem WF:(Tryz.prog.globals[0]?).map (·.type)=some 256:=by kernel_rfl
theorem WG:Tryz.prog.cellsOf 265=64:=by kernel_rfl
theorem WH:Tryz.prog.cellsOf 256=20:=by kernel_rfl
theorem WI:Tryz.prog.cellsOf 5=1:=by kernel_rfl
theorem WJ:Tryz.prog.cellsOf 181=1:=by kernel_rfl
def rI:List (String×DataW Unit):=[("math/bits.deBruijn32tab",Rows.laid_math_bits_deBruijn32tab),("math/bits.deBruijn64tab",Rows.laid_math_bits_deBruijn64tab),("internal/strconv.uint64pow10",Rows.laid_internal_strconv_uint64pow10)]
theorem WK (os:Os) (args:Array Value):laidMetH Tryz.prog rI ((World.doorLaid Tryz.prog 400 os).forCall (fun _ _=>0) ⟨#[],args,[]⟩).memory:=
 laidMetH_of_parts3 (fuel:=8) (laidMet_of_run' 8 (by kernel_rfl) (by kernel_rfl)) (by kernel_rfl) (by kernel_rfl)
theorem WL:(Rows.laid_math_bits_deBruijn64tab:DataW Unit)=Lib.tabData .u8 (Lib.deBruijn64tab.map (fun z:Nat=>(z:Int))):=by rfl
theorem WM:(Rows.laid_internal_strconv_uint64pow10:DataW Unit)=Lib.tabData .u64 Lib.pow10Tab:=by rfl
theorem WN {W:World} (h:laidMetH Tryz.prog rI W):Glob W:=by
 rw[MakeChecks.laidMetH_plain _ _ _ (by kernel_rfl)] at h;obtain⟨D,⟨t,H,n,q,A,E,x,y,z,w,⟨u,I,o,r,B,F,c,i,l,a,⟨v,J,p,s,C,G,f,k,m,b,_,_⟩,_⟩,_⟩,_,_⟩:=h;obtain rfl:=Option.some.inj (WC.symm.trans c);obtain rfl:=Option.some.inj (WD.symm.trans f);obtain rfl:=Option.some.inj (WE.symm.trans i);obtain rfl:=Option.some.inj (WF.symm.trans k);rw[WL] at a;rw[WM] at b;have d:=Lib.cells_of_tab Tryz.underlying265 Tryz.underlying5 WI WG a;have e:=Lib.cells_of_tab Tryz.underlying256 Tryz.underlying181 WJ WH b;refine⟨fun j g=> ?_,?_⟩
 ·have:=World.var?_cell c l j;rw[this,<-Array.getElem?_toList,d];simp[List.getElem?_map,List.getElem?_eq_getElem g]
 ·unfold Lib.TabIs;rw[m,<-e]
theorem WO {H:Type} {enc:TypeId×Value->H} {W:World} {p:Option Addr} {c k fuel:Nat} {x:DataW H×List MemPlace}
  (v:DataW.trod enc Tryz.prog W 0 (fun _=>true) true fuel 22 [.slice p c k]=some x):
  ∃ls:List (List UInt8),StrsAt W (.slice p c k) ls∧∀l∈ls,l.length<=9223372036854775807:=by
 rcases open_strings Tryz.underlying22 Tryz.underlying9 WB v with ⟨d,B⟩|⟨a,F,D,o,d,_,w,E,C,B,m,A⟩
 ·simp at d;obtain⟨rfl,rfl,rfl⟩:=d;exact⟨[],StrsAt.nil _ _ _,fun l h=>by cases h⟩
 ·simp at d;obtain⟨rfl,rfl,rfl⟩:=d;simp only[if_true] at C;obtain⟨b,f,t⟩:=a;have n:((o.take c).map (·.data.toList)).length=c:=by simp;omega
  refine⟨(o.take c).map (·.data.toList),⟨some ⟨b,f,t⟩,k,by rw[n],by rw[n];exact w,?_⟩,fun l h=> ?_⟩
  ·rcases Nat.eq_zero_or_pos c with q|q
   ·left;rw[q];rfl
   ·right;have z:t=none:=by simpa [Addr.add] using World.cell?_spot (m 0 (by omega))
    subst z;refine⟨b,f,rfl,?_,fun i l j=> ?_⟩
    ·have g:=m 0 (by omega);exact block_lt_of_cell (a:=⟨b,f,none⟩) (by simpa [Addr.add] using g)
    ·have r:=(List.getElem?_eq_some_iff.1 j).1;rw[n] at r;have g:=m i (by omega);have u:(⟨b,f,none⟩:Addr).add i=⟨b,f+i,none⟩:=by unfold Addr.add;split<;>simp_all
     rw[u] at g;rw[g];rw[List.getElem?_map,List.getElem?_take_of_lt r,List.getElem?_eq_getElem (by omega)] at j;simp only[Option.map_some,Option.some.injEq] at j;subst j;simp[List.getD,List.getElem?_eq_getElem (show i<o.length by omega)]
  ·obtain⟨s,y,rfl⟩:=List.mem_map.1 h;have:=A s (List.mem_of_mem_take y);unfold maxLen at this;have e:s.data.toList.length=s.size:=Array.length_toList;rw[e];exact this
theorem WP {H:Type} {enc:TypeId×Value->H} {P:Program} {f:Func} {s:ChangeSpec} {W e:World} {args:Array Value} {y:TypeId} {d:List (DataW H)} {a:List MemPlace}
  (g:DataW.Whole enc P f.params.toList s.vars false W args.toList d [] a) (hv:s.vars=[]) (q:f.resultTypes= #[y]) (v:P.underlying y=some .bool)
  (i:s.fn H d={ results:=[.lit (.bool true)],args:=d })
  (A:∀sp:Nat->Bool,(∀p∈a,sp p.block=true)->DataW.TrodAll enc P e 0 sp true f.params.toList args.toList d a) (l:Below W.heap.size W e):
  s.post enc P f false true false false W args (.bool true) e:=by
 have o:∀p∈a,p.block<W.heap.size:=fun p c=>g.lt p c;have C:∀p∈a,(fun b=>decide (b<W.heap.size)) p.block=true:=fun p c=>by simpa using o p c
 have u:∀(b:Nat) (sp:Nat->Bool) (m:Bool),DataW.TrodAll enc P e b sp m f.resultTypes.toList ((Value.bool true).resultList f.resultTypes.size) (s.fn H (d++[])).results []:=fun b sp m=>by
  rw[List.append_nil,i,q];exact trodAll_mk1 (shut_bool v _)
 have k:∀sp:Nat->Bool,(∀p∈a,sp p.block=true)->DataW.TrodAll enc P e 0 sp true f.params.toList args.toList (s.fn H (d++[])).args a:=fun sp h=>by
  rw[List.append_nil,i];exact A sp h
 have w:∀sp:Nat->Bool,DataW.TrodVars enc P e sp s.vars (s.fn H (d++[])).vars []:=fun sp=>by
  rw[List.append_nil,i,hv];exact rfl
 refine⟨d,[],a,[],a,[],g,u _ _ _,k _ C,w _,World.keptBut_mono (fun p c=>⟨c,.inr (.inl c)⟩) (l.frame (·∈a)),fun _=> ?_⟩;obtain⟨_,_,_,_,_,E,hn⟩:=g;refine⟨fun j t r B D=> ?_,_,_,([]++a)++[],⟨[]++a,[],trodAll_append (k _ (fun _ _=>rfl)) (u _ _ _),w _,rfl,fun b x c=> ?_,fun z=>by cases z⟩,fun p c _=>by simpa using c⟩
 ·exact ok_one (by rw[q]) rfl (okWide_bool_mk v true) j t r B D
 ·have n:MemPlace.cell b x∈a:=by simpa using c
  rw[l.frozen (o _ n)];exact E b x n
