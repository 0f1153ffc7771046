/-
  Contracts of functions that the statement reaches, and plain laws: CardA.
-/
import Derived.Test.YtbhplgdbfmifkaaGreatDoorRows
import Derived.Test.YtbhplgdbfmifkaaGreatDoorI26
import Derived.ProofKit
import Derived.LaidMore
import Derived.OpenShut
import Derived.Stop.Joined
import Derived.SliceStrings
import Derived.Lib.LaidTab
import Derived.Carry
set_option linter.unusedVariables false
set_option linter.unusedSimpArgs false
set_option maxHeartbeats 8000000
set_option maxRecDepth 100000
namespace Go.Proofs.YtbhplgdbfmifkaaGreatDoor
open Go.ChangeShapes Go.WideShapes Go.ChangeAt Go.WideMaps Go.WideElems Go.RowKit
theorem own:ownKnob Tryz.prog.godebug=none:=by kernel_rfl
theorem rE:laidOutB Tryz.prog=true:=by kernel_rfl
theorem VA:Tryz.prog.cellsOf 9=1:=by kernel_rfl
theorem VB:Tryz.prog.globalNamed "math/bits.deBruijn64tab" =some 0:=by kernel_rfl
theorem VD:Tryz.prog.globalNamed "internal/strconv.uint64pow10" =some 3:=by kernel_rfl
theorem VE:(Tryz.prog.globals[0]?).map (·.type)=some 246:=by kernel_rfl
theorem VF:(Tryz.prog.globals[3]?).map (·.type)=some 252:=by kernel_rfl
theorem VG:Tryz.prog.cellsOf 246=64:=by kernel_rfl
theorem VH:Tryz.prog.cellsOf 252=20:=by kernel_rfl
theorem VI:Tryz.prog.cellsOf 5=1:=by kernel_rfl
theorem VJ:Tryz.prog.cellsOf 161=1:=by kernel_rfl
def nF:List (String×DataW Unit):=[("math/bits.deBruijn32tab",Rows.laid_math_bits_deBruijn32tab),("math/bits.deBruijn64tab",Rows.laid_math_bits_deBruijn64tab),("internal/strconv.uint64pow10",Rows.laid_internal_strconv_uint64pow10)]
theorem I9 (os:Os) (args:Array Value):laidMetH Tryz.prog nF ((World.doorLaid Tryz.prog 400 os).forCall (fun _ _=>0) ⟨#[],args,[]⟩).memory:=
 laidMetH_of_parts3 (fuel:=8) (laidMet_of_run' 8 (by kernel_rfl) (by kernel_rfl)) (by kernel_rfl) (by kernel_rfl)
theorem VK:(Rows.laid_math_bits_deBruijn64tab:DataW Unit)=Lib.tabData .u8 (Lib.deBruijn64tab.map (fun z:Nat=>(z:Int))):=by rfl
theorem VL:(Rows.laid_internal_strconv_uint64pow10:DataW Unit)=Lib.tabData .u64 Lib.pow10Tab:=by rfl
theorem IA {W:World} (h:laidMetH Tryz.prog nF W):Glob W:=by
 rw[MakeChecks.laidMetH_plain _ _ _ (by kernel_rfl)] at h;obtain⟨ps,⟨g0,t0,cs0,f0,p0,q0,hg0,ht0,hv0,hd0,⟨g1,t1,cs1,f1,p1,q1,hg1,ht1,hv1,hd1,⟨g2,t2,cs2,f2,p2,q2,hg2,ht2,hv2,hd2,_,_⟩,_⟩,_⟩,_,_⟩:=h;obtain rfl:=Option.some.inj (VB.symm.trans hg1);obtain rfl:=Option.some.inj (VD.symm.trans hg2);obtain rfl:=Option.some.inj (VE.symm.trans ht1);obtain rfl:=Option.some.inj (VF.symm.trans ht2);rw[VK] at hd1;rw[VL] at hd2;have e1:=Lib.cells_of_tab Tryz.underlying246 Tryz.underlying5 VI VG hd1;have e2:=Lib.cells_of_tab Tryz.underlying252 Tryz.underlying161 VJ VH hd2;refine⟨fun j hj=> ?_,?_⟩
 ·have:=World.var?_cell hg1 hv1 j;rw[this,←Array.getElem?_toList,e1];simp[List.getElem?_map,List.getElem?_eq_getElem hj]
 ·unfold Lib.TabIs;rw[hv2,←e2]
theorem uR {H:Type} {enc:TypeId×Value→H} {W:World} {a0:Option Addr} {len cap fuel:Nat} {x:DataW H×List MemPlace}
  (hf:DataW.trod enc Tryz.prog W 0 (fun _=>true) true fuel 22 [.slice a0 len cap]=some x):
  ∃ls:List (List UInt8),StrsAt W (.slice a0 len cap) ls∧∀l∈ls,l.length≤9223372036854775807:=by
 rcases open_strings Tryz.underlying22 Tryz.underlying9 VA hf with ⟨hcs,hx⟩|⟨a,len',cap',ss,hcs,_,hl,hm,hz,hx,hcell,hws⟩
 ·simp at hcs;obtain⟨rfl,rfl,rfl⟩:=hcs;exact⟨[],StrsAt.nil _ _ _,fun l h=>by cases h⟩
 ·simp at hcs;obtain⟨rfl,rfl,rfl⟩:=hcs;simp only[if_true] at hz;obtain⟨b,off,spot⟩:=a;have hlen:((ss.take len).map (·.data.toList)).length=len:=by simp;omega
  refine⟨(ss.take len).map (·.data.toList),⟨some ⟨b,off,spot⟩,cap,by rw[hlen],by rw[hlen];exact hl,?_⟩,fun l h=> ?_⟩
  ·rcases Nat.eq_zero_or_pos len with h0|h0
   ·left;rw[h0];rfl
   ·right;have hspot:spot=none:=by simpa [Addr.add] using World.cell?_spot (hcell 0 (by omega))
    subst hspot;refine⟨b,off,rfl,?_,fun i l hi=> ?_⟩
    ·have h1:=hcell 0 (by omega);exact block_lt_of_cell (a:=⟨b,off,none⟩) (by simpa [Addr.add] using h1)
    ·have hi':=(List.getElem?_eq_some_iff.1 hi).1;rw[hlen] at hi';have h1:=hcell i (by omega);have hadd:(⟨b,off,none⟩:Addr).add i=⟨b,off+i,none⟩:=by unfold Addr.add;split<;>simp_all
     rw[hadd] at h1;rw[h1];rw[List.getElem?_map,List.getElem?_take_of_lt hi',List.getElem?_eq_getElem (by omega)] at hi;simp only[Option.map_some,Option.some.injEq] at hi;subst hi;simp[List.getD,List.getElem?_eq_getElem (show i<ss.length by omega)]
  ·obtain⟨s,hs,rfl⟩:=List.mem_map.1 h;have:=hws s (List.mem_of_mem_take hs);unfold maxLen at this;have e:s.data.toList.length=s.size:=Array.length_toList;rw[e];exact this
theorem IB {H:Type} {enc:TypeId×Value→H} {P:Program} {f:Func} {s:ChangeSpec} {W W':World} {args:Array Value} {tb:TypeId} {ds:List (DataW H)} {ps:List MemPlace}
  (hW:DataW.Whole enc P f.params.toList s.vars false W args.toList ds [] ps) (hv:s.vars=[]) (hr:f.resultTypes= #[tb]) (ht:P.underlying tb=some .bool)
  (hfn:s.fn H ds={ results:=[.lit (.bool true)],args:=ds })
  (hargs:∀sp:Nat→Bool,(∀p∈ps,sp p.block=true)→DataW.TrodAll enc P W' 0 sp true f.params.toList args.toList ds ps) (hb:Below W.heap.size W W'):
  s.post enc P f false true false false W args (.bool true) W':=by
 have hlt:∀p∈ps,p.block<W.heap.size:=fun p hp=>hW.lt p hp;have hold:∀p∈ps,(fun b=>decide (b<W.heap.size)) p.block=true:=fun p hp=>by simpa using hlt p hp
 have hres:∀(b:Nat) (sp:Nat→Bool) (hd:Bool),DataW.TrodAll enc P W' b sp hd f.resultTypes.toList ((Value.bool true).resultList f.resultTypes.size) (s.fn H (ds++[])).results []:=fun b sp hd=>by
  rw[List.append_nil,hfn,hr];exact trodAll_mk1 (shut_bool ht _)
 have hargs':∀sp:Nat→Bool,(∀p∈ps,sp p.block=true)→DataW.TrodAll enc P W' 0 sp true f.params.toList args.toList (s.fn H (ds++[])).args ps:=fun sp h=>by
  rw[List.append_nil,hfn];exact hargs sp h
 have hvars:∀sp:Nat→Bool,DataW.TrodVars enc P W' sp s.vars (s.fn H (ds++[])).vars []:=fun sp=>by
  rw[List.append_nil,hfn,hv];exact rfl
 refine⟨ds,[],ps,[],ps,[],hW,hres _ _ _,hargs' _ hold,hvars _,World.keptBut_mono (fun p hp=>⟨hp,.inr (.inl hp)⟩) (hb.frame (·∈ps)),fun _=> ?_⟩;obtain⟨_,_,_,_,_,hz,hn⟩:=hW;refine⟨fun j t r hj hrr=> ?_,_,_,([]++ps)++[],⟨[]++ps,[],trodAll_append (hargs' _ (fun _ _=>rfl)) (hres _ _ _),hvars _,rfl,fun b off hp=> ?_,fun ha=>by cases ha⟩,fun p hp _=>by simpa using hp⟩
 ·exact ok_one (by rw[hr]) rfl (okWide_bool_mk ht true) j t r hj hrr
 ·have hin:MemPlace.cell b off∈ps:=by simpa using hp
  rw[hb.frozen (hlt _ hin)];exact hz b off hin
end Go.Proofs.YtbhplgdbfmifkaaGreatDoor
