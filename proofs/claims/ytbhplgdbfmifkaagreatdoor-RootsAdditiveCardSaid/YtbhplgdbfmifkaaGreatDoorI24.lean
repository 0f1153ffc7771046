/-
  Contracts of functions that the statement reaches, and plain laws: TxtI.
-/
import Derived.Test.YtbhplgdbfmifkaaGreatDoorI19
import Derived.Test.YtbhplgdbfmifkaaGreatDoorI23
import Derived.Laws.IdiomStrings
set_option linter.unusedVariables false
set_option linter.unusedSimpArgs false
set_option maxHeartbeats 8000000
set_option maxRecDepth 100000
namespace Go.Proofs.YtbhplgdbfmifkaaGreatDoor
open Go.RowKit Sos
def fG (x:Int):List UInt8:=(if x<0 then [45] else [])++Lib.decDigits x.natAbs
theorem TxtAt.nil (w:World) (B:Nat):TxtAt w B (.slice none 0 0) []:=World.ownsRow_nil w B _ _
theorem TxtAt.str {w:World} {B:Nat} {v:Value} {bs:List UInt8} (h:TxtAt w B v bs):(convert 149 9 v).run Tryz.prog w= .ok (.string ⟨bs.toArray⟩) w:=by
 rcases id h.2 with ⟨rfl,e⟩|⟨g,cap,cur,rfl,_⟩
 ·have:bs=[]:=List.eq_nil_of_length_eq_zero e;subst this;rw[run_convert_bytes_string w 149 9 5 none 0 0 Tryz.underlying149 Tryz.underlying5 Tryz.underlying9];rfl
 ·refine run_convert_bytes_back (P:=Tryz.prog) w 149 9 5 ⟨g,0,none⟩ cap bs Tryz.underlying149 Tryz.underlying5 Tryz.underlying9 (fun j hj=> ?_);refine World.ownsRow.cells h (by simp[Value.ownBlock]) j _ ?_;simp[Lib.byteCells,hj]
theorem Apart.nil (v:Value):Apart (.slice none 0 0) v:=fun g h=>by simp[Value.ownBlock] at h
theorem xU (B:Nat) (tv:Value) (bs:List UInt8) (x:Int) (s:Bool) (A:Option Addr) (k c:Nat) (w:World) (hG:GlobB B w) (hB:B≤w.heap.size) (ht:TxtAt w B tv bs) (hx:IntAt w (.agg #[.bool s,.slice A k c]) x)
  (hax:Apart tv (.slice A k c)) (hxl:nl x.natAbs≤4294967296) (hbl:bs.length≤4398046511103):
  Calls Tryz.prog 97 #[.agg #[.bool s,.slice A k c],tv] w fun e w'=>∃v,e= .returned v∧TxtAt w' B v (bs++fG x)∧TxtTo w tv w' v:=by
 have hs:=hx.neg;have hab:∀g,(Value.slice A k c).ownBlock=some g→g<w.heap.size:=fun g e=>hx.words.block e;have B1:Bx (w.alloc (.cells #[.bool s,.slice A k c] 50)) (w.heap.size) [.bool s,.slice A k c] 50:=Bx.newAt w [.bool s,.slice A k c] 50 (w.heap.size) (by simp);have hb:Below w.heap.size w (w.alloc (.cells #[.bool s,.slice A k c] 50)):=(Below.refl _ _).alloc (by simp) _;have hu:=hx.words.below hb;have ht1:=ht.below hb;have htl:=fun g e=>(ht.lt g e).1;have hb1:TxtTo w tv (w.alloc (.cells #[.bool s,.slice A k c] 50)) tv:=TxtTo.below hb;have hG1:=hG.on (hb1.belowB hB htl);have hB1:B≤(w.alloc (.cells #[.bool s,.slice A k c] 50)).heap.size:=Nat.le_trans hB hb.size;have hab1:∀g,(Value.slice A k c).ownBlock=some g→g<(w.alloc (.cells #[.bool s,.slice A k c] 50)).heap.size:=fun g e=>Nat.lt_of_lt_of_le (hab g e) hb.size;by_cases hneg:x<0
 ·have hst:s=true:=by rw[hs];simpa using hneg
  have htx:fG x=[45]++Lib.decDigits x.natAbs:=by unfold fG;rw[if_pos hneg]
  rw[htx];clear htx hneg hs;subst hst;unfold TxtAt at ht1;go_enter Tryz.func97,Tryz.ntmps97;go_wp2_with (at_builtin;(refine eJ rfl rfl 5 _ 1 1 Tryz.underlying149 jU rfl (by decide) B tv bs.length _ rfl (ht1.alloc _) [Value.int .u8 45] rfl (by simp) (BM _ _ _ _ (by simp)) (by simp[Value.oneCell']) (by omega) (by omega) (by simp;omega) ?_);intro q1 w6 ho1 hg1 hat1;have hm:=TxtAt.more (bs:=bs) (l:=[45]) ho1 hg1 hat1;have B1:Bx w6 w.heap.size [.bool true,.slice A k c] 50:=(hm.2.1.block _ B1.lt (fun e=>by have:=ht.lt _ e.symm;omega)).trans B1;have c1:=B1.cell 1 rfl);refine(EH B q1 (bs++[45]) x.natAbs (.slice A k c) w6 (hG1.on (hm.2.belowB hB1 htl)) (Nat.le_trans hB1 hm.2.1.size) hm.1 (hu.txt hm.2 hax) (hm.2.apart hax hab1) hxl (by simp;omega)).mono ?_;rintro e w7 ⟨v7,rfl,h7,t7⟩;rw[List.append_assoc] at h7;have hto:=hb1.trans (hm.2.trans t7);go_wp2;go_ret;exact⟨_,rfl,h7,hto⟩
 ·have hst:s=false:=by rw[hs];simpa using hneg
  have htx:fG x=Lib.decDigits x.natAbs:=by unfold fG;rw[if_neg hneg];rfl
  rw[htx];clear htx hneg hs;subst hst;have hap:=EH B tv bs x.natAbs (.slice A k c) _ hG1 hB1 ht1 hu hax hxl (by omega);go_enter Tryz.func97,Tryz.ntmps97;go_wp2_with fail;refine hap.mono ?_;rintro e w7 ⟨v7,rfl,h7,t7⟩;have hto:=hb1.trans t7;go_wp2;go_ret;exact⟨_,rfl,h7,hto⟩
theorem OV (x:Int) (vx:Value) (w:World) (hG:Glob w) (hx:IntAt w vx x) (hxl:nl x.natAbs≤4294967296):
  Calls Tryz.prog 96 #[vx] w fun e w'=>e= .returned (.string ⟨(fG x).toArray⟩)∧Below w.heap.size w w':=by
 obtain⟨sx,Ax,kx,cx,rfl⟩:=hx.form;have B1:Bx (w.alloc (.cells #[.bool sx,.slice Ax kx cx] 50)) (w.heap.size) [.bool sx,.slice Ax kx cx] 50:=Bx.newAt w [.bool sx,.slice Ax kx cx] 50 (w.heap.size) (by simp);have hb:Below w.heap.size w (w.alloc (.cells #[.bool sx,.slice Ax kx cx] 50)):=(Below.refl _ _).alloc (by simp) _;go_enter Tryz.func96,Tryz.ntmps96;go_wp2_with fail;generalize w.alloc (.cells #[.bool sx,.slice Ax kx cx] 50)=W at *;have hx:=hx.below hb;refine(xU W.heap.size (.slice none 0 0) [] x sx Ax kx cx W (hG.below hb).globB (Nat.le_refl _) (TxtAt.nil _ _) hx (Apart.nil _) hxl (by simp)).mono ?_;rintro e w7 ⟨v7,rfl,h7,t7⟩;have hc:=h7.str;rw[List.nil_append] at hc;have hbz:=hb.trans ((t7.belowB (Nat.le_refl _) (fun g e=>by simp[Value.ownBlock] at e)).mono hb.size);go_wp2;go_ret;exact⟨rfl,hbz⟩
end Go.Proofs.YtbhplgdbfmifkaaGreatDoor
