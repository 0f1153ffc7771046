/-
  Contracts of functions that the statement reaches, and plain laws: RegA.
-/
import Derived.Test.YtlojjipfnejbnaaGreatDoorA19
set_option linter.unusedVariables false
set_option linter.unusedSimpArgs false
set_option maxHeartbeats 8000000
set_option maxRecDepth 100000
namespace Go.Proofs.YtlojjipfnejbnaaGreatDoor
open Go.RowKit Sos
section
variable {w w' w1 w2:World} {g g':Nat} {m n n':Int} {s:Bool} {A:Option Addr} {l c:Nat}
theorem ua {o:Obj} (h:Below w.heap.size w w'):Below w.heap.size w (w'.alloc o):=h.alloc h.size o
theorem ud (h:Below w.heap.size w w'):Below w.heap.size w w'.drew:=h.drew
theorem ut (h:Below w.heap.size w w1) (k:Below w1.heap.size w1 w2):Below w.heap.size w w2:=h.trans (k.mono h.size)
theorem us {o:Nat} {v:Value} (h:Below w.heap.size w w') (hg:w.heap.size≤g):Below w.heap.size w (w'.setCell ⟨g,o,none⟩ v):=h.setCell (p:=⟨g,o,none⟩) hg v
theorem bx_new (h:IntAt w (.agg #[.bool s,.slice A l c]) n) (hg:w.heap.size=g):IntBx (w.alloc (.cells #[.bool s,.slice A l c] 53)) g n:=
 ⟨_,_,_,_,Bx.newAt w [.bool s,.slice A l c] 53 g hg,h.keep (Keep.alloc _ _)⟩
theorem bx_new0 (h:IntAt w (.agg #[.bool s,.slice A l c]) n):IntBx (w.alloc (.cells #[.bool s,.slice A l c] 53)) w.heap.size n:=bx_new h rfl
theorem bx_new1 {o:Obj} (h:IntAt (w.alloc o) (.agg #[.bool s,.slice A l c]) n):IntBx ((w.alloc o).alloc (.cells #[.bool s,.slice A l c] 53)) (w.heap.size+1) n:=bx_new h (World.size_alloc _ _)
theorem bx_alloc {o:Obj} (h:IntBx w g n):IntBx (w.alloc o) g n:=h.below ((Below.refl _ _).alloc (Nat.le_refl _) _)
theorem bx_drew (h:IntBx w g n):IntBx w.drew g n:=h.below (Below.refl _ _).drew
theorem bx_same (h:IntBx w g m) (hn:IntAt w (.agg #[.bool s,.slice A l c]) n):IntBx ((w.setCell ⟨g,0,none⟩ (.bool s)).setCell ⟨g,1,none⟩ (.slice A l c)) g n:=(h.stored hn).1
theorem bx_other (h':IntBx w g' m) (hn:IntAt w (.agg #[.bool s,.slice A l c]) n') (hne:g≠g') (h:IntBx w g n):IntBx ((w.setCell ⟨g',0,none⟩ (.bool s)).setCell ⟨g',1,none⟩ (.slice A l c)) g n:=h.step (h'.stored hn).2 hne
theorem zb (D:Bx w g [.bool false,.slice none 0 0] 53):IntBx w g 0:=⟨_,_,_,_,D,IntAt.zero _⟩
theorem late1 {W0:World} (h:IntAt w (.agg #[.bool s,.slice A l c]) n) (hB:Below W0.heap.size W0 w):IntBx (w.alloc (.cells #[.bool s,.slice A l c] 53)) w.heap.size n∧Below W0.heap.size W0 (w.alloc (.cells #[.bool s,.slice A l c] 53)):=⟨bx_new0 h,ua hB⟩
theorem early1 {W0:World} (I:IntBx w g m) (h:IntAt w (.agg #[.bool s,.slice A l c]) n) (hB:Below W0.heap.size W0 w) (hl:W0.heap.size≤g):
  IntBx ((w.setCell ⟨g,0,none⟩ (.bool s)).setCell ⟨g,1,none⟩ (.slice A l c)) g n∧Below W0.heap.size W0 ((w.setCell ⟨g,0,none⟩ (.bool s)).setCell ⟨g,1,none⟩ (.slice A l c)):=⟨bx_same I h,us (us hB hl) hl⟩
theorem at_put {v:Value} (h':IntBx w g' m) (hn:IntAt w (.agg #[.bool s,.slice A l c]) n') (h:IntAt w v n):IntAt ((w.setCell ⟨g',0,none⟩ (.bool s)).setCell ⟨g',1,none⟩ (.slice A l c)) v n:=h.keep (h'.stored hn).2.1
theorem two_early {W0:World} {m':Int} {s':Bool} {A':Option Addr} {l' c':Nat} (I:IntBx w g m) (J:IntBx w g' m') (h:IntAt w (.agg #[.bool s,.slice A l c]) n) (k:IntAt w (.agg #[.bool s',.slice A' l' c']) n') (hne:g≠g') (hB:Below W0.heap.size W0 w) (hl:W0.heap.size≤g) (hl':W0.heap.size≤g'):
  IntBx ((((w.setCell ⟨g,0,none⟩ (.bool s)).setCell ⟨g,1,none⟩ (.slice A l c)).setCell ⟨g',0,none⟩ (.bool s')).setCell ⟨g',1,none⟩ (.slice A' l' c')) g n∧
  IntBx ((((w.setCell ⟨g,0,none⟩ (.bool s)).setCell ⟨g,1,none⟩ (.slice A l c)).setCell ⟨g',0,none⟩ (.bool s')).setCell ⟨g',1,none⟩ (.slice A' l' c')) g' n'∧
  Below W0.heap.size W0 ((((w.setCell ⟨g,0,none⟩ (.bool s)).setCell ⟨g,1,none⟩ (.slice A l c)).setCell ⟨g',0,none⟩ (.bool s')).setCell ⟨g',1,none⟩ (.slice A' l' c')):=by
 have a:=bx_same I h
 have b:=bx_other I h (fun e=>hne e.symm) J
 have c:=at_put I h k
 exact⟨bx_other b c hne a,bx_same b c,us (us (us (us hB hl) hl) hl') hl'⟩
theorem late2 {W0:World} {s':Bool} {A':Option Addr} {l' c':Nat} (h:IntAt w (.agg #[.bool s,.slice A l c]) n) (k:IntAt w (.agg #[.bool s',.slice A' l' c']) n') (hB:Below W0.heap.size W0 w):
  IntBx ((w.alloc (.cells #[.bool s,.slice A l c] 53)).alloc (.cells #[.bool s',.slice A' l' c'] 53)) w.heap.size n∧
  IntBx ((w.alloc (.cells #[.bool s,.slice A l c] 53)).alloc (.cells #[.bool s',.slice A' l' c'] 53)) (w.heap.size+1) n'∧
  Below W0.heap.size W0 ((w.alloc (.cells #[.bool s,.slice A l c] 53)).alloc (.cells #[.bool s',.slice A' l' c'] 53)):=
 ⟨bx_alloc (bx_new0 h),bx_new1 (k.keep (Keep.alloc _ _)),ua (ua hB)⟩
theorem late2' {W0:World} {s':Bool} {A':Option Addr} {l' c':Nat} (h:IntAt w (.agg #[.bool s,.slice A l c]) n) (k:IntAt w (.agg #[.bool s',.slice A' l' c']) n') (hB:Below W0.heap.size W0 w):
  IntBx ((w.alloc (.cells #[.bool s',.slice A' l' c'] 53)).alloc (.cells #[.bool s,.slice A l c] 53)) (w.heap.size+1) n∧
  IntBx ((w.alloc (.cells #[.bool s',.slice A' l' c'] 53)).alloc (.cells #[.bool s,.slice A l c] 53)) w.heap.size n'∧
  Below W0.heap.size W0 ((w.alloc (.cells #[.bool s',.slice A' l' c'] 53)).alloc (.cells #[.bool s,.slice A l c] 53)):=by
 obtain⟨a,b,c⟩:=late2 k h hB
 exact⟨b,a,c⟩
theorem late_early {W0:World} {s':Bool} {A':Option Addr} {l' c':Nat} (h:IntAt w (.agg #[.bool s,.slice A l c]) n) (k:IntAt w (.agg #[.bool s',.slice A' l' c']) n') (J:IntBx w g' m) (hB:Below W0.heap.size W0 w) (hl:W0.heap.size≤g'):
  IntBx (((w.alloc (.cells #[.bool s,.slice A l c] 53)).setCell ⟨g',0,none⟩ (.bool s')).setCell ⟨g',1,none⟩ (.slice A' l' c')) w.heap.size n∧
  IntBx (((w.alloc (.cells #[.bool s,.slice A l c] 53)).setCell ⟨g',0,none⟩ (.bool s')).setCell ⟨g',1,none⟩ (.slice A' l' c')) g' n'∧
  Below W0.heap.size W0 (((w.alloc (.cells #[.bool s,.slice A l c] 53)).setCell ⟨g',0,none⟩ (.bool s')).setCell ⟨g',1,none⟩ (.slice A' l' c')):=
 ⟨bx_other (bx_alloc J) (k.keep (Keep.alloc _ _)) (by have:=J.lt;omega) (bx_new0 h),bx_same (bx_alloc J) (k.keep (Keep.alloc _ _)),us (us (ua hB) hl) hl⟩
theorem early_late {W0:World} {s':Bool} {A':Option Addr} {l' c':Nat} (I:IntBx w g m) (h:IntAt w (.agg #[.bool s,.slice A l c]) n) (k:IntAt w (.agg #[.bool s',.slice A' l' c']) n') (hB:Below W0.heap.size W0 w) (hl:W0.heap.size≤g):
  IntBx (((((w.alloc (.cells #[.bool false,.slice none 0 0] 53)).setCell ⟨g,0,none⟩ (.bool s)).setCell ⟨g,1,none⟩ (.slice A l c)).setCell ⟨w.heap.size,0,none⟩ (.bool s')).setCell ⟨w.heap.size,1,none⟩ (.slice A' l' c')) g n∧
  IntBx (((((w.alloc (.cells #[.bool false,.slice none 0 0] 53)).setCell ⟨g,0,none⟩ (.bool s)).setCell ⟨g,1,none⟩ (.slice A l c)).setCell ⟨w.heap.size,0,none⟩ (.bool s')).setCell ⟨w.heap.size,1,none⟩ (.slice A' l' c')) w.heap.size n'∧
  Below W0.heap.size W0 (((((w.alloc (.cells #[.bool false,.slice none 0 0] 53)).setCell ⟨g,0,none⟩ (.bool s)).setCell ⟨g,1,none⟩ (.slice A l c)).setCell ⟨w.heap.size,0,none⟩ (.bool s')).setCell ⟨w.heap.size,1,none⟩ (.slice A' l' c')):=
 two_early (bx_alloc I) (bx_new0 (IntAt.zero _)) (h.keep (Keep.alloc _ _)) (k.keep (Keep.alloc _ _)) (by have:=I.lt;omega) (ua hB) hl hB.size
end
end Go.Proofs.YtlojjipfnejbnaaGreatDoor
