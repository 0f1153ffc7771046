/-
  Contracts of functions that the statement reaches, and plain laws: Base.
-/
import Derived.Test.YtbhplgdbfmifkaaGreatDoorI01
import Derived.WalkKit
import Derived.WalkSpells
import Derived.WalkLawsBesides
import Derived.Deep.QuietTactic
import Derived.BigQuiet
import Derived.Lib.Hide
set_option linter.unusedVariables false
set_option linter.unusedSimpArgs false
set_option maxHeartbeats 8000000
set_option maxRecDepth 100000
namespace Go.Proofs.YtbhplgdbfmifkaaGreatDoor
open Go.RowKit Sos
def Cells (k:IntKind) (w:World) (g off:Nat) (zs:List Int):Prop:=∀i,i<zs.length→w.cell? ⟨g,off+i,none⟩=some (.int k (zs.getD i 0))
def Soft (w:World) (g:Nat):Prop:=∃cur t,w.heap[g]? =some (.cells cur t (0,0))
def VC (w:World) (g off:Nat) (cs:List Value):Prop:=∀i v,cs[i]? =some v→w.cell? ⟨g,off+i,none⟩=some v
def Rd (k:IntKind) (w:World) (A:Option Addr) (zs:List Int):Prop:=
 zs=[]∨∃b off,A=some ⟨b,off,none⟩∧b<w.heap.size∧Cells k w b off zs
section
variable {k:IntKind} {w w':World} {A:Option Addr} {zs:List Int} {g off:Nat}
theorem Rd.nil:Rd k w A []:= .inl rfl
theorem Rd.at_ (h:Rd k w A zs) (hne:0<zs.length):∃b off,A=some ⟨b,off,none⟩∧b<w.heap.size∧Cells k w b off zs:=by
 rcases h with h|h
 ·subst h;simp at hne
 ·exact h
theorem Rd.lt_of (h:Rd k w A zs) {b o:Nat} (e:A=some ⟨b,o,none⟩) (h0:0<zs.length):b≠w.heap.size:=by
 obtain⟨b',o',e',hb,_⟩:=h.at_ h0;rw[e] at e';injection e' with e';injection e';omega
theorem Rd.mk {b off:Nat} (hb:b<w.heap.size) (h:Cells k w b off zs):Rd k w (some ⟨b,off,none⟩) zs:= .inr ⟨b,off,rfl,hb,h⟩
theorem Cells.keep (h:Cells k w g off zs) (hb:w'.heap[g]? =w.heap[g]?):Cells k w' g off zs:=
 fun i hi=>(World.cell?_of_block (w:=w) (w':=w') (a:=⟨g,off+i,none⟩) hb).trans (h i hi)
theorem Cells.below {B:Nat} (h:Cells k w g off zs) (hb:Below B w w') (hg:g<B):Cells k w' g off zs:=h.keep (hb.block g hg)
theorem Rd.below (h:Rd k w A zs) (hb:Below w.heap.size w w'):Rd k w' A zs:=by
 rcases h with h|⟨b,off,rfl,hlt,hc⟩
 ·exact .inl h
 ·exact .inr ⟨b,off,rfl,Nat.lt_of_lt_of_le hlt hb.size,hc.below hb hlt⟩
def Old (w:World) (A:Option Addr):Prop:=∀a,A=some a→a.block<w.heap.size
theorem Old.mk {b off:Nat} {s:Option Nat} (h:b<w.heap.size):Old w (some ⟨b,off,s⟩):=by rintro a e;injection e with e;subst e;exact h
theorem Old.none:Old w none:=by rintro a e;cases e
theorem Old.mono (h:Old w A) (hs:w.heap.size≤w'.heap.size):Old w' A:=fun a e=>Nat.lt_of_lt_of_le (h a e) hs
theorem Old.ne (h:Old w A) {g n c:Nat} (hg:w.heap.size≤g):(Value.slice A n c).ownBlock≠some g:=by
 cases A with
 |none=>simp[Value.ownBlock]
 |some a=>
  have:=h a rfl;simp[Value.ownBlock];omega
theorem Rd.drew (h:Rd k w A zs):Rd k w.drew A zs:=h
theorem Rd.drewN (h:Rd k w A zs) (n:Nat):Rd k (w.drewN n) A zs:=h
theorem vO {g n c:Nat} (h:(Value.slice A n c).ownBlock≠some g):∀b o,A=some ⟨b,o,none⟩→0<n→b≠g:=by
 rintro b o rfl _ rfl;exact h (by simp[Value.ownBlock])
theorem Rd.grown {row:Option Nat} (h:Rd k w A zs) (hg:w.grownBy w' row) (hne:zs=[]∨∀b off,A=some ⟨b,off,none⟩→some b≠row):Rd k w' A zs:=by
 rcases h with h|⟨b,off,rfl,hlt,hc⟩
 ·exact .inl h
 ·rcases hne with hne|hne
  ·exact .inl hne
  ·exact .inr ⟨b,off,rfl,Nat.lt_of_lt_of_le hlt hg.size,hc.keep (hg.block b hlt (hne b off rfl))⟩
theorem Cells.take (h:Cells k w g off zs) (n:Nat):Cells k w g off (zs.take n):=by
 intro i hi;rw[List.length_take] at hi;rw[h i (by omega)];simp only[List.getD_eq_getElem?_getD,List.getElem?_take,if_pos (show i<n by omega)]
theorem Cells.drop (h:Cells k w g off zs) (n:Nat):Cells k w g (off+n) (zs.drop n):=by
 intro i hi;rw[List.length_drop] at hi;rw[Nat.add_assoc,h (n+i) (by omega)];simp only[List.getD_eq_getElem?_getD,List.getElem?_drop]
theorem Rd.take (h:Rd k w A zs) (n:Nat):Rd k w A (zs.take n):=by
 rcases h with h|⟨b,off,rfl,hlt,hc⟩
 ·subst h;exact .inl (by simp)
 ·exact .inr ⟨b,off,rfl,hlt,hc.take n⟩
theorem Cells.append {ys:List Int} (h:Cells k w g off zs) (h':Cells k w g (off+zs.length) ys):Cells k w g off (zs++ys):=by
 intro i hi;rw[List.length_append] at hi;by_cases hlt:i<zs.length
 ·rw[h i hlt];simp[List.getElem?_append_left hlt]
 ·have:=h' (i-zs.length) (by omega);rw[show off+zs.length+(i-zs.length)=off+i by omega] at this;rw[this];simp[List.getElem?_append_right (show zs.length≤i by omega)]
theorem Cells.set (h:Cells k w g off zs) {i:Nat} (hi:i<zs.length) (v:Int):Cells k (w.setCell ⟨g,off+i,none⟩ (.int k v)) g off (zs.set i v):=by
 intro j hj;rw[List.length_set] at hj;by_cases e:j=i
 ·subst e;rw[World.cell?_setCell_same _ _ _ (h j hj)];simp[List.getElem?_set_self hi]
 ·rw[World.cell?_setCell_other _ _ _ _ (by simp<;>omega),h j hj];simp only[List.getD_eq_getElem?_getD,List.getElem?_set_ne (show i≠j by omega)]
theorem Cells.far (h:Cells k w g off zs) {a:Addr} (ha:a.block≠g∨a.off<off∨off+zs.length≤a.off) (v:Value):Cells k (w.setCell a v) g off zs:=by
 intro j hj;rw[World.cell?_setCell_other _ _ _ _ (by intro e;subst e;simp at ha;omega),h j hj]
theorem Cells.lt (h:Cells k w g off zs) (hne:0<zs.length):g<w.heap.size:=block_lt_of_cell (h 0 hne)
theorem Cells.alloc (h:Cells k w g off zs) (hg:g<w.heap.size) (o:Obj):Cells k (w.alloc o) g off zs:=h.keep (Below.heap_alloc w o g hg)
theorem Soft.lt (h:Soft w g):g<w.heap.size:=by
 obtain⟨cur,t,h⟩:=h;exact(Array.getElem?_eq_some_iff.1 h).1
theorem Soft.free (h:Soft w g) (j:Nat):w.frozen? ⟨g,j,none⟩=false:=by
 obtain⟨cur,t,h⟩:=h;exact frozen_of_row w g j cur t h
theorem Soft.keep (h:Soft w g) (hb:w'.heap[g]? =w.heap[g]?):Soft w' g:=by
 obtain⟨cur,t,h⟩:=h;exact⟨cur,t,hb.trans h⟩
theorem Soft.below {B:Nat} (h:Soft w g) (hb:Below B w w') (hg:g<B):Soft w' g:=h.keep (hb.block g hg)
theorem Soft.alloc (h:Soft w g) (o:Obj):Soft (w.alloc o) g:=h.keep (Below.heap_alloc w o g h.lt)
theorem Soft.set (h:Soft w g) (a:Addr) (v:Value):Soft (w.setCell a v) g:=by
 obtain⟨cur,t,h⟩:=h;unfold Soft;by_cases e:a.block=g
 ·subst e;exact⟨if a.spot.isSome then cur else cur.setIfInBounds a.off v,t,by simp[World.setCell,Array.getElem?_modify,h]⟩
 ·exact⟨cur,t,(Below.heap_setCell w a v g (fun e'=>e e'.symm)).trans h⟩
theorem VC.cells (h:VC w g off (zs.map (Value.int k))):Cells k w g off zs:=by
 intro i hi;refine h i _ ?_;simp[List.getElem?_eq_getElem hi]
theorem Cells.vc (h:Cells k w g off zs):VC w g off (zs.map (Value.int k)):=by
 intro i v hv;rw[List.getElem?_map] at hv;rcases Nat.lt_or_ge i zs.length with hi|hi
 ·rw[List.getElem?_eq_getElem hi] at hv;have e:=h i hi;rw[e];simpa [List.getElem?_eq_getElem hi] using hv
 ·rw[List.getElem?_eq_none hi] at hv;simp at hv
theorem VC.keep {cs:List Value} (h:VC w g off cs) (hb:w'.heap[g]? =w.heap[g]?):VC w' g off cs:=
 fun i v hv=>(World.cell?_of_block (w:=w) (w':=w') (a:=⟨g,off+i,none⟩) hb).trans (h i v hv)
theorem VC.below {B:Nat} {cs:List Value} (h:VC w g off cs) (hb:Below B w w') (hg:g<B):VC w' g off cs:=h.keep (hb.block g hg)
theorem VC.drop {cs:List Value} (h:VC w g off cs) (n:Nat):VC w g (off+n) (cs.drop n):=by
 intro i v hv;rw[Nat.add_assoc];exact h _ _ (by rw[List.getElem?_drop] at hv;exact hv)
theorem VC.take {cs:List Value} (h:VC w g off cs) (n:Nat):VC w g off (cs.take n):=by
 intro i v hv;rw[List.getElem?_take] at hv;split at hv
 ·exact h _ _ hv
 ·cases hv
theorem kJ (w:World) (a:Addr) (v:Value):(w.setCell a v).heap.size=w.heap.size:=by simp[World.setCell]
end
def Shape (w:World) (g:Nat) (t:TypeId) (n:Nat):Prop:=∃cur,w.heap[g]? =some (.cells cur t (0,0))∧cur.size=n
theorem Shape.lt {w:World} {g n:Nat} {t:TypeId} (h:Shape w g t n):g<w.heap.size:=by
 obtain⟨cur,h,_⟩:=h;exact(Array.getElem?_eq_some_iff.1 h).1
theorem Shape.soft {w:World} {g n:Nat} {t:TypeId} (h:Shape w g t n):Soft w g:=by
 obtain⟨cur,h,_⟩:=h;exact⟨cur,t,h⟩
theorem Shape.keep {w w':World} {g n:Nat} {t:TypeId} (h:Shape w g t n) (hb:w'.heap[g]? =w.heap[g]?):Shape w' g t n:=by
 obtain⟨cur,h,hn⟩:=h;exact⟨cur,hb.trans h,hn⟩
theorem Shape.alloc {w:World} {g n:Nat} {t:TypeId} (h:Shape w g t n) (o:Obj):Shape (w.alloc o) g t n:=h.keep (Below.heap_alloc w o g h.lt)
theorem Shape.set {w:World} {g n:Nat} {t:TypeId} (h:Shape w g t n) (a:Addr) (v:Value):Shape (w.setCell a v) g t n:=by
 obtain⟨cur,h,hn⟩:=h;by_cases e:a.block=g
 ·subst e;refine⟨if a.spot.isSome then cur else cur.setIfInBounds a.off v,by simp[World.setCell,Array.getElem?_modify,h],?_⟩;split
  ·exact hn
  ·simpa using hn
 ·exact⟨cur,(Below.heap_setCell w a v g (fun e'=>e e'.symm)).trans h,hn⟩
structure Only (g off n:Nat) (w w':World):Prop where
 grown:w.grownBy w' (some g)
 rest:∀j,j<off∨off+n≤j→w'.cell? ⟨g,j,none⟩=w.cell? ⟨g,j,none⟩
 soft:Soft w g→Soft w' g
 shape:∀t m,Shape w g t m→Shape w' g t m
theorem vQ {a b c:World} {row:Option Nat} (h:a.grownBy b row) (k:b.grownBy c row):a.grownBy c row:=
 ⟨k.os.trans h.os,k.tape.trans h.tape,k.output.trans h.output,Nat.le_trans h.size k.size,fun i hi hne=>(k.block i (Nat.lt_of_lt_of_le hi h.size) hne).trans (h.block i hi hne)⟩
theorem oM {a b:World} (h:Below a.heap.size a b) (row:Option Nat):a.grownBy b row:=⟨h.os,h.tape,h.output,h.size,fun i hi _=>h.block i hi⟩
theorem kK {w:World} (a:Addr) (v:Value):w.grownBy (w.setCell a v) (some a.block):=
 ⟨rfl,rfl,rfl,by simp[World.setCell],fun i _ hne=>Below.heap_setCell w a v i (by rintro rfl;exact hne rfl)⟩
theorem Only.refl (g off n:Nat) (w:World):Only g off n w w:=⟨World.grownBy.refl _ _,fun _ _=>rfl,id,fun _ _ h=>h⟩
theorem Only.trans {g off n:Nat} {a b c:World} (h:Only g off n a b) (k:Only g off n b c):Only g off n a c:=
 ⟨vQ h.grown k.grown,fun j hj=>(k.rest j hj).trans (h.rest j hj),fun s=>k.soft (h.soft s),fun t m s=>k.shape t m (h.shape t m s)⟩
theorem Only.set {g off n:Nat} {a b:World} (h:Only g off n a b) {i:Nat} (hi:i<n) (v:Value):Only g off n a (b.setCell ⟨g,off+i,none⟩ v):=
 h.trans ⟨kK (w:=b) ⟨g,off+i,none⟩ v,fun j hj=>World.cell?_setCell_other _ _ _ _ (by simp<;>omega),fun s=>s.set _ _,fun _ _ s=>s.set _ _⟩
theorem Only.drew {g off n:Nat} {a b:World} (h:Only g off n a b):Only g off n a b.drew:=⟨⟨h.grown.os,h.grown.tape,h.grown.output,h.grown.size,h.grown.block⟩,h.rest,h.soft,h.shape⟩
theorem Only.drewN {g off n:Nat} {a b:World} (h:Only g off n a b) (m:Nat):Only g off n a (b.drewN m):=⟨⟨h.grown.os,h.grown.tape,h.grown.output,h.grown.size,h.grown.block⟩,h.rest,h.soft,h.shape⟩
theorem Only.below {g off n:Nat} {a b:World} (h:Only g off n a b) {B:Nat} (hB:B≤a.heap.size) (hg:B≤g):Below B a b:=
 ⟨h.grown.os,h.grown.tape,h.grown.output,h.grown.size,fun k hk=>h.grown.block k (by omega) (by intro e;injection e;omega)⟩
theorem Only.cells {g off n:Nat} {a b:World} (h:Only g off n a b) {k:IntKind} {g' off':Nat} {zs:List Int} (hc:Cells k a g' off' zs) (hlt:g'<a.heap.size)
  (hne:g'≠g∨off'+zs.length≤off∨off+n≤off'):Cells k b g' off' zs:=by
 by_cases e:g'=g
 ·subst e;intro i hi;rw[h.rest _ (by omega)];exact hc i hi
 ·exact hc.keep (h.grown.block g' hlt (by intro e';injection e';omega))
theorem Only.rd {g off n:Nat} {a b:World} (h:Only g off n a b) {k:IntKind} {A:Option Addr} {zs:List Int} (hr:Rd k a A zs)
  (hne:∀b' o',A=some ⟨b',o',none⟩→0<zs.length→b'≠g):Rd k b A zs:=by
 rcases hr with hr|⟨b',o',rfl,hlt,hc⟩
 ·exact .inl hr
 ·rcases Nat.eq_zero_or_pos zs.length with h0|h0
  ·exact .inl (List.eq_nil_of_length_eq_zero h0)
  ·exact .inr ⟨b',o',rfl,Nat.lt_of_lt_of_le hlt h.grown.size,h.cells hc hlt (.inl (hne b' o' rfl h0))⟩
theorem sI {P:Program} {f:FuncId} {args:Array Value} {w:World} {n:Nat} {v:Value}
  (h:Calls P f args (w.drewN n) fun e w'=>e= .returned v∧w.drewN n=w'):Calls P f args (w.drewN n) fun e w''=>e= .returned v∧∃m,w''=w.drewN m:=
 h.mono fun _ _ ⟨he,hm⟩=>⟨he,n,hm.symm⟩
theorem BX {P:Program} {f:FuncId} {args:Array Value} {w:World} {a n:Nat} {v:Value}
  (h:Calls P f args (w.drewN (a+n)) fun e w'=>e= .returned v∧w.drewN (a+n)=w'):Calls P f args (w.drewN (a+n)) fun e w''=>e= .returned v∧∃m,w''=w.drewN (a+m):=
 h.mono fun _ _ ⟨he,hm⟩=>⟨he,n,hm.symm⟩
theorem aB {a b w:World} (h:Below w.heap.size w a) (k:Below a.heap.size a b):Below w.heap.size w b:=h.trans (k.mono h.size)
theorem cH {B:Nat} {a w:World} (h:Below B a w) (n:Nat):Below B a (w.drewN n):=⟨h.os,h.tape,h.output,h.size,h.block⟩
end Go.Proofs.YtbhplgdbfmifkaaGreatDoor
