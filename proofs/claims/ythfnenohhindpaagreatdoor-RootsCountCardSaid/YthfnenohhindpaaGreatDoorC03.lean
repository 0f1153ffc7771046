/-
  Contracts, laws: Base.
-/
import Derived.Test.YthfnenohhindpaaGreatDoorC01
import Derived.WalkKit
import Derived.WalkSpells
import Derived.WalkLawsBesides
import Derived.Deep.QuietTactic
import Derived.BigQuiet
import Derived.Lib.Hide
set_option linter.all false
set_option maxHeartbeats 8000000
set_option maxRecDepth 100000
namespace Go.Proofs.YthfnenohhindpaaGreatDoor
open Go.RowKit Sos
def Cells (k:IntKind) (w:World) (g off:Nat) (zs:List Int):Prop:=∀i,i<zs.length->w.cell? ⟨g,off+i,none⟩=some (.int k (zs.getD i 0))
def Soft (w:World) (g:Nat):Prop:=∃cur t,w.heap[g]? =some (.cells cur t (0,0))
def VC (w:World) (g off:Nat) (cs:List Value):Prop:=∀i v,cs[i]? =some v->w.cell? ⟨g,off+i,none⟩=some v
def Rd (k:IntKind) (w:World) (A:Option Addr) (zs:List Int):Prop:=
 zs=[]∨∃b off,A=some ⟨b,off,none⟩∧b<w.heap.size∧Cells k w b off zs
section
variable {k:IntKind} {w w':World} {A:Option Addr} {zs:List Int} {g off:Nat}
theorem Rd.nil:Rd k w A []:= .inl rfl
theorem Rd.at_ (h:Rd k w A zs) (a:0<zs.length):∃b off,A=some ⟨b,off,none⟩∧b<w.heap.size∧Cells k w b off zs:=by
 rcases h with h|h
 ·subst h;simp at a
 ·exact h
theorem Rd.lt_of (h:Rd k w A zs) {b o:Nat} (e:A=some ⟨b,o,none⟩) (c:0<zs.length):b≠w.heap.size:=by
 obtain⟨d,i,a,f,_⟩:=h.at_ c;rw[e] at a;injection a with a;injection a;omega
theorem Rd.mk {b off:Nat} (a:b<w.heap.size) (h:Cells k w b off zs):Rd k w (some ⟨b,off,none⟩) zs:= .inr ⟨b,off,rfl,a,h⟩
theorem Cells.keep (h:Cells k w g off zs) (b:w'.heap[g]? =w.heap[g]?):Cells k w' g off zs:=
 fun i c=>(World.cell?_of_block (w:=w) (w':=w') (a:=⟨g,off+i,none⟩) b).trans (h i c)
theorem Cells.below {B:Nat} (h:Cells k w g off zs) (a:Below B w w') (b:g<B):Cells k w' g off zs:=h.keep (a.block g b)
theorem Rd.below (h:Rd k w A zs) (a:Below w.heap.size w w'):Rd k w' A zs:=by
 rcases h with h|⟨b,off,rfl,c,d⟩
 ·exact .inl h
 ·exact .inr ⟨b,off,rfl,aU c a.size,d.below a c⟩
def Old (w:World) (A:Option Addr):Prop:=∀a,A=some a->a.block<w.heap.size
theorem Old.mk {b off:Nat} {s:Option Nat} (h:b<w.heap.size):Old w (some ⟨b,off,s⟩):=by rintro a e;injection e with e;subst e;exact h
theorem Old.none:Old w none:=by rintro a e;cases e
theorem Old.mono (h:Old w A) (b:w.heap.size<=w'.heap.size):Old w' A:=fun a e=>aU (h a e) b
theorem Old.ne (h:Old w A) {g n c:Nat} (b:w.heap.size<=g):(Value.slice A n c).ownBlock≠some g:=by
 cases A with
 |none=>simp[Value.ownBlock]
 |some a=>
  have:=h a rfl;simp[Value.ownBlock];omega
theorem Rd.drew (h:Rd k w A zs):Rd k w.drew A zs:=h
theorem Rd.drewN (h:Rd k w A zs) (n:Nat):Rd k (w.drewN n) A zs:=h
theorem vW {g n c:Nat} (h:(Value.slice A n c).ownBlock≠some g):∀b o,A=some ⟨b,o,none⟩->0<n->b≠g:=by
 rintro b o rfl _ rfl;exact h (by simp[Value.ownBlock])
theorem Rd.grown {e:Option Nat} (h:Rd k w A zs) (c:w.grownBy w' e) (a:zs=[]∨∀b off,A=some ⟨b,off,none⟩->some b≠e):Rd k w' A zs:=by
 rcases h with h|⟨b,off,rfl,d,f⟩
 ·exact .inl h
 ·rcases a with a|a
  ·exact .inl a
  ·exact .inr ⟨b,off,rfl,aU d c.size,f.keep (c.block b d (a b off rfl))⟩
theorem Cells.take (h:Cells k w g off zs) (n:Nat):Cells k w g off (zs.take n):=by
 intro i a;rw[aZ] at a;rw[h i (by omega)];simp only[dF,List.getElem?_take,if_pos (show i<n by omega)]
theorem Cells.drop (h:Cells k w g off zs) (n:Nat):Cells k w g (off+n) (zs.drop n):=by
 intro i a;rw[List.length_drop] at a;rw[Nat.add_assoc,h (n+i) (by omega)];simp only[dF,List.getElem?_drop]
theorem Rd.take (h:Rd k w A zs) (n:Nat):Rd k w A (zs.take n):=by
 rcases h with h|⟨b,off,rfl,c,a⟩
 ·subst h;exact .inl (by simp)
 ·exact .inr ⟨b,off,rfl,c,a.take n⟩
theorem Cells.append {ys:List Int} (h:Cells k w g off zs) (b:Cells k w g (off+zs.length) ys):Cells k w g off (zs++ys):=by
 intro i c;rw[aY] at c;by_cases a:i<zs.length
 ·rw[h i a];simp[f8 a]
 ·have:=b (i-zs.length) (by omega);rw[show off+zs.length+(i-zs.length)=off+i by omega] at this;rw[this];simp[dS (show zs.length<=i by omega)]
theorem Cells.set (h:Cells k w g off zs) {i:Nat} (hi:i<zs.length) (v:Int):Cells k (w.setCell ⟨g,off+i,none⟩ (.int k v)) g off (zs.set i v):=by
 intro j a;rw[List.length_set] at a;by_cases e:j=i
 ·subst e;rw[World.cell?_setCell_same _ _ _ (h j a)];simp[List.getElem?_set_self hi]
 ·rw[World.cell?_setCell_other _ _ _ _ (by simp<;>omega),h j a];simp only[dF,List.getElem?_set_ne (show i≠j by omega)]
theorem Cells.far (h:Cells k w g off zs) {a:Addr} (b:a.block≠g∨a.off<off∨off+zs.length<=a.off) (v:Value):Cells k (w.setCell a v) g off zs:=by
 intro j c;rw[World.cell?_setCell_other _ _ _ _ (by intro e;subst e;simp at b;omega),h j c]
theorem Cells.lt (h:Cells k w g off zs) (a:0<zs.length):g<w.heap.size:=block_lt_of_cell (h 0 a)
theorem Cells.alloc (h:Cells k w g off zs) (a:g<w.heap.size) (o:Obj):Cells k (w.alloc o) g off zs:=h.keep (Below.heap_alloc w o g a)
theorem Soft.lt (h:Soft w g):g<w.heap.size:=by
 obtain⟨a,t,h⟩:=h;exact(Array.getElem?_eq_some_iff.1 h).1
theorem Soft.free (h:Soft w g) (j:Nat):w.frozen? ⟨g,j,none⟩=false:=by
 obtain⟨a,t,h⟩:=h;exact frozen_of_row w g j a t h
theorem Soft.keep (h:Soft w g) (b:w'.heap[g]? =w.heap[g]?):Soft w' g:=by
 obtain⟨a,t,h⟩:=h;exact⟨a,t,b.trans h⟩
theorem Soft.below {B:Nat} (h:Soft w g) (a:Below B w w') (b:g<B):Soft w' g:=h.keep (a.block g b)
theorem Soft.alloc (h:Soft w g) (o:Obj):Soft (w.alloc o) g:=h.keep (Below.heap_alloc w o g h.lt)
theorem Soft.set (h:Soft w g) (a:Addr) (v:Value):Soft (w.setCell a v) g:=by
 obtain⟨b,t,h⟩:=h;unfold Soft;by_cases e:a.block=g
 ·subst e;exact⟨if a.spot.isSome then b else b.setIfInBounds a.off v,t,by simp[World.setCell,Array.getElem?_modify,h]⟩
 ·exact⟨b,t,(Below.heap_setCell w a v g (fun c=>e c.symm)).trans h⟩
theorem VC.cells (h:VC w g off (zs.map (Value.int k))):Cells k w g off zs:=by
 intro i a;refine h i _ ?_;simp[aL a]
theorem Cells.vc (h:Cells k w g off zs):VC w g off (zs.map (Value.int k)):=by
 intro i v hv;rw[List.getElem?_map] at hv;rcases Nat.lt_or_ge i zs.length with a|a
 ·rw[aL a] at hv;have e:=h i a;rw[e];simpa [aL a] using hv
 ·rw[eF a] at hv;simp at hv
theorem VC.keep {cs:List Value} (h:VC w g off cs) (b:w'.heap[g]? =w.heap[g]?):VC w' g off cs:=
 fun i v hv=>(World.cell?_of_block (w:=w) (w':=w') (a:=⟨g,off+i,none⟩) b).trans (h i v hv)
theorem VC.below {B:Nat} {cs:List Value} (h:VC w g off cs) (a:Below B w w') (b:g<B):VC w' g off cs:=h.keep (a.block g b)
theorem VC.drop {cs:List Value} (h:VC w g off cs) (n:Nat):VC w g (off+n) (cs.drop n):=by
 intro i v hv;rw[Nat.add_assoc];exact h _ _ (by rw[List.getElem?_drop] at hv;exact hv)
theorem VC.take {cs:List Value} (h:VC w g off cs) (n:Nat):VC w g off (cs.take n):=by
 intro i v hv;rw[List.getElem?_take] at hv;split at hv
 ·exact h _ _ hv
 ·cases hv
theorem lC (w:World) (a:Addr) (v:Value):(w.setCell a v).heap.size=w.heap.size:=by simp[World.setCell]
end
def Shape (w:World) (g:Nat) (t:TypeId) (n:Nat):Prop:=∃cur,w.heap[g]? =some (.cells cur t (0,0))∧cur.size=n
theorem Shape.lt {w:World} {g n:Nat} {t:TypeId} (h:Shape w g t n):g<w.heap.size:=by
 obtain⟨a,h,_⟩:=h;exact(Array.getElem?_eq_some_iff.1 h).1
theorem Shape.soft {w:World} {g n:Nat} {t:TypeId} (h:Shape w g t n):Soft w g:=by
 obtain⟨a,h,_⟩:=h;exact⟨a,t,h⟩
theorem Shape.keep {w w':World} {g n:Nat} {t:TypeId} (h:Shape w g t n) (b:w'.heap[g]? =w.heap[g]?):Shape w' g t n:=by
 obtain⟨a,h,hn⟩:=h;exact⟨a,b.trans h,hn⟩
theorem Shape.alloc {w:World} {g n:Nat} {t:TypeId} (h:Shape w g t n) (o:Obj):Shape (w.alloc o) g t n:=h.keep (Below.heap_alloc w o g h.lt)
theorem Shape.set {w:World} {g n:Nat} {t:TypeId} (h:Shape w g t n) (a:Addr) (v:Value):Shape (w.setCell a v) g t n:=by
 obtain⟨b,h,hn⟩:=h;by_cases e:a.block=g
 ·subst e;refine⟨if a.spot.isSome then b else b.setIfInBounds a.off v,by simp[World.setCell,Array.getElem?_modify,h],?_⟩;split
  ·exact hn
  ·simpa using hn
 ·exact⟨b,(Below.heap_setCell w a v g (fun c=>e c.symm)).trans h,hn⟩
structure Only (g off n:Nat) (w w':World):Prop where
 grown:w.grownBy w' (some g)
 rest:∀j,j<off∨off+n<=j->w'.cell? ⟨g,j,none⟩=w.cell? ⟨g,j,none⟩
 soft:Soft w g->Soft w' g
 shape:∀t m,Shape w g t m->Shape w' g t m
theorem vX {a b c:World} {d:Option Nat} (h:a.grownBy b d) (k:b.grownBy c d):a.grownBy c d:=
 ⟨k.os.trans h.os,k.tape.trans h.tape,k.output.trans h.output,aG h.size k.size,fun i e f=>(k.block i (aU e h.size) f).trans (h.block i e f)⟩
theorem oQ {a b:World} (h:Below a.heap.size a b) (c:Option Nat):a.grownBy b c:=⟨h.os,h.tape,h.output,h.size,fun i hi _=>h.block i hi⟩
theorem lE {w:World} (a:Addr) (v:Value):w.grownBy (w.setCell a v) (some a.block):=
 ⟨rfl,rfl,rfl,by simp[World.setCell],fun i _ b=>Below.heap_setCell w a v i (by rintro rfl;exact b rfl)⟩
theorem Only.refl (g off n:Nat) (w:World):Only g off n w w:=⟨World.grownBy.refl _ _,fun _ _=>rfl,id,fun _ _ h=>h⟩
theorem Only.trans {g off n:Nat} {a b c:World} (h:Only g off n a b) (k:Only g off n b c):Only g off n a c:=
 ⟨vX h.grown k.grown,fun j d=>(k.rest j d).trans (h.rest j d),fun s=>k.soft (h.soft s),fun t m s=>k.shape t m (h.shape t m s)⟩
theorem Only.set {g off n:Nat} {a b:World} (h:Only g off n a b) {i:Nat} (hi:i<n) (v:Value):Only g off n a (b.setCell ⟨g,off+i,none⟩ v):=
 h.trans ⟨lE (w:=b) ⟨g,off+i,none⟩ v,fun j c=>World.cell?_setCell_other _ _ _ _ (by simp<;>omega),fun s=>s.set _ _,fun _ _ s=>s.set _ _⟩
theorem Only.drew {g off n:Nat} {a b:World} (h:Only g off n a b):Only g off n a b.drew:=⟨⟨h.grown.os,h.grown.tape,h.grown.output,h.grown.size,h.grown.block⟩,h.rest,h.soft,h.shape⟩
theorem Only.drewN {g off n:Nat} {a b:World} (h:Only g off n a b) (m:Nat):Only g off n a (b.drewN m):=⟨⟨h.grown.os,h.grown.tape,h.grown.output,h.grown.size,h.grown.block⟩,h.rest,h.soft,h.shape⟩
theorem Only.below {g off n:Nat} {a b:World} (h:Only g off n a b) {B:Nat} (c:B<=a.heap.size) (d:B<=g):Below B a b:=
 ⟨h.grown.os,h.grown.tape,h.grown.output,h.grown.size,fun k f=>h.grown.block k (by omega) (by intro e;injection e;omega)⟩
theorem Only.cells {g off n:Nat} {a b:World} (h:Only g off n a b) {k:IntKind} {g' c:Nat} {zs:List Int} (d:Cells k a g' c zs) (l:g'<a.heap.size)
  (m:g'≠g∨c+zs.length<=off∨off+n<=c):Cells k b g' c zs:=by
 by_cases e:g'=g
 ·subst e;intro i j;rw[h.rest _ (by omega)];exact d i j
 ·exact d.keep (h.grown.block g' l (by intro f;injection f;omega))
theorem Only.rd {g off n:Nat} {a b:World} (h:Only g off n a b) {k:IntKind} {A:Option Addr} {zs:List Int} (f:Rd k a A zs)
  (l:∀c d,A=some ⟨c,d,none⟩->0<zs.length->c≠g):Rd k b A zs:=by
 rcases f with f|⟨c,d,rfl,i,j⟩
 ·exact .inl f
 ·rcases Nat.eq_zero_or_pos zs.length with e|e
  ·exact .inl (bM e)
  ·exact .inr ⟨c,d,rfl,aU i h.grown.size,h.cells j i (.inl (l c d rfl e))⟩
theorem sJ {P:Program} {f:FuncId} {args:Array Value} {w:World} {n:Nat} {v:Value}
  (h:Calls P f args (w.drewN n) fun e w'=>e= .returned v∧w.drewN n=w'):Calls P f args (w.drewN n) fun e c=>e= .returned v∧∃m,c=w.drewN m:=
 h.mono fun _ _ ⟨a,b⟩=>⟨a,n,b.symm⟩
theorem BX {P:Program} {f:FuncId} {args:Array Value} {w:World} {a n:Nat} {v:Value}
  (h:Calls P f args (w.drewN (a+n)) fun e w'=>e= .returned v∧w.drewN (a+n)=w'):Calls P f args (w.drewN (a+n)) fun e d=>e= .returned v∧∃m,d=w.drewN (a+m):=
 h.mono fun _ _ ⟨b,c⟩=>⟨b,n,c.symm⟩
theorem aC {a b w:World} (h:Below w.heap.size w a) (k:Below a.heap.size a b):Below w.heap.size w b:=h.trans (k.mono h.size)
theorem dH {B:Nat} {a w:World} (h:Below B a w) (n:Nat):Below B a (w.drewN n):=⟨h.os,h.tape,h.output,h.size,h.block⟩
