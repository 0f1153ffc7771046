/-
  Contracts of functions that the statement reaches, and plain laws: SubA.
-/
import Derived.Test.YtbhplgdbfmifkaaGreatDoorI19
import Derived.Test.YtbhplgdbfmifkaaGreatDoorI25
import Derived.Test.YtbhplgdbfmifkaaGreatDoorI26
import Derived.Test.YtbhplgdbfmifkaaGreatDoorI38
set_option linter.unusedVariables false
set_option linter.unusedSimpArgs false
set_option maxHeartbeats 8000000
set_option maxRecDepth 100000
namespace Go.Proofs.YtbhplgdbfmifkaaGreatDoor
open Go.RowKit Sos
theorem NatAt.unique {w:World} {u:Value} {a b:Nat} (ha:NatAt w u a) (hb:NatAt w u b):a=b:=by
 obtain⟨A,c,rfl,_,hr,_⟩:=ha;obtain⟨A',c',e,_,hr',_⟩:=hb;simp only[Value.slice.injEq] at e;obtain⟨rfl,el,_⟩:=e;have hd:dg a=dg b:=by
  refine List.ext_getElem? (fun i=> ?_);by_cases hi:i<nl a
  ·have hi':i<nl b:=by omega
   rcases hr with h|⟨g,off,rfl,_,hc⟩
   ·rw[←aJ,h] at hi;simp at hi
   ·rcases hr' with h|⟨g',off',e',_,hc'⟩
    ·rw[←aJ,h] at hi';simp at hi'
    ·simp only[Option.some.injEq,Addr.mk.injEq] at e';obtain⟨rfl,rfl,_⟩:=e';have h1:=hc i (by rw[aJ];exact hi);have h2:=hc' i (by rw[aJ];exact hi');rw[h1] at h2;simp only[Option.some.injEq,Value.int.injEq,true_and] at h2;rw[List.getElem?_eq_getElem (by rw[aJ];exact hi),List.getElem?_eq_getElem (by rw[aJ];exact hi')];rw[List.getD_eq_getElem?_getD,List.getD_eq_getElem?_getD,List.getElem?_eq_getElem (by rw[aJ];exact hi),List.getElem?_eq_getElem (by rw[aJ];exact hi')] at h2;exact congrArg some h2
  ·rw[List.getElem?_eq_none (by rw[aJ];omega),List.getElem?_eq_none (by rw[aJ];omega)]
 have h1:=bC a;have h2:=bC b;rw[hd,h2] at h1;omega
theorem IntAt.unique {w:World} {v:Value} {x y:Int} (hx:IntAt w v x) (hy:IntAt w v y):x=y:=by
 obtain⟨u,rfl,h1⟩:=hx;obtain⟨u',e,h2⟩:=hy;simp at e;obtain⟨e1,rfl⟩:=e;have:=h1.unique h2;omega
theorem WholeAt.off {w:World} {A:Option Addr} {l c g:Nat} {x m:Int} {ns:List Int} (h:WholeAt w (.slice A l c) (x :: ns)) (hG:IntBx w g m) (hne:x≠m):∀b,A=some ⟨b,0,none⟩→b≠g:=fun b e eb=>by
 subst eb;obtain⟨b',s,B,l',d,e',_,g0,g1,hi⟩:=h.at_ (i:=0) (n:=x) rfl;rw[e] at e';simp only[Option.some.injEq,Addr.mk.injEq] at e';obtain⟨rfl,_⟩:=e';obtain⟨s',A',k',c',C,hi'⟩:=hG;have h0:=C.cell 0 rfl;have h1:=C.cell 1 rfl;rw[Nat.zero_mul] at g0 g1;rw[g0] at h0;rw[g1] at h1;injection h0 with h0;injection h1 with h1;rw[h0,h1] at hi;exact hne (hi.unique hi')
end Go.Proofs.YtbhplgdbfmifkaaGreatDoor
