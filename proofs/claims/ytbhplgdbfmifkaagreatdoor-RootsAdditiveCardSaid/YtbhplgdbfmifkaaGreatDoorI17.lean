/-
  Contracts of functions that the statement reaches, and plain laws: Own, IntA, IntB, IntC, IntD, AccA.
-/
import Derived.Test.YtbhplgdbfmifkaaGreatDoorI16
import Derived.Deep.RegionHeld3
import Derived.Deep.DeepCutAuto
set_option linter.unusedVariables false
set_option linter.unusedSimpArgs false
set_option maxHeartbeats 8000000
set_option maxRecDepth 100000
namespace Go.Proofs.YtbhplgdbfmifkaaGreatDoor
open Go.RowKit Sos
theorem OwnN.slice {w:World} {B:Nat} {v:Value} {zs:List Int} (h:OwnN w B v zs):∃A c,v= .slice A zs.length c:=by
 rcases h.2 with ⟨rfl,e⟩|⟨g,cap,cur,rfl,_⟩
 ·exact⟨none,0,by rw[e]⟩
 ·exact⟨_,cap,rfl⟩
theorem OwnN.parts {w:World} {B n c:Nat} {A:Option Addr} {zs:List Int} (h:OwnN w B (.slice A n c) zs) (h0:0<zs.length):
  ∃g,A=some ⟨g,0,none⟩∧B≤g∧n≤c∧c≤maxLen∧Shape w g 161 c∧Cells .u64 w g 0 zs:=by
 obtain⟨g,cap,e,h1,h2,h3,h4,h5⟩:=h.at_ h0;simp only[Value.slice.injEq] at e;obtain⟨e1,e2,e3⟩:=e;subst e3;exact⟨g,e1,h1,by omega,h3,h4,h5⟩
theorem OwnN.set {w:World} {B g n c:Nat} {zs:List Int} (h:OwnN w B (.slice (some ⟨g,0,none⟩) n c) zs) {k:Nat} (hk:k<zs.length) (d:Int):OwnN (w.setCell ⟨g,k,none⟩ (.int .u64 d)) B (.slice (some ⟨g,0,none⟩) n c) (zs.set k d):=by
 obtain⟨g',c',e,h1,h2,h3,h4,h5⟩:=h.at_ (by omega);simp only[Value.slice.injEq,Option.some.injEq,Addr.mk.injEq] at e;obtain⟨⟨e1, -, -⟩,e2,e3⟩:=e;subst e1 e3;have:=OwnN.of (h4.set ⟨g,k,none⟩ (.int .u64 d)) (by have:=h5.set hk d;rw[Nat.zero_add] at this;exact this) h1 (by simpa using h2) h3;rw[List.length_set,←e2] at this;exact this
theorem NatAt.grown {w w':World} {v:Value} {n:Nat} {row:Option Nat} (h:NatAt w v n) (hg:w.grownBy w' row) (hne:∀g,row=some g→v.ownBlock≠some g):NatAt w' v n:=by
 obtain⟨A,c,rfl,hc,hr,ho⟩:=h;refine⟨A,c,rfl,hc,hr.grown hg (.inr ?_),ho.mono hg.size⟩;rintro b off rfl e;exact hne b e.symm rfl
theorem NatAt.block {w:World} {v:Value} {n:Nat} (h:NatAt w v n) {g:Nat} (e:v.ownBlock=some g):g<w.heap.size:=by
 obtain⟨A,c,rfl,hc,hr,ho⟩:=h;cases A with
 |none=>simp[Value.ownBlock] at e
 |some a=>have:=ho a rfl;simp[Value.ownBlock] at e;omega
theorem iD (w:World) (u:Value) (t:TypeId):Src (w.alloc (.cells #[u] t)) (some ⟨w.heap.size,0,none⟩) [u]:=by
 refine .inr ⟨_,_,rfl,fun i v hv=> ?_⟩;match i,hv with
 |0,hv=>simp at hv;subst hv;simp[go_sem]
theorem BM (w:World) (u:Value) (t:TypeId) (g:Nat) (hg:w.heap.size=g):Src (w.alloc (.cells #[u] t)) (some ⟨g,0,none⟩) [u]:=by subst hg;exact iD w u t
def TxtTo (w:World) (tv:Value) (w':World) (v:Value):Prop:=w.grownBy w' tv.ownBlock∧∀g,v.ownBlock=some g→tv.ownBlock=some g∨w.heap.size≤g
def Apart (a b:Value):Prop:=∀g,a.ownBlock=some g→b.ownBlock≠some g
theorem TxtTo.refl (w:World) (v:Value):TxtTo w v w v:=⟨World.grownBy.refl w _,fun _ h=> .inl h⟩
theorem TxtTo.trans {w w1 w2:World} {a b c:Value} (h:TxtTo w a w1 b) (k:TxtTo w1 b w2 c):TxtTo w a w2 c:=by
 refine⟨⟨k.1.os.trans h.1.os,k.1.tape.trans h.1.tape,k.1.output.trans h.1.output,Nat.le_trans h.1.size k.1.size,fun i hi hne=> ?_⟩,fun g hg=> ?_⟩
 ·refine(k.1.block i (Nat.lt_of_lt_of_le hi h.1.size) (fun e=> ?_)).trans (h.1.block i hi hne);rcases h.2 i e.symm with h'|h'
  ·exact hne h'.symm
  ·omega
 ·rcases k.2 g hg with h'|h'
  ·exact h.2 g h'
  ·exact .inr (Nat.le_trans h.1.size h')
theorem TxtTo.below {w w1:World} {a:Value} (hb:Below w.heap.size w w1):TxtTo w a w1 a:=⟨oM hb _,fun _ h=> .inl h⟩
theorem TxtTo.belowB {w w':World} {B:Nat} {a b:Value} (h:TxtTo w a w' b) (hB:B≤w.heap.size) (ha:∀g,a.ownBlock=some g→B≤g):Below B w w':=
 ⟨h.1.os,h.1.tape,h.1.output,h.1.size,fun k hk=>h.1.block k (by omega) (fun e=>by have:=ha k e.symm;omega)⟩
theorem NatAt.txt {w w':World} {v a b:Value} {n:Nat} (h:NatAt w v n) (ht:TxtTo w a w' b) (hne:Apart a v):NatAt w' v n:=h.grown ht.1 hne
theorem TxtTo.apart {w w':World} {a b v:Value} (h:TxtTo w a w' b) (hne:Apart a v) (hv:∀g,v.ownBlock=some g→g<w.heap.size):Apart b v:=by
 intro g hg e;rcases h.2 g hg with h'|h'
 ·exact hne g h' e
 ·have:=hv g e;omega
theorem TxtTo.step {w w1 w2:World} {a b:Value} {g:Nat} (h:TxtTo w a w1 b) (hg:w1.grownBy w2 (some g)) (hl:w.heap.size≤g):TxtTo w a w2 b:=
 ⟨⟨hg.os.trans h.1.os,hg.tape.trans h.1.tape,hg.output.trans h.1.output,Nat.le_trans h.1.size hg.size,fun i hi hne=>(hg.block i (Nat.lt_of_lt_of_le hi h.1.size) (fun e=>by injection e;omega)).trans (h.1.block i hi hne)⟩,h.2⟩
theorem Shape.grown {w w':World} {g n:Nat} {t:TypeId} {row:Option Nat} (h:Shape w g t n) (hg:w.grownBy w' row) (hne:row≠some g):Shape w' g t n:=h.keep (hg.block g h.lt (fun e=>hne e.symm))
theorem VC.grown {w w':World} {g off:Nat} {cs:List Value} {row:Option Nat} (h:VC w g off cs) (hg:w.grownBy w' row) (hlt:g<w.heap.size) (hne:row≠some g):VC w' g off cs:=h.keep (hg.block g hlt (fun e=>hne e.symm))
theorem OwnN.grown {w w':World} {B:Nat} {v:Value} {zs:List Int} {row:Option Nat} (h:OwnN w B v zs) (hg:w.grownBy w' row) (hne:∀g,row=some g→v.ownBlock≠some g):OwnN w' B v zs:=by
 refine World.ownsRow.kept h hg ?_;cases hv:v.ownBlock with
 |none=>exact .inl rfl
 |some a=>exact .inr (fun e=>hne a e.symm hv)
def IntAt (w:World) (v:Value) (n:Int):Prop:=∃u,v= .agg #[.bool (decide (n<0)),u]∧NatAt w u n.natAbs
def bW (w:World) (n:Int) (e:Ending) (w':World):Prop:=∃v,e= .returned v∧IntAt w' v n∧Below w.heap.size w w'
theorem IntAt.below {w w':World} {v:Value} {n:Int} (h:IntAt w v n) (hb:Below w.heap.size w w'):IntAt w' v n:=by
 obtain⟨u,hv,hu⟩:=h;exact⟨u,hv,hu.below hb⟩
theorem lV (neg:Bool) (u:Value) (m:Nat) (n:Int) (w:World) (hu:NatAt w u m) (hm:nl m≤17592186044416) (hn:n=if neg then -(m:Int) else m):
  Calls Tryz.prog 68 #[.bool neg,u] w fun e w'=>e= .returned (.agg #[.bool (decide (n<0)),u])∧Below w.heap.size w w':=by
 obtain⟨A,c,rfl,hc,hr,ho⟩:=hu;cases neg with
 |false=>
  have hd:decide (n<0)=false:=by simp at hn;simp;omega
  rw[hd];clear hd hn;go_enter Tryz.func68,Tryz.ntmps68;go_wp2;exact bodyPost_ret (v:= .agg #[.bool false,.slice A (nl m) c]) (by simp[results,Tryz.results68,go_sem]) rfl ⟨rfl,(Below.refl _ _).alloc (Nat.le_refl _) _⟩
 |true=>
  by_cases h0:m=0
  ·have hd:decide (n<0)=false:=by subst h0;simp at hn;simp;omega
   have hq:¬0<nl m:=by rw[h0,cC];omega
   have hq2:¬(0:Int)<(nl m:Int):=by omega
   rw[hd];clear hd hn h0;go_enter Tryz.func68,Tryz.ntmps68;go_wp2;exact bodyPost_ret (v:= .agg #[.bool false,.slice A (nl m) c]) (by simp[results,Tryz.results68,go_sem,hq]) rfl ⟨rfl,(Below.refl _ _).alloc (Nat.le_refl _) _⟩
  ·have hd:decide (n<0)=true:=by simp at hn;simp;omega
   have hq:0<nl m:=eQ h0;have hq2:(0:Int)<(nl m:Int):=by omega
   rw[hd];clear hd hn h0;go_enter Tryz.func68,Tryz.ntmps68;go_wp2;exact bodyPost_ret (v:= .agg #[.bool true,.slice A (nl m) c]) (by simp[results,Tryz.results68,go_sem,hq]) rfl ⟨rfl,(Below.refl _ _).alloc (Nat.le_refl _) _⟩
theorem cU (n:Int) (v:Value) (w:World) (hv:IntAt w v n) (hm:nl n.natAbs≤17592186044416):
  Calls Tryz.prog 62 #[v] w fun e w'=>e= .returned (.bool (decide (n=0)))∧Below w.heap.size w w':=by
 obtain⟨u,rfl,A,c,rfl,hc,hr,ho⟩:=hv;by_cases h0:n=0
 ·have q0:((nl n.natAbs:Int)==0)=true:=by rw[h0,show(0:Int).natAbs=0 from rfl,cC];rfl
  have hd:decide (n=0)=true:=by simpa using h0
  rw[hd];clear hd h0;go_enter Tryz.func62,Tryz.ntmps62;go_wp2;go_ret;exact⟨rfl,(Below.refl _ _).alloc (Nat.le_refl _) _⟩
 ·have h1:=eQ (show n.natAbs≠0 by omega);have q0:((nl n.natAbs:Int)==0)=false:=by simp;omega
  have hd:decide (n=0)=false:=by simpa using h0
  rw[hd];clear hd h0;go_enter Tryz.func62,Tryz.ntmps62;go_wp2;go_ret;exact⟨rfl,(Below.refl _ _).alloc (Nat.le_refl _) _⟩
theorem aK (w:World) (b o':Nat) (v:Value) (g o:Nat) (h:b≠g):(w.setCell ⟨b,o',none⟩ v).cell? ⟨g,o,none⟩=w.cell? ⟨g,o,none⟩:=
 World.cell?_of_block (a:=⟨g,o,none⟩) (Below.heap_setCell w ⟨b,o',none⟩ v g (fun e=>h e.symm))
theorem NatAt.set {w:World} {u:Value} {n b o:Nat} (h:NatAt w u n) (v:Value) (hne:u.ownBlock≠some b):NatAt (w.setCell ⟨b,o,none⟩ v) u n:=
 h.grown (kK (w:=w) ⟨b,o,none⟩ v) (fun g e=>by injection e with e;subst e;exact hne)
theorem NatAt.ne {w:World} {u:Value} {n b:Nat} (h:NatAt w u n) (hb:w.heap.size≤b):u.ownBlock≠some b:=fun e=>by
 have:=h.block e;omega
theorem kH {w:World} {b:Nat} {a c p q:Value} (h0:w.cell? ⟨b,0,none⟩=some a) (h1:w.cell? ⟨b,1,none⟩=some c):
  ((w.setCell ⟨b,0,none⟩ p).setCell ⟨b,1,none⟩ q).cell? ⟨b,0,none⟩=some p∧((w.setCell ⟨b,0,none⟩ p).setCell ⟨b,1,none⟩ q).cell? ⟨b,1,none⟩=some q:=by
 constructor
 ·rw[World.cell?_setCell_other _ _ _ _ (by simp),World.cell?_setCell_same _ _ _ h0]
 ·exact World.cell?_setCell_same _ _ _ ((World.cell?_setCell_other _ _ _ _ (by simp)).trans h1)
theorem vI (w:World) (a b c d:Value) (t:TypeId):let W:=((w.alloc (.cells #[a,b] t)).alloc (.cells #[c,d] t)).alloc (.cells #[.bool false,.slice none 0 0] t)
  W.cell? ⟨w.heap.size,0,none⟩=some a∧W.cell? ⟨w.heap.size,1,none⟩=some b∧W.cell? ⟨w.heap.size+1,0,none⟩=some c∧W.cell? ⟨w.heap.size+1,1,none⟩=some d∧
  W.cell? ⟨w.heap.size+1+1,0,none⟩=some (.bool false)∧W.cell? ⟨w.heap.size+1+1,1,none⟩=some (.slice none 0 0)∧(∀j,W.frozen? ⟨w.heap.size+1+1,j,none⟩=false)∧W.heap.size=w.heap.size+3∧Below w.heap.size w W:=by
 refine⟨by simp[go_sem],by simp[go_sem],by simp[go_sem],by simp[go_sem],by simp[go_sem],by simp[go_sem],fun j=>by simp[go_sem],by simp,?_⟩;exact(((Below.refl _ _).alloc (Nat.le_refl _) _).alloc (by simp) _).alloc (by simp;omega) _
theorem JQ {x y:Int} (h:decide (x<0)=decide (y<0)):x+y=if decide (x<0) then -((x.natAbs+y.natAbs:Nat):Int) else ((x.natAbs+y.natAbs:Nat):Int):=by
 by_cases hx:x<0
 ·have hy:y<0:=by simpa [hx] using h
  simp[hx];omega
 ·have hy:¬y<0:=by simpa [hx] using h
  simp[hx];omega
theorem nI (x y:Int) (vx vy:Value) (w:World) (hx:IntAt w vx x) (hy:IntAt w vy y) (bx:nl x.natAbs≤17592186044414) (bY:nl y.natAbs≤17592186044414):
  Calls Tryz.prog 63 #[vx,vy] w (bW w (x+y)):=by
 obtain⟨ux,rfl,hux⟩:=hx;obtain⟨uy,rfl,huy⟩:=hy;obtain⟨c0,c1,d0,d1,r0,r1,hfr,hsz,hb⟩:=vI w (.bool (decide (x<0))) ux (.bool (decide (y<0))) uy 50;by_cases hs:decide (x<0)=decide (y<0)
 ·have hsum:=JQ hs;have hsb:(decide (x<0)==decide (y<0))=true:=by simpa using hs
  have hnl:=oL x.natAbs y.natAbs;have hux1:=hux.below hb;have huy1:=huy.below hb;have HS:=Lib.hid hsum;generalize decide (x<0)=sx at *;generalize decide (y<0)=sy at *;have HSZ:=Lib.hid hsz;clear hsum hs hsz;go_enter Tryz.func63,Tryz.ntmps63;go_wp2_with fail;generalize ((w.alloc (.cells #[.bool sx,ux] 50)).alloc (.cells #[.bool sy,uy] 50)).alloc (.cells #[.bool false,.slice none 0 0] 50)=W at *;have l0:w.heap.size<W.drew.heap.size:=by have:=HSZ.out;show w.heap.size<W.heap.size;omega
  have l1:w.heap.size+1<W.drew.heap.size:=by have:=HSZ.out;show w.heap.size+1<W.heap.size;omega
  have l2:w.heap.size+1+1<W.drew.heap.size:=by have:=HSZ.out;show w.heap.size+1+1<W.heap.size;omega
  go_region_held3 (fun w'=>w'.cell? ⟨w.heap.size,0,none⟩=some (.bool sx)∧w'.cell? ⟨w.heap.size,1,none⟩=some ux∧w'.cell? ⟨w.heap.size+1,1,none⟩=some uy)
   (first|(exact⟨c0,c1,d1⟩)
         |(exact⟨(hb4.cell (p:=⟨w.heap.size,0,none⟩) l0).trans c0,(hb4.cell (p:=⟨w.heap.size,1,none⟩) l0).trans c1,(hb4.cell (p:=⟨w.heap.size+1,1,none⟩) l1).trans d1⟩)
         |(exact⟨(hb45.cell (p:=⟨w.heap.size,0,none⟩) l0).trans c0,(hb45.cell (p:=⟨w.heap.size,1,none⟩) l0).trans c1,(hb45.cell (p:=⟨w.heap.size+1,1,none⟩) l1).trans d1⟩)
         |((exact⟨(aK _ _ _ _ _ _ (show w.heap.size+1+1≠w.heap.size by omega)).trans ((aK _ _ _ _ _ _ (show w.heap.size+1+1≠w.heap.size by omega)).trans ((hb45.cell (p:=⟨w.heap.size,0,none⟩) l0).trans c0)),(aK _ _ _ _ _ _ (show w.heap.size+1+1≠w.heap.size by omega)).trans ((aK _ _ _ _ _ _ (show w.heap.size+1+1≠w.heap.size by omega)).trans ((hb45.cell (p:=⟨w.heap.size,1,none⟩) l0).trans c1)),(aK _ _ _ _ _ _ (show w.heap.size+1+1≠w.heap.size+1 by omega)).trans ((aK _ _ _ _ _ _ (show w.heap.size+1+1≠w.heap.size+1 by omega)).trans ((hb45.cell (p:=⟨w.heap.size+1,1,none⟩) l1).trans d1))⟩)))
   (first
    |(go_at_call 123;(with_reducible refine(oQ _ _ ux uy _ hux1.drew huy1.drew (by omega) (by omega)).mono ?_);rintro e4 w4 ⟨v4,rfl,hv4,hf4,hb4⟩;obtain⟨A4,c4,rfl,hc4,hr4,ho4⟩:=id hv4)
    |(go_at_call 68;(with_reducible refine(lV sx _ _ (x+y) _ hv4 (by omega) HS.out).mono ?_);rintro e5 w5 ⟨rfl,hb5⟩;have hb45:=aB hb4 hb5;have r0':=(hb45.cell (p:=⟨w.heap.size+1+1,0,none⟩) l2).trans r0;have r1':=(hb45.cell (p:=⟨w.heap.size+1+1,1,none⟩) l2).trans r1;have f0':=(hb45.frozen (p:=⟨w.heap.size+1+1,0,none⟩) l2).trans (hfr 0);have f1':=(hb45.frozen (p:=⟨w.heap.size+1+1,1,none⟩) l2).trans (hfr 1)))
  go_wp2_with fail;have hst:=kH (p:= .bool (decide (x+y<0))) (q:= .slice A4 (nl (x.natAbs+y.natAbs)) c4) r0' r1';have hbw:Below w.heap.size w w5:=hb.drew.trans (hb45.mono hb.size);have hbz:=(hbw.setCell (p:=⟨w.heap.size+1+1,0,none⟩) (by simp;omega) (.bool (decide (x+y<0)))).setCell (p:=⟨w.heap.size+1+1,1,none⟩) (by simp;omega) (.slice A4 (nl (x.natAbs+y.natAbs)) c4);obtain⟨z0,z1⟩:=hst;have hna:(x+y).natAbs=x.natAbs+y.natAbs:=by
   have:=HS.out;cases sx<;>simp at this<;>omega
  have hv6:NatAt ((w5.setCell ⟨w.heap.size+1+1,0,none⟩ (.bool (decide (x+y<0)))).setCell ⟨w.heap.size+1+1,1,none⟩ (.slice A4 (nl (x.natAbs+y.natAbs)) c4)) (.slice A4 (nl (x.natAbs+y.natAbs)) c4) (x.natAbs+y.natAbs):=by
   have hn4:=hf4.ne2 l2 (hux.ne (by omega)) (huy.ne (by omega));exact((hv4.below hb5).set _ hn4).set _ hn4
  generalize (w5.setCell ⟨w.heap.size+1+1,0,none⟩ (.bool (decide (x+y<0)))).setCell ⟨w.heap.size+1+1,1,none⟩ (.slice A4 (nl (x.natAbs+y.natAbs)) c4)=W6 at *;exact bodyPost_ret (v:= .agg #[.bool (decide (x+y<0)),.slice A4 (nl (x.natAbs+y.natAbs)) c4]) (by simp[results,Tryz.results63,go_sem,z0,z1]) rfl ⟨_,rfl,⟨_,rfl,by rw[hna];exact hv6⟩,hbz⟩
 ·have hsb:(decide (x<0)==decide (y<0))=false:=by simpa using hs
  have hux1:=hux.below hb;have huy1:=huy.below hb;have hs2:(x<0∧¬y<0)∨(¬x<0∧y<0):=by
   by_cases h1:x<0<;>by_cases h2:y<0<;>simp[h1,h2] at hs⊢
  have hcmp:=fun W (h1:NatAt W ux x.natAbs) (h2:NatAt W uy y.natAbs)=>mA x.natAbs y.natAbs ux uy W h1 h2 (by omega) (by omega);have hcc:=iY (x.natAbs:Int) (y.natAbs:Int);have hsx:(x+y=if decide (x<0) then -((x.natAbs-y.natAbs:Nat):Int) else ((x.natAbs-y.natAbs:Nat):Int))∨x.natAbs<y.natAbs:=by
   by_cases h:x.natAbs<y.natAbs
   ·exact .inr h
   ·left;rcases hs2 with ⟨h1,h2⟩|⟨h1,h2⟩<;>simp[h1]<;>omega
  have hsy:(x+y=if decide (y<0) then -((y.natAbs-x.natAbs:Nat):Int) else ((y.natAbs-x.natAbs:Nat):Int))∨y.natAbs≤x.natAbs:=by
   by_cases h:y.natAbs≤x.natAbs
   ·exact .inr h
   ·left;rcases hs2 with ⟨h1,h2⟩|⟨h1,h2⟩<;>simp[h2]<;>omega
  have HSX:=Lib.hid hsx;have HSY:=Lib.hid hsy;have HS2:=Lib.hid hs2;have HSZ:=Lib.hid hsz;clear hsx hsy hs2 hs hsz;by_cases hge:y.natAbs≤x.natAbs
  ·have hna:(x+y).natAbs=x.natAbs-y.natAbs:=by rcases HS2.out with ⟨h1,h2⟩|⟨h1,h2⟩<;>omega
   have HS:=Lib.hid (HSX.out.resolve_right (by omega));have hc0:0≤bM (x.natAbs:Int) (y.natAbs:Int):=by omega
   have hnl:nl (x.natAbs-y.natAbs)≤nl x.natAbs:=aX (Nat.sub_le _ _);generalize bM (x.natAbs:Int) (y.natAbs:Int)=cc at *;generalize decide (x<0)=sx at *;generalize decide (y<0)=sy at *;clear hcc HSX HSY;go_enter Tryz.func63,Tryz.ntmps63;go_wp2_with fail;generalize ((w.alloc (.cells #[.bool sx,ux] 50)).alloc (.cells #[.bool sy,uy] 50)).alloc (.cells #[.bool false,.slice none 0 0] 50)=W at *;refine(hcmp W hux1 huy1).mono ?_;rintro e w3 ⟨rfl,hb3⟩;have hW:=HSZ.out;have c0:=(hb3.cell (p:=⟨w.heap.size,0,none⟩) (by show w.heap.size<_;omega)).trans c0;have c1:=(hb3.cell (p:=⟨w.heap.size,1,none⟩) (by show w.heap.size<_;omega)).trans c1;have d0:=(hb3.cell (p:=⟨w.heap.size+1,0,none⟩) (by show w.heap.size+1<_;omega)).trans d0;have d1:=(hb3.cell (p:=⟨w.heap.size+1,1,none⟩) (by show w.heap.size+1<_;omega)).trans d1;have r0:=(hb3.cell (p:=⟨w.heap.size+1+1,0,none⟩) (by show w.heap.size+1+1<_;omega)).trans r0;have r1:=(hb3.cell (p:=⟨w.heap.size+1+1,1,none⟩) (by show w.heap.size+1+1<_;omega)).trans r1;have hfr:=fun j=>(hb3.frozen (p:=⟨w.heap.size+1+1,j,none⟩) (by show w.heap.size+1+1<_;omega)).trans (hfr j);have hux1:=hux1.below hb3;have huy1:=huy1.below hb3;have hb:=aB hb hb3;clear hW;go_wp2_with fail;have l0:w.heap.size<w3.drew.heap.size:=by have:=HSZ.out;have:=hb3.size;show w.heap.size<w3.heap.size;omega
   have l1:w.heap.size+1<w3.drew.heap.size:=by have:=HSZ.out;have:=hb3.size;show w.heap.size+1<w3.heap.size;omega
   have l2:w.heap.size+1+1<w3.drew.heap.size:=by have:=HSZ.out;have:=hb3.size;show w.heap.size+1+1<w3.heap.size;omega
   go_region_held3 (fun w'=>w'.cell? ⟨w.heap.size,0,none⟩=some (.bool sx)∧w'.cell? ⟨w.heap.size,1,none⟩=some (ux)∧w'.cell? ⟨w.heap.size+1,1,none⟩=some (uy))
    (first|(exact⟨c0,c1,d1⟩)
          |(exact⟨(hb4.cell (p:=⟨w.heap.size,0,none⟩) l0).trans c0,(hb4.cell (p:=⟨w.heap.size,1,none⟩) l0).trans c1,(hb4.cell (p:=⟨w.heap.size+1,1,none⟩) l1).trans d1⟩)
          |(exact⟨(hb45.cell (p:=⟨w.heap.size,0,none⟩) l0).trans c0,(hb45.cell (p:=⟨w.heap.size,1,none⟩) l0).trans c1,(hb45.cell (p:=⟨w.heap.size+1,1,none⟩) l1).trans d1⟩)
          |(exact⟨(aK _ _ _ _ _ _ (show w.heap.size+1+1≠w.heap.size by omega)).trans ((aK _ _ _ _ _ _ (show w.heap.size+1+1≠w.heap.size by omega)).trans ((hb45.cell (p:=⟨w.heap.size,0,none⟩) l0).trans c0)),(aK _ _ _ _ _ _ (show w.heap.size+1+1≠w.heap.size by omega)).trans ((aK _ _ _ _ _ _ (show w.heap.size+1+1≠w.heap.size by omega)).trans ((hb45.cell (p:=⟨w.heap.size,1,none⟩) l0).trans c1)),(aK _ _ _ _ _ _ (show w.heap.size+1+1≠w.heap.size+1 by omega)).trans ((aK _ _ _ _ _ _ (show w.heap.size+1+1≠w.heap.size+1 by omega)).trans ((hb45.cell (p:=⟨w.heap.size+1,1,none⟩) l1).trans d1))⟩))
    (first
     |(go_at_call 125;(with_reducible refine(nQ _ _ ux uy _ hux1.drew huy1.drew (by omega) hge).mono ?_);rintro e4 w4 ⟨v4,rfl,hv4,hf4,hb4⟩;obtain⟨A4,c4,rfl,hc4,hr4,ho4⟩:=id hv4)
     |(go_at_call 68;(with_reducible refine(lV sx _ _ (x+y) _ hv4 (by omega) HS.out).mono ?_);rintro e5 w5 ⟨rfl,hb5⟩;have hb45:=aB hb4 hb5;have r0':=(hb45.cell (p:=⟨w.heap.size+1+1,0,none⟩) l2).trans r0;have r1':=(hb45.cell (p:=⟨w.heap.size+1+1,1,none⟩) l2).trans r1;have f0':=(hb45.frozen (p:=⟨w.heap.size+1+1,0,none⟩) l2).trans (hfr 0);have f1':=(hb45.frozen (p:=⟨w.heap.size+1+1,1,none⟩) l2).trans (hfr 1)))
   go_wp2_with fail;have hst:=kH (p:= .bool (decide (x+y<0))) (q:= .slice A4 (nl (x.natAbs-y.natAbs)) c4) r0' r1';have hbw:Below w.heap.size w w5:=hb.drew.trans (hb45.mono hb.size);have hbz:=(hbw.setCell (p:=⟨w.heap.size+1+1,0,none⟩) (by simp;omega) (.bool (decide (x+y<0)))).setCell (p:=⟨w.heap.size+1+1,1,none⟩) (by simp;omega) (.slice A4 (nl (x.natAbs-y.natAbs)) c4);obtain⟨z0,z1⟩:=hst;have hv6:NatAt ((w5.setCell ⟨w.heap.size+1+1,0,none⟩ (.bool (decide (x+y<0)))).setCell ⟨w.heap.size+1+1,1,none⟩ (.slice A4 (nl (x.natAbs-y.natAbs)) c4)) (.slice A4 (nl (x.natAbs-y.natAbs)) c4) (x.natAbs-y.natAbs):=by
    have hn4:=hf4.ne2 l2 (hux.ne (by omega)) (huy.ne (by omega));exact((hv4.below hb5).set _ hn4).set _ hn4
   generalize (w5.setCell ⟨w.heap.size+1+1,0,none⟩ (.bool (decide (x+y<0)))).setCell ⟨w.heap.size+1+1,1,none⟩ (.slice A4 (nl (x.natAbs-y.natAbs)) c4)=W6 at *;exact bodyPost_ret (v:= .agg #[.bool (decide (x+y<0)),.slice A4 (nl (x.natAbs-y.natAbs)) c4]) (by simp[results,Tryz.results63,go_sem,z0,z1]) rfl ⟨_,rfl,⟨_,rfl,by rw[hna];exact hv6⟩,hbz⟩
  ·have hna:(x+y).natAbs=y.natAbs-x.natAbs:=by rcases HS2.out with ⟨h1,h2⟩|⟨h1,h2⟩<;>omega
   have HS:=Lib.hid (HSY.out.resolve_right hge);have hc0:¬0≤bM (x.natAbs:Int) (y.natAbs:Int):=by omega
   have hnl:nl (y.natAbs-x.natAbs)≤nl y.natAbs:=aX (Nat.sub_le _ _);generalize bM (x.natAbs:Int) (y.natAbs:Int)=cc at *;generalize decide (x<0)=sx at *;generalize decide (y<0)=sy at *;clear hcc HSX HSY;go_enter Tryz.func63,Tryz.ntmps63;go_wp2_with fail;generalize ((w.alloc (.cells #[.bool sx,ux] 50)).alloc (.cells #[.bool sy,uy] 50)).alloc (.cells #[.bool false,.slice none 0 0] 50)=W at *;refine(hcmp W hux1 huy1).mono ?_;rintro e w3 ⟨rfl,hb3⟩;have hW:=HSZ.out;have c0:=(hb3.cell (p:=⟨w.heap.size,0,none⟩) (by show w.heap.size<_;omega)).trans c0;have c1:=(hb3.cell (p:=⟨w.heap.size,1,none⟩) (by show w.heap.size<_;omega)).trans c1;have d0:=(hb3.cell (p:=⟨w.heap.size+1,0,none⟩) (by show w.heap.size+1<_;omega)).trans d0;have d1:=(hb3.cell (p:=⟨w.heap.size+1,1,none⟩) (by show w.heap.size+1<_;omega)).trans d1;have r0:=(hb3.cell (p:=⟨w.heap.size+1+1,0,none⟩) (by show w.heap.size+1+1<_;omega)).trans r0;have r1:=(hb3.cell (p:=⟨w.heap.size+1+1,1,none⟩) (by show w.heap.size+1+1<_;omega)).trans r1;have hfr:=fun j=>(hb3.frozen (p:=⟨w.heap.size+1+1,j,none⟩) (by show w.heap.size+1+1<_;omega)).trans (hfr j);have hux1:=hux1.below hb3;have huy1:=huy1.below hb3;have hb:=aB hb hb3;clear hW;go_wp2_with fail;have l0:w.heap.size<w3.drew.heap.size:=by have:=HSZ.out;have:=hb3.size;show w.heap.size<w3.heap.size;omega
   have l1:w.heap.size+1<w3.drew.heap.size:=by have:=HSZ.out;have:=hb3.size;show w.heap.size+1<w3.heap.size;omega
   have l2:w.heap.size+1+1<w3.drew.heap.size:=by have:=HSZ.out;have:=hb3.size;show w.heap.size+1+1<w3.heap.size;omega
   go_region_held3 (fun w'=>w'.cell? ⟨w.heap.size+1,0,none⟩=some (.bool sy)∧w'.cell? ⟨w.heap.size,1,none⟩=some (ux)∧w'.cell? ⟨w.heap.size+1,1,none⟩=some (uy))
    (first|(exact⟨d0,c1,d1⟩)
          |(exact⟨(hb4.cell (p:=⟨w.heap.size+1,0,none⟩) l1).trans d0,(hb4.cell (p:=⟨w.heap.size,1,none⟩) l0).trans c1,(hb4.cell (p:=⟨w.heap.size+1,1,none⟩) l1).trans d1⟩)
          |(exact⟨(hb45.cell (p:=⟨w.heap.size+1,0,none⟩) l1).trans d0,(hb45.cell (p:=⟨w.heap.size,1,none⟩) l0).trans c1,(hb45.cell (p:=⟨w.heap.size+1,1,none⟩) l1).trans d1⟩)
          |(exact⟨(aK _ _ _ _ _ _ (show w.heap.size+1+1≠w.heap.size+1 by omega)).trans ((aK _ _ _ _ _ _ (show w.heap.size+1+1≠w.heap.size+1 by omega)).trans ((hb45.cell (p:=⟨w.heap.size+1,0,none⟩) l1).trans d0)),(aK _ _ _ _ _ _ (show w.heap.size+1+1≠w.heap.size by omega)).trans ((aK _ _ _ _ _ _ (show w.heap.size+1+1≠w.heap.size by omega)).trans ((hb45.cell (p:=⟨w.heap.size,1,none⟩) l0).trans c1)),(aK _ _ _ _ _ _ (show w.heap.size+1+1≠w.heap.size+1 by omega)).trans ((aK _ _ _ _ _ _ (show w.heap.size+1+1≠w.heap.size+1 by omega)).trans ((hb45.cell (p:=⟨w.heap.size+1,1,none⟩) l1).trans d1))⟩))
    (first
     |(go_at_call 125;(with_reducible refine(nQ _ _ uy ux _ huy1.drew hux1.drew (by omega) (by omega)).mono ?_);rintro e4 w4 ⟨v4,rfl,hv4,hf4,hb4⟩;obtain⟨A4,c4,rfl,hc4,hr4,ho4⟩:=id hv4)
     |(go_at_call 68;(with_reducible refine(lV sy _ _ (x+y) _ hv4 (by omega) HS.out).mono ?_);rintro e5 w5 ⟨rfl,hb5⟩;have hb45:=aB hb4 hb5;have r0':=(hb45.cell (p:=⟨w.heap.size+1+1,0,none⟩) l2).trans r0;have r1':=(hb45.cell (p:=⟨w.heap.size+1+1,1,none⟩) l2).trans r1;have f0':=(hb45.frozen (p:=⟨w.heap.size+1+1,0,none⟩) l2).trans (hfr 0);have f1':=(hb45.frozen (p:=⟨w.heap.size+1+1,1,none⟩) l2).trans (hfr 1)))
   go_wp2_with fail;have hst:=kH (p:= .bool (decide (x+y<0))) (q:= .slice A4 (nl (y.natAbs-x.natAbs)) c4) r0' r1';have hbw:Below w.heap.size w w5:=hb.drew.trans (hb45.mono hb.size);have hbz:=(hbw.setCell (p:=⟨w.heap.size+1+1,0,none⟩) (by simp;omega) (.bool (decide (x+y<0)))).setCell (p:=⟨w.heap.size+1+1,1,none⟩) (by simp;omega) (.slice A4 (nl (y.natAbs-x.natAbs)) c4);obtain⟨z0,z1⟩:=hst;have hv6:NatAt ((w5.setCell ⟨w.heap.size+1+1,0,none⟩ (.bool (decide (x+y<0)))).setCell ⟨w.heap.size+1+1,1,none⟩ (.slice A4 (nl (y.natAbs-x.natAbs)) c4)) (.slice A4 (nl (y.natAbs-x.natAbs)) c4) (y.natAbs-x.natAbs):=by
    have hn4:=hf4.ne2 l2 (huy.ne (by omega)) (hux.ne (by omega));exact((hv4.below hb5).set _ hn4).set _ hn4
   generalize (w5.setCell ⟨w.heap.size+1+1,0,none⟩ (.bool (decide (x+y<0)))).setCell ⟨w.heap.size+1+1,1,none⟩ (.slice A4 (nl (y.natAbs-x.natAbs)) c4)=W6 at *;exact bodyPost_ret (v:= .agg #[.bool (decide (x+y<0)),.slice A4 (nl (y.natAbs-x.natAbs)) c4]) (by simp[results,Tryz.results63,go_sem,z0,z1]) rfl ⟨_,rfl,⟨_,rfl,by rw[hna];exact hv6⟩,hbz⟩
theorem vH (x y:Int):x*y=if (!(decide (x<0)==decide (y<0))) then -((x.natAbs*y.natAbs:Nat):Int) else ((x.natAbs*y.natAbs:Nat):Int):=by
 have h:=Int.natAbs_mul x y;rw[←h];by_cases h1:x<0<;>by_cases h2:y<0
 ·have:=Int.mul_nonneg_of_nonpos_of_nonpos (Int.le_of_lt h1) (Int.le_of_lt h2);simp[h1,h2];omega
 ·have:=Int.mul_nonpos_of_nonpos_of_nonneg (Int.le_of_lt h1) (Int.not_lt.1 h2);simp[h1,h2];omega
 ·have:=Int.mul_nonpos_of_nonneg_of_nonpos (Int.not_lt.1 h1) (Int.le_of_lt h2);simp[h1,h2];omega
 ·have:=Int.mul_nonneg (Int.not_lt.1 h1) (Int.not_lt.1 h2);simp[h1,h2];omega
theorem f8 (x y:Int) (vx vy:Value) (w:World) (hx:IntAt w vx x) (hy:IntAt w vy y) (hl:nl x.natAbs+nl y.natAbs≤17592186044416):
  Calls Tryz.prog 57 #[vx,vy] w (bW w (x*y)):=by
 obtain⟨ux,rfl,hux⟩:=hx;obtain⟨uy,rfl,huy⟩:=hy;obtain⟨c0,c1,d0,d1,r0,r1,hfr,hsz,hb⟩:=vI w (.bool (decide (x<0))) ux (.bool (decide (y<0))) uy 50;have hsum:=vH x y;have hna:=Int.natAbs_mul x y;have hnl:=cJ x.natAbs y.natAbs;have hux1:=hux.below hb;have huy1:=huy.below hb;have HS:=Lib.hid hsum;have HNA:=Lib.hid hna;generalize decide (x<0)=sx at *;generalize decide (y<0)=sy at *;have HSZ:=Lib.hid hsz;clear hsum hsz hna;go_enter Tryz.func57,Tryz.ntmps57;go_wp2_with fail;generalize ((w.alloc (.cells #[.bool sx,ux] 50)).alloc (.cells #[.bool sy,uy] 50)).alloc (.cells #[.bool false,.slice none 0 0] 50)=W at *;have l0:w.heap.size<W.drew.heap.size:=by have:=HSZ.out;show w.heap.size<W.heap.size;omega
 have l1:w.heap.size+1<W.drew.heap.size:=by have:=HSZ.out;show w.heap.size+1<W.heap.size;omega
 have l2:w.heap.size+1+1<W.drew.heap.size:=by have:=HSZ.out;show w.heap.size+1+1<W.heap.size;omega
 go_region_held3 (fun w'=>w'.cell? ⟨w.heap.size,0,none⟩=some (.bool sx)∧w'.cell? ⟨w.heap.size+1,0,none⟩=some (.bool sy)∧w'.cell? ⟨w.heap.size,1,none⟩=some (ux)∧w'.cell? ⟨w.heap.size+1,1,none⟩=some (uy))
  (first|(exact⟨c0,d0,c1,d1⟩)
        |(exact⟨(hb4.cell (p:=⟨w.heap.size,0,none⟩) l0).trans c0,(hb4.cell (p:=⟨w.heap.size+1,0,none⟩) l1).trans d0,(hb4.cell (p:=⟨w.heap.size,1,none⟩) l0).trans c1,(hb4.cell (p:=⟨w.heap.size+1,1,none⟩) l1).trans d1⟩)
        |(exact⟨(hb45.cell (p:=⟨w.heap.size,0,none⟩) l0).trans c0,(hb45.cell (p:=⟨w.heap.size+1,0,none⟩) l1).trans d0,(hb45.cell (p:=⟨w.heap.size,1,none⟩) l0).trans c1,(hb45.cell (p:=⟨w.heap.size+1,1,none⟩) l1).trans d1⟩)
        |(exact⟨(aK _ _ _ _ _ _ (show w.heap.size+1+1≠w.heap.size by omega)).trans ((aK _ _ _ _ _ _ (show w.heap.size+1+1≠w.heap.size by omega)).trans ((hb45.cell (p:=⟨w.heap.size,0,none⟩) l0).trans c0)),(aK _ _ _ _ _ _ (show w.heap.size+1+1≠w.heap.size+1 by omega)).trans ((aK _ _ _ _ _ _ (show w.heap.size+1+1≠w.heap.size+1 by omega)).trans ((hb45.cell (p:=⟨w.heap.size+1,0,none⟩) l1).trans d0)),(aK _ _ _ _ _ _ (show w.heap.size+1+1≠w.heap.size by omega)).trans ((aK _ _ _ _ _ _ (show w.heap.size+1+1≠w.heap.size by omega)).trans ((hb45.cell (p:=⟨w.heap.size,1,none⟩) l0).trans c1)),(aK _ _ _ _ _ _ (show w.heap.size+1+1≠w.heap.size+1 by omega)).trans ((aK _ _ _ _ _ _ (show w.heap.size+1+1≠w.heap.size+1 by omega)).trans ((hb45.cell (p:=⟨w.heap.size+1,1,none⟩) l1).trans d1))⟩))
  (first
   |(go_at_call 121;(with_reducible refine(mB _ _ ux uy _ hux1.drew huy1.drew (by unfold aF;omega)).mono ?_);rintro e4 w4 ⟨v4,rfl,hv4,hf4,hb4⟩;obtain⟨A4,c4,rfl,hc4,hr4,ho4⟩:=id hv4)
   |(go_at_call 68;(with_reducible refine(lV (!(sx==sy)) _ _ (x*y) _ hv4 (by omega) HS.out).mono ?_);rintro e5 w5 ⟨rfl,hb5⟩;have hb45:=aB hb4 hb5;have r0':=(hb45.cell (p:=⟨w.heap.size+1+1,0,none⟩) l2).trans r0;have r1':=(hb45.cell (p:=⟨w.heap.size+1+1,1,none⟩) l2).trans r1;have f0':=(hb45.frozen (p:=⟨w.heap.size+1+1,0,none⟩) l2).trans (hfr 0);have f1':=(hb45.frozen (p:=⟨w.heap.size+1+1,1,none⟩) l2).trans (hfr 1)))
 go_wp2_with fail;have hst:=kH (p:= .bool (decide (x*y<0))) (q:= .slice A4 (nl (x.natAbs*y.natAbs)) c4) r0' r1';have hbw:Below w.heap.size w w5:=hb.drew.trans (hb45.mono hb.size);have hbz:=(hbw.setCell (p:=⟨w.heap.size+1+1,0,none⟩) (by simp;omega) (.bool (decide (x*y<0)))).setCell (p:=⟨w.heap.size+1+1,1,none⟩) (by simp;omega) (.slice A4 (nl (x.natAbs*y.natAbs)) c4);obtain⟨z0,z1⟩:=hst;have hv6:NatAt ((w5.setCell ⟨w.heap.size+1+1,0,none⟩ (.bool (decide (x*y<0)))).setCell ⟨w.heap.size+1+1,1,none⟩ (.slice A4 (nl (x.natAbs*y.natAbs)) c4)) (.slice A4 (nl (x.natAbs*y.natAbs)) c4) (x.natAbs*y.natAbs):=by
  have hn4:=hf4.ne2 l2 (hux.ne (by omega)) (huy.ne (by omega));exact((hv4.below hb5).set _ hn4).set _ hn4
 generalize (w5.setCell ⟨w.heap.size+1+1,0,none⟩ (.bool (decide (x*y<0)))).setCell ⟨w.heap.size+1+1,1,none⟩ (.slice A4 (nl (x.natAbs*y.natAbs)) c4)=W6 at *;exact bodyPost_ret (v:= .agg #[.bool (decide (x*y<0)),.slice A4 (nl (x.natAbs*y.natAbs)) c4]) (by simp[results,Tryz.results57,go_sem,z0,z1]) rfl ⟨_,rfl,⟨_,rfl,by rw[HNA.out];exact hv6⟩,hbz⟩
theorem BL (w:World) (a b:Value) (t:TypeId):let W:=(w.alloc (.cells #[a,b] t)).alloc (.cells #[.bool false,.slice none 0 0] t)
  W.cell? ⟨w.heap.size,0,none⟩=some a∧W.cell? ⟨w.heap.size,1,none⟩=some b∧
  W.cell? ⟨w.heap.size+1,0,none⟩=some (.bool false)∧W.cell? ⟨w.heap.size+1,1,none⟩=some (.slice none 0 0)∧(∀j,W.frozen? ⟨w.heap.size+1,j,none⟩=false)∧W.heap.size=w.heap.size+2∧Below w.heap.size w W:=by
 refine⟨by simp[go_sem],by simp[go_sem],by simp[go_sem],by simp[go_sem],fun j=>by simp[go_sem],by simp,?_⟩;exact((Below.refl _ _).alloc (Nat.le_refl _) _).alloc (by simp) _
theorem oK (x:Int) (vx:Value) (w:World) (hx:IntAt w vx x) (hl:nl x.natAbs≤17592186044416):
  Calls Tryz.prog 26 #[vx] w (bW w (-x)):=by
 obtain⟨ux,rfl,hux⟩:=hx;obtain⟨c0,c1,r0,r1,hfr,hsz,hb⟩:=BL w (.bool (decide (x<0))) ux 50;have hsum: -x=if (!(decide (x<0))) then -((x.natAbs:Nat):Int) else ((x.natAbs:Nat):Int):=by
  by_cases h:x<0<;>simp[h]<;>omega
 have hna:(-x).natAbs=x.natAbs:=Int.natAbs_neg x;have hux1:=hux.below hb;have HS:=Lib.hid hsum;have HNA:=Lib.hid hna;have HSZ:=Lib.hid hsz;obtain⟨sn,HSN⟩:∃sn,Hid (decide (-x<0)=sn):=⟨_,rfl⟩;generalize decide (x<0)=sx at *;obtain⟨A4,c4,rfl,hc4,hr4,ho4⟩:=id hux;clear hsum hna hsz;go_enter Tryz.func26,Tryz.ntmps26;go_wp2_with fail;generalize (w.alloc (.cells #[.bool sx,.slice A4 (nl x.natAbs) c4] 50)).alloc (.cells #[.bool false,.slice none 0 0] 50)=W at *;refine(lV (!sx) _ _ (-x) _ hux1 (by omega) HS.out).mono ?_;rintro e5 w5 ⟨he,hb5⟩;rw[HSN.out] at he;subst he;have l2:w.heap.size+1<W.heap.size:=by have:=HSZ.out;omega
 have r0':=(hb5.cell (p:=⟨w.heap.size+1,0,none⟩) l2).trans r0;have r1':=(hb5.cell (p:=⟨w.heap.size+1,1,none⟩) l2).trans r1;have f0':=(hb5.frozen (p:=⟨w.heap.size+1,0,none⟩) l2).trans (hfr 0);have f1':=(hb5.frozen (p:=⟨w.heap.size+1,1,none⟩) l2).trans (hfr 1);go_wp2_with fail;have hst:=kH (p:= .bool sn) (q:= .slice A4 (nl x.natAbs) c4) r0' r1';have hbw:Below w.heap.size w w5:=aB hb hb5;have hbz:=(hbw.setCell (p:=⟨w.heap.size+1,0,none⟩) (by simp) (.bool sn)).setCell (p:=⟨w.heap.size+1,1,none⟩) (by simp) (.slice A4 (nl x.natAbs) c4);obtain⟨z0,z1⟩:=hst;have hv6:=hux.below hbz;generalize (w5.setCell ⟨w.heap.size+1,0,none⟩ (.bool sn)).setCell ⟨w.heap.size+1,1,none⟩ (.slice A4 (nl x.natAbs) c4)=W6 at *;exact bodyPost_ret (v:= .agg #[.bool sn,.slice A4 (nl x.natAbs) c4]) (by simp[results,Tryz.results26,go_sem,z0,z1]) rfl ⟨_,rfl,⟨_,by rw[HSN.out],by rw[HNA.out];exact hv6⟩,hbz⟩
theorem mT (x y:Int) (vx vy:Value) (w:World) (hG:Glob w) (hx:IntAt w vx x) (hy:IntAt w vy y) (K:Nat) (bx:nl x.natAbs≤K) (bY:nl y.natAbs≤K) (hK:5*K+4≤aF):
  Calls Tryz.prog 45 #[vx,vy] w (bW w ((Nat.gcd x.natAbs y.natAbs:Nat):Int)):=by
 obtain⟨ux,rfl,hux⟩:=hx;obtain⟨uy,rfl,huy⟩:=hy;obtain⟨c0,c1,d0,d1,r0,r1,hfr,hsz,hb⟩:=vI w (.bool (decide (x<0))) ux (.bool (decide (y<0))) uy 50;have hux1:=hux.below hb;have huy1:=huy.below hb;have hG1:=hG.below hb;have HSZ:=Lib.hid hsz;generalize decide (x<0)=sx at *;generalize decide (y<0)=sy at *;clear hsz;go_enter Tryz.func45,Tryz.ntmps45;go_wp2_with fail;generalize ((w.alloc (.cells #[.bool sx,ux] 50)).alloc (.cells #[.bool sy,uy] 50)).alloc (.cells #[.bool false,.slice none 0 0] 50)=W at *;refine(BQ _ _ K _ _ _ hG1 hux1 huy1 bx bY hK).mono ?_;rintro e4 w4 ⟨v4,rfl,hv4,hf4,hb4⟩;obtain⟨A4,c4,rfl,hc4,hr4,ho4⟩:=id hv4;have l2:w.heap.size+1+1<W.heap.size:=by have:=HSZ.out;omega
 have r0':=(hb4.cell (p:=⟨w.heap.size+1+1,0,none⟩) l2).trans r0;have r1':=(hb4.cell (p:=⟨w.heap.size+1+1,1,none⟩) l2).trans r1;have f0':=(hb4.frozen (p:=⟨w.heap.size+1+1,0,none⟩) l2).trans (hfr 0);have f1':=(hb4.frozen (p:=⟨w.heap.size+1+1,1,none⟩) l2).trans (hfr 1);generalize Nat.gcd x.natAbs y.natAbs=d at *;go_wp2_with fail;have hst:=kH (p:= .bool false) (q:= .slice A4 (nl d) c4) r0' r1';have hbw:Below w.heap.size w w4:=aB hb hb4;have hbz:=(hbw.setCell (p:=⟨w.heap.size+1+1,0,none⟩) (by simp;omega) (.bool false)).setCell (p:=⟨w.heap.size+1+1,1,none⟩) (by simp;omega) (.slice A4 (nl d) c4);obtain⟨z0,z1⟩:=hst;have hn4:=hf4.ne2 l2 (hux.ne (by omega)) (huy.ne (by omega));have hv6:NatAt ((w4.setCell ⟨w.heap.size+1+1,0,none⟩ (.bool false)).setCell ⟨w.heap.size+1+1,1,none⟩ (.slice A4 (nl d) c4)) (.slice A4 (nl d) c4) d:=(hv4.set _ hn4).set _ hn4;generalize (w4.setCell ⟨w.heap.size+1+1,0,none⟩ (.bool false)).setCell ⟨w.heap.size+1+1,1,none⟩ (.slice A4 (nl d) c4)=W6 at *;have hd:decide ((d:Int)<0)=false:=by simp
 exact bodyPost_ret (v:= .agg #[.bool false,.slice A4 (nl d) c4]) (by simp[results,Tryz.results45,go_sem,z0,z1]) rfl ⟨_,rfl,⟨_,by rw[hd],hv6⟩,hbz⟩
theorem JP (x:Int) (vx:Value) (w:World) (hx:IntAt w vx x) (hl:nl x.natAbs≤17592186044416):
  Calls Tryz.prog 119 #[vx] w fun e w'=>e= .returned (.int .i64 x.sign)∧Below w.heap.size w w':=by
 obtain⟨ux,rfl,A,c,rfl,hc,hr,ho⟩:=hx;by_cases h0:x=0
 ·have q0:((nl x.natAbs:Int)==0)=true:=by rw[h0,show(0:Int).natAbs=0 from rfl,cC];rfl
  have hs:x.sign=0:=by rw[h0];rfl
  rw[hs];clear hs h0;generalize decide (x<0)=sx at *;go_enter Tryz.func119,Tryz.ntmps119;go_wp2;go_ret;exact⟨rfl,(Below.refl _ _).alloc (Nat.le_refl _) _⟩
 ·have h1:=eQ (show x.natAbs≠0 by omega);have q0:((nl x.natAbs:Int)==0)=false:=by simp;omega
  by_cases hneg:x<0
  ·have hs:x.sign= -1:=Int.sign_eq_neg_one_of_neg hneg;have hd:decide (x<0)=true:=by simpa using hneg
   rw[hs,hd];clear hs h0 hneg hd;go_enter Tryz.func119,Tryz.ntmps119;go_wp2;go_ret;exact⟨rfl,(Below.refl _ _).alloc (Nat.le_refl _) _⟩
  ·have hs:x.sign=1:=Int.sign_eq_one_of_pos (by omega);have hd:decide (x<0)=false:=by simpa using hneg
   rw[hs,hd];clear hs h0 hneg hd;go_enter Tryz.func119,Tryz.ntmps119;go_wp2;go_ret;exact⟨rfl,(Below.refl _ _).alloc (Nat.le_refl _) _⟩
theorem jL (x:Int) (vx:Value) (w:World) (hx:IntAt w vx x) (hl:nl x.natAbs≤17592186044416):
  Calls Tryz.prog 46 #[vx] w fun e w'=>e= .returned (.bool (decide (x=1)))∧Below w.heap.size w w':=by
 obtain⟨ux,rfl,A,c,rfl,hc,hr,ho⟩:=hx;by_cases hneg:x<0
 ·have hd:decide (x<0)=true:=by simpa using hneg
  have hd1:decide (x=1)=false:=by simp;omega
  rw[hd,hd1];clear hd hd1 hneg;go_enter Tryz.func46,Tryz.ntmps46;go_wp2;go_ret;exact⟨rfl,(Below.refl _ _).alloc (Nat.le_refl _) _⟩
 ·have hd:decide (x<0)=false:=by simpa using hneg
  rw[hd];clear hd;by_cases h1:nl x.natAbs=1
  ·have q1:((nl x.natAbs:Int)==1)=true:=by simp;omega
   have hx0:x.natAbs≠0:=by intro h;rw[h,cC] at h1;omega
   have hxB:x.natAbs<BN:=by have:=bX x.natAbs;rw[h1,Nat.pow_one] at this;exact this
   obtain⟨b,off,rfl,hb,hcx⟩:=hr.at_ (by rw[aJ];omega);have g0:=hcx 0 (by rw[aJ];omega);rw[m5 hx0 hxB] at g0;simp only[Nat.add_zero,List.getD_cons_zero] at g0;have i0:(0:Int)<(nl x.natAbs:Int):=by omega
   have hg1:(w.alloc (.cells #[.bool false,.slice (some ⟨b,off,none⟩) (nl x.natAbs) c] 50)).cell? ⟨b,off,none⟩=some (.int .u64 (x.natAbs:Int)):=(((Below.refl _ _).alloc (Nat.le_refl _) _).cell (p:=⟨b,off,none⟩) hb).trans g0;have hdd:decide (x=1)=((x.natAbs:Int)==1):=by rw[Bool.eq_iff_iff];simp;omega
   rw[hdd];clear hcx hneg hx0 hxB h1 hdd;generalize (x.natAbs:Int)=xv at *;go_enter Tryz.func46,Tryz.ntmps46;go_wp2;go_ret;exact⟨rfl,(Below.refl _ _).alloc (Nat.le_refl _) _⟩
  ·have q1:((nl x.natAbs:Int)==1)=false:=by simp;omega
   have hd1:decide (x=1)=false:=by
    simp;intro h;apply h1;rw[h];exact gM (by decide) (by decide)
   rw[hd1];clear hd1 h1 hneg;go_enter Tryz.func46,Tryz.ntmps46;go_wp2;go_ret;exact⟨rfl,(Below.refl _ _).alloc (Nat.le_refl _) _⟩
theorem jK (n:Int) (w:World) (h0: -9223372036854775808≤n) (h1:n≤9223372036854775807):
  Calls Tryz.prog 58 #[.int .i64 n] w (bW w n):=by
 have r0:(w.alloc (.cells #[.bool false,.slice none 0 0] 50)).cell? ⟨w.heap.size,0,none⟩=some (.bool false):=by simp[go_sem]
 have r1:(w.alloc (.cells #[.bool false,.slice none 0 0] 50)).cell? ⟨w.heap.size,1,none⟩=some (.slice none 0 0):=by simp[go_sem]
 have hfr:∀j,(w.alloc (.cells #[.bool false,.slice none 0 0] 50)).frozen? ⟨w.heap.size,j,none⟩=false:=fun j=>by simp[go_sem]
 have l2:w.heap.size<(w.alloc (.cells #[.bool false,.slice none 0 0] 50)).heap.size:=by simp
 have hb:Below w.heap.size w (w.alloc (.cells #[.bool false,.slice none 0 0] 50)):=(Below.refl _ _).alloc (Nat.le_refl _) _;obtain⟨m,HM,hmB⟩:∃m,Hid (n.natAbs=m)∧m<BN:=⟨_,rfl,by unfold BN;omega⟩;by_cases hn:n<0
 ·have hwr:IntKind.u64.wrap (-IntKind.u64.wrap n)=(m:Int):=by
   have:=HM.out;rw[IntKind.wrap_u64,IntKind.wrap_u64];omega
  have hd:decide (n<0)=true:=by simpa using hn
  have HD:=Lib.hid hd;clear hd;go_enter Tryz.func58,Tryz.ntmps58;go_wp2_with fail;refine(pZ m hmB _).mono ?_;rintro e4 w4 ⟨v4,rfl,hv4,hf4,hb4⟩;obtain⟨A4,c4,rfl,hc4,hr4,ho4⟩:=id hv4;have r0':=(hb4.cell (p:=⟨w.heap.size,0,none⟩) l2).trans r0;have r1':=(hb4.cell (p:=⟨w.heap.size,1,none⟩) l2).trans r1;have f0':=(hb4.frozen (p:=⟨w.heap.size,0,none⟩) l2).trans (hfr 0);have f1':=(hb4.frozen (p:=⟨w.heap.size,1,none⟩) l2).trans (hfr 1);have hn4:(Value.slice A4 (nl m) c4).ownBlock≠some w.heap.size:=hf4.ne l2 (fun u hu=>by cases hu);have hbw:Below w.heap.size w w4:=aB hb hb4;clear r0 r1 hfr hwr;go_wp2_with fail;have hst:=kH (p:= .bool true) (q:= .slice A4 (nl m) c4) r0' r1';have hbz:=(hbw.setCell (p:=⟨w.heap.size,0,none⟩) (by simp) (.bool true)).setCell (p:=⟨w.heap.size,1,none⟩) (by simp) (.slice A4 (nl m) c4);obtain⟨z0,z1⟩:=hst;have hv6:NatAt ((w4.setCell ⟨w.heap.size,0,none⟩ (.bool true)).setCell ⟨w.heap.size,1,none⟩ (.slice A4 (nl m) c4)) (.slice A4 (nl m) c4) m:=(hv4.set _ hn4).set _ hn4;generalize (w4.setCell ⟨w.heap.size,0,none⟩ (.bool true)).setCell ⟨w.heap.size,1,none⟩ (.slice A4 (nl m) c4)=W6 at *;exact bodyPost_ret (v:= .agg #[.bool true,.slice A4 (nl m) c4]) (by simp[results,Tryz.results58,go_sem,z0,z1]) rfl ⟨_,rfl,⟨_,by rw[HD.out],by rw[HM.out];exact hv6⟩,hbz⟩
 ·have hwr:IntKind.u64.wrap n=(m:Int):=by
   have:=HM.out;rw[IntKind.wrap_u64];omega
  have hd:decide (n<0)=false:=by simpa using hn
  have HD:=Lib.hid hd;clear hd;go_enter Tryz.func58,Tryz.ntmps58;go_wp2_with fail;refine(pZ m hmB _).mono ?_;rintro e4 w4 ⟨v4,rfl,hv4,hf4,hb4⟩;obtain⟨A4,c4,rfl,hc4,hr4,ho4⟩:=id hv4;have r0':=(hb4.cell (p:=⟨w.heap.size,0,none⟩) l2).trans r0;have r1':=(hb4.cell (p:=⟨w.heap.size,1,none⟩) l2).trans r1;have f0':=(hb4.frozen (p:=⟨w.heap.size,0,none⟩) l2).trans (hfr 0);have f1':=(hb4.frozen (p:=⟨w.heap.size,1,none⟩) l2).trans (hfr 1);have hn4:(Value.slice A4 (nl m) c4).ownBlock≠some w.heap.size:=hf4.ne l2 (fun u hu=>by cases hu);have hbw:Below w.heap.size w w4:=aB hb hb4;clear r0 r1 hfr hwr;go_wp2_with fail;have hst:=kH (p:= .bool false) (q:= .slice A4 (nl m) c4) r0' r1';have hbz:=(hbw.setCell (p:=⟨w.heap.size,0,none⟩) (by simp) (.bool false)).setCell (p:=⟨w.heap.size,1,none⟩) (by simp) (.slice A4 (nl m) c4);obtain⟨z0,z1⟩:=hst;have hv6:NatAt ((w4.setCell ⟨w.heap.size,0,none⟩ (.bool false)).setCell ⟨w.heap.size,1,none⟩ (.slice A4 (nl m) c4)) (.slice A4 (nl m) c4) m:=(hv4.set _ hn4).set _ hn4;generalize (w4.setCell ⟨w.heap.size,0,none⟩ (.bool false)).setCell ⟨w.heap.size,1,none⟩ (.slice A4 (nl m) c4)=W6 at *;exact bodyPost_ret (v:= .agg #[.bool false,.slice A4 (nl m) c4]) (by simp[results,Tryz.results58,go_sem,z0,z1]) rfl ⟨_,rfl,⟨_,by rw[HD.out],by rw[HM.out];exact hv6⟩,hbz⟩
theorem BK (x y:Nat) (vx vy:Value) (w:World) (hx:NatAt w vx x) (hy:NatAt w vy y) (bx:nl x≤17592186044415) (hle:y≤x):
  Calls Tryz.prog 128 #[vx,vy] w (fY w [] (x-y)):=by
 obtain⟨A,c,rfl,hc,hrx,hox⟩:=hx;obtain⟨B,d,rfl,hd,hry,hoy⟩:=hy;have hm:=aX hle;go_enter Tryz.func128,Tryz.ntmps128
 go_wp2_with (first
  |(at_make;refine gN rfl rfl .u64 161 8 Tryz.underlying48 eY (nl x) rfl rfl rfl rfl (by omega) (by omega) ?_;intro w1 hz1 hs1 hc1 hb1)
  |(with_reducible refine iT rfl rfl .u64 161 Tryz.underlying48 iI rfl rfl w.heap.size 0 (List.replicate (nl x) 0) (dg x) (by simp) rfl (fun _=>rfl) hc1 hs1 (hrx.below hb1) ?_;intro w2 hc2 ho2))
 rw[List.length_replicate] at ho2;have hb2:Below w.heap.size w w2:=ho2.belowOf hb1 (Nat.le_refl _);refine(C7 w.heap.size 0 (nl x) _ (nl x) B (nl y) (dg y) d w2 (by rw[iE];simp) rfl hc2 (ho2.soft hs1) (Nat.le_refl _) (by omega) (hry.below hb2) ?hn hm (pW (InR.replicate aM _) (aW x)) (aW y) ?hv).mono ?_
 case hn=>
  rintro b o rfl h;obtain⟨b',o',e,hb',_⟩:=hry.at_ h;injection e with e;injection e;omega
 case hv=>rw[iW _ _ (by rw[aJ];exact Nat.le_refl _),bC,bC];omega
 rintro e w3 ⟨rfl,zs,hzl,hz,hv,hc3,ho3⟩;rw[iW _ _ (by rw[aJ];exact Nat.le_refl _),bC,bC] at hv;have HV:=Lib.hid hv;have HL:=Lib.hid hzl;clear hv hzl;have hlt3:w.heap.size<w3.heap.size:=Nat.lt_of_lt_of_le hz1 (Nat.le_trans ho2.grown.size ho3.grown.size);go_wp2_with fail;refine(dI _ zs (nl x) (nl x) w3 HL.out (Rd.mk hlt3 hc3) (Nat.le_refl _) (by omega)).mono ?_;rintro e w4 ⟨rfl,rfl⟩;go_wp2;go_ret;exact⟨_,rfl,NatAt.trim (Rd.mk hlt3 hc3) hz (by rw[HV.out];omega) (by rw[HL.out];exact Nat.le_refl _) (Old.mk hlt3),From.new (Nat.le_refl _),ho3.belowOf hb2 (Nat.le_refl _)⟩
theorem DF {zs:List Int} {k:Nat} {c s c' T:Int} (hk:k<zs.length) (hs:Split (zs.getD k 0+c) s c') (h:aD aA zs+c*aA^k=T):aD aA (zs.set k s)+c'*aA^(k+1)=T:=by
 have e:=hs.1;rw[kO _ _ _ _ hk,←h,Int.pow_succ];generalize zs.getD k 0=z at *;generalize aA^k=p at *;generalize aD aA zs=v at *;generalize aA=b at *;have e2:s=z+c-b*c':=by omega
 rw[e2];grind
theorem OwnN.more {w w':World} {B:Nat} {v v':Value} {zs l:List Int} {o:Obj} (ho:w'.ownsRow B 161 1 v' (zs.length+l.length) (zs.map (Value.int .u64)++l.map (Value.int .u64))) (hg:(w.alloc o).grownBy w' v.ownBlock) (hat:v'.ownBlock=v.ownBlock∨v'.ownBlock=some (w.alloc o).heap.size):
  OwnN w' B v' (zs++l)∧TxtTo w v w' v':=by
 refine⟨by unfold OwnN;rw[List.map_append,List.length_append];exact ho,⟨hg.os,hg.tape,hg.output,Nat.le_trans (by simp) hg.size,fun i hi hne=>(hg.block i (by simp;omega) hne).trans (Below.heap_alloc w o i hi)⟩,fun g e=> ?_⟩;rcases hat with h|h
 ·left;rw[←h];exact e
 ·right;rw[h] at e;simp at e;omega
theorem NL {us:List Int} {c T:Int} {n L:Nat} (hu:InR aA us) (hc:1≤c) (hn:us.length=n) (h:aD aA us+c*aA^n=T) (hT:T<aA^L):n<L:=by
 rcases Nat.lt_or_ge n L with h1|h1
 ·exact h1
 ·exfalso;have h2:=dM aM hu;have h3:aA^L≤aA^n:=sK (by decide) h1;have h4:1*aA^n≤c*aA^n:=Int.mul_le_mul_of_nonneg_right hc (Int.le_of_lt (kM aM n));omega
def DG (w0:World) (tv:Value) (x y L:Nat) (a b:Value) (wx:World):Prop:=∃X Y,NatAt wx a X∧NatAt wx b Y∧Hid (X*Y=x*y)∧X≠0∧Y≠0∧nl X+nl Y≤L∧Apart tv a∧Apart tv b∧Below w0.heap.size w0 wx
theorem DH (B:Nat) (tv:Value) (zs:List Int) (x y L:Nat) (vx vy:Value) (w:World) (hB:B≤w.heap.size) (ht:OwnN w B tv zs) (hz:InR aA zs) (hx:NatAt w vx x) (hy:NatAt w vy y) (hx0:x≠0) (hy0:y≠0)
  (hax:Apart tv vx) (hay:Apart tv vy) (hLz:zs.length≤L) (hLx:nl x+nl y+1≤L) (hL:L+2≤aF) (hval:aD aA zs+(x*y:Nat)<aA^L):
  Calls Tryz.prog 126 #[tv,vx,vy] w fun e w'=>∃v ws,e= .returned v∧OwnN w' B v ws∧InR aA ws∧aD aA ws=aD aA zs+(x*y:Nat)∧ws.length≤L∧TxtTo w tv w' v:=by
 unfold aF at hL;have HVAL:=Lib.hid hval;have htl:=ht.lt;clear hval;obtain⟨Ax,cx,hxe,_,_,_⟩:=id hx;obtain⟨Ay,cy,hye,_,_,_⟩:=id hy;subst hxe hye;go_enter Tryz.func126,Tryz.ntmps126;go_upto_if 15 with fail;go_cut [1,2] (fun a b wx=>DG w tv x y (L-1) a b wx)
 case first=>
  by_cases hlt:nl x<nl y
  ·go_wp2_with fail;go_meet;exact⟨y,x,hy,hx,Nat.mul_comm _ _,hy0,hx0,by omega,hay,hax,Below.refl _ _⟩
  ·go_wp2_with fail;go_meet;exact⟨x,y,hx,hy,rfl,hx0,hy0,by omega,hax,hay,Below.refl _ _⟩
 case rest=>
  obtain⟨X,Y,hX,hY,HXY,hX0,hY0,hl,haX,haY,hb⟩:=hcut;clear hx hy hax hay hx0 hy0;obtain⟨Bx,dx,hxe,_,_,_⟩:=id hX;obtain⟨By,dy,hye,_,_,_⟩:=id hY;subst hxe hye;go_upto_if 20 with fail;go_cut [1,2] (fun a b wx=>DG w tv x y L a b wx)
  case first=>
   by_cases h40:40≤nl Y
   ·have h40':(40:Int)≤(nl Y:Int):=by omega
    go_wp2_with fail;refine(mB X Y _ _ _ hX hY (by unfold aF;omega)).mono ?_;rintro e w2 ⟨v2,rfl,hv2,hf2,hb2⟩;have hb02:=aB hb hb2;have hm:=cJ X Y;have h1:nl 1=1:=gM (by decide) (by decide);have H1:=Lib.hid h1;clear h1;go_wp2_with fail;go_meet;refine⟨X*Y,1,hv2.below (mD _ _),t8 w2 1 (by decide) (by decide) 161,by unfold Hid;rw[Nat.mul_one];exact HXY.out,Nat.mul_ne_zero hX0 hY0,by decide,by rw[H1.out];omega,?_,?_,hb02.trans ((mD w2 _).mono hb02.size)⟩
    ·exact fun g hg=>hf2.ne2 (Nat.lt_of_lt_of_le (htl g hg).2 hb.size) (haX g hg) (haY g hg)
    ·intro g hg e;have k1:=(htl g hg).2;have k2:=hb02.size;simp[Value.ownBlock] at e;omega
   ·have h40':¬(40:Int)≤(nl Y:Int):=by omega
    go_wp2_with fail;go_meet;exact⟨X,Y,hX,hY,HXY,hX0,hY0,by omega,haX,haY,hb⟩
  case rest=>
   clear hX hY HXY hX0 hY0 hl haX haY hb;obtain⟨X,Y,hX,hY,HXY,hX0,hY0,hl,haX,haY,hb⟩:=hcut;obtain⟨Ax,cx,hxe,hcx,hrX,hoX⟩:=id hX;obtain⟨Ay,cy,hye,hcy,hrY,hoY⟩:=id hY;subst hxe hye;have ht1:=ht.below hb;have hB1:B≤wc.heap.size:=Nat.le_trans hB hb.size;have hto0:TxtTo w tv wc tv:=TxtTo.below hb;go_wp2_with fail;go_loopg [0] (max zs.length (nl X+nl Y)-zs.length) (fun k q wr=>∃j,Hid (zs.length+j+k=max zs.length (nl X+nl Y))∧OwnN wr B q (zs++List.replicate j 0)∧TxtTo wc tv wr q)
   case atStart=>exact⟨0,by unfold Hid;omega,by simpa using ht1,TxtTo.refl _ _⟩
   case round=>
    obtain⟨j,HJ,hq,hto⟩:=hrel;have hll:(zs++List.replicate j (0:Int)).length=zs.length+j:=by rw[List.length_append,List.length_replicate]
    obtain⟨Aq,cq,hqe⟩:=hq.slice;rw[hll] at hqe;subst hqe;have hB2:B≤wr.heap.size:=Nat.le_trans hB1 hto.1.size;have HLL:=Lib.hid hll;clear hll;cases gk with
    |succ k=>
     have hlt:(zs.length:Int)+j<(nl X:Int)+nl Y:=by have:=HJ.out;omega
     have hq':wr.ownsRow B 161 1 (.slice Aq (zs.length+j) cq) (zs.length+j) ((zs++List.replicate j (0:Int)).map (Value.int .u64)):=by
      have:=hq;unfold OwnN at this;rw[HLL.out] at this;exact this
     go_wp2_with (at_builtin;refine eJ rfl rfl 161 _ 1 8 Tryz.underlying48 eY rfl (by decide) B (.slice Aq (zs.length+j) cq) (zs.length+j) _ rfl (hq'.alloc _) [Value.int .u64 0] rfl (by simp) (iD _ _ _) (by simp[Value.oneCell']) (by omega) (by omega) (by simp;omega) ?_;intro q1 w1 ho1 hg1 hat1);have hm:=OwnN.more (zs:=zs++List.replicate j 0) (l:=[0]) (by rw[HLL.out];exact ho1) hg1 hat1;go_wp2_with fail;go_roundg k
     case measure=>omega
     case rel=>
      refine⟨j+1,by have:=HJ.out;unfold Hid;omega,?_,hto.trans hm.2⟩;rw[List.replicate_succ',←List.append_assoc];exact hm.1
    |zero=>
     have hlt:¬(zs.length:Int)+j<(nl X:Int)+nl Y:=by have:=HJ.out;omega
     have hlen1:nl X+nl Y≤zs.length+j:=by omega
     have hlen2:zs.length+j≤L:=by have:=HJ.out;omega
     have hv0:aD aA (zs++List.replicate j (0:Int))=aD aA zs:=by rw[gV,iU];simp
     have hz0:InR aA (zs++List.replicate j (0:Int)):=hz.append (InR.replicate aM _);have HV0:=Lib.hid hv0;clear hv0 HJ;have hXw:=hX;go_wp2_with fail;go_loopg [0,38] (nl Y) (fun k q i wr=>∃(m:Nat) (ws:List Int),Hid (m+k=nl Y)∧i= .int .i64 m∧OwnN wr B q ws∧InR aA ws∧Hid (aD aA ws=aD aA zs+X*aD aA ((dg Y).take m))∧nl X+nl Y≤ws.length∧ws.length≤L∧TxtTo wc tv wr q)
     case atStart=>exact⟨0,_,by unfold Hid;omega,rfl,hq,hz0,by unfold Hid;rw[HV0.out];simp,by rw[HLL.out];exact hlen1,by rw[HLL.out];exact hlen2,hto⟩
     case round=>
      clear hq hto hB2 hlen1 hlen2 hz0;obtain⟨m,ws,HM,rfl,hq,hw,HV,hl1,hl2,hto⟩:=hrel;have hnX:=eQ hX0;cases gk with
      |zero=>
       obtain rfl:m=nl Y:=by have:=HM.out;omega
       have hv:=HV.out;rw[List.take_of_length_le (by rw[aJ];exact Nat.le_refl _),bC] at hv;have hv2:aD aA ws=aD aA zs+((x*y:Nat):Int):=by rw[hv,←HXY.out];push_cast;rfl
       have HV2:=Lib.hid hv2;clear hv hv2;go_wp2_with fail;go_ret;exact⟨_,ws,rfl,hq,hw,HV2.out,hl2,hto0.trans hto⟩
      |succ k=>
       have hm:m<nl Y:=by have:=HM.out;omega
       obtain⟨g,cap,rfl,hgB,hcap,hcm,hsh,hcl⟩:=hq.at_ (by omega);have hrY':Rd .u64 wr Ay (dg Y):=hrY.grown hto.1 (.inr (fun b off e he=>haY b he.symm (by rw[e];rfl)));have hrX':Rd .u64 wr Ax (dg X):=hrX.grown hto.1 (.inr (fun b off e he=>haX b he.symm (by rw[e];rfl)));have haXq:=hto.apart haX (fun g e=>hX.block e);obtain⟨by_,oy,rfl,hbyl,hcY⟩:=hrY'.at_ (by rw[aJ];omega);have g1:=hcY m (by rw[aJ];exact hm);have hyb:=(aW Y).getD aM m;have hts:=gF aA (dg Y) m (by rw[aJ];exact hm);generalize hye:(dg Y).getD m 0=yv at *;have hseg:((ws.drop m).take (nl X)).length=nl X:=by rw[List.length_take,List.length_drop];omega
       have hcell1:Cells .u64 wr g m ((ws.drop m).take (nl X)):=by have:=(hcl.drop m).take (nl X);rwa [Nat.zero_add] at this
       have HSEG:=Lib.hid hseg;have HTS:=Lib.hid hts;have HYE:=Lib.hid hye;have HCL:=Lib.hid hcl;have hneX:∀b o,Ax=some ⟨b,o,none⟩→0<nl X→b≠g:=fun b o e _ he=>haXq g rfl (by rw[e,he];rfl);have i1:(0:Int)≤(m:Int):=by omega
       have i2:(m:Int)≤(m:Int)+(nl X:Int):=by omega
       have i3:(m:Int)+(nl X:Int)≤(cap:Int):=by omega
       have i5:¬cap=m:=by omega
       have i7:m≤cap:=by omega
       have i8:m+nl X≤cap:=by omega
       clear hseg hts hye hcY hcl;go_wp2_with fail;refine(CB g m ((ws.drop m).take (nl X)) (cap-m) Ax (dg X) cx (nl X) yv wr HSEG.out (aJ X) hcell1 hsh.soft (by omega) hrX' hneX ((hw.drop m).take _) (aW X) hyb).mono ?_;rintro e w3 ⟨ts,c,rfl,hc0,hc1,htl,hti,htv,hct,hon⟩;have hpc:=hon.patch HCL.out htl hct (by omega);have hps:(patch ws ts m).length=ws.length:=gQ (by omega);have hpi:=nO hw hti m;have hpo:OwnN w3 B (.slice (some ⟨g,0,none⟩) (patch ws ts m).length cap) (patch ws ts m):=OwnN.of (hon.shape _ _ hsh) hpc hgB (by omega) hcm;rw[hps] at hpo;have hto3:TxtTo wc tv w3 (.slice (some ⟨g,0,none⟩) ws.length cap):=hto.trans ⟨hon.grown,fun _ h=> .inl h⟩;obtain⟨T,HT⟩:∃T:Int,Hid (T=aD aA zs+X*aD aA ((dg Y).take (m+1))):=⟨_,rfl⟩;have hpv:aD aA (patch ws ts m)+c*aA^(m+nl X)=T:=by
        rw[oO (by omega),htl,HT.out,HTS.out,HV.out,Int.pow_add];have e1:=htv;rw[bC] at e1;generalize aD aA ((ws.drop m).take (nl X))=sg at *;generalize aD aA ts=tt at *;generalize aD aA ((dg Y).take m)=yt at *;generalize aA^m=bm at *;generalize aA^nl X=bx at *;have e2:tt=sg+X*yv-c*bx:=by omega
        rw[e2];grind
       have hTL:T<aA^L:=by
        have h1:=HVAL.out;have h2:aD aA ((dg Y).take (m+1))≤Y:=by
         rw[nM];exact Int.ofNat_le.2 (Nat.mod_le _ _)
        have h3:(X:Int)*aD aA ((dg Y).take (m+1))≤X*Y:=Int.mul_le_mul_of_nonneg_left h2 (by omega);have h4:((x*y:Nat):Int)=X*Y:=by rw[←HXY.out];push_cast;rfl
        rw[HT.out];omega
       have HPV:=Lib.hid hpv;have HTL:=Lib.hid hTL;have HPS:=Lib.hid hps;clear hpv hTL hps htv hpc hct HCL hq hsh hcell1 g1 hrX' hrY' htl HV hto;generalize patch ws ts m=us0 at *;go_wp2_with fail;go_loopg [0,9,10] (ws.length-(m+nl X)+(if c=0 then 0 else 1)) (fun k' q cc i wx=>∃(n:Nat) (us:List Int) (c:Int),Hid (us.length-n+(if c=0 then 0 else 1)=k')∧i= .int .i64 n∧cc= .int .u64 c∧(0≤c∧c<aA)∧n≤us.length∧InR aA us∧Hid (aD aA us+c*aA^n=T)∧OwnN wx B q us∧ws.length≤us.length∧us.length≤L∧TxtTo wc tv wx q)
       case atStart=>exact⟨m+nl X,us0,c,by unfold Hid;rw[HPS.out],by go_num,rfl,⟨hc0,hc1⟩,by rw[HPS.out];omega,hpi,HPV,by rw[←HPS.out] at hpo⊢;exact hpo,by rw[HPS.out];exact Nat.le_refl _,by rw[HPS.out];exact hl2,hto3⟩
       case round=>
        clear hpo hpi hto3 HPV hc0 hc1;obtain⟨n,us,c,HK,rfl,rfl,hcb,hnu,hui,HVU,hqo,hlu1,hlu2,hto⟩:=hrel;by_cases hc0:c=0
        ·subst hc0;have hv:=HVU.out;rw[Int.zero_mul,Int.add_zero] at hv;have HVV:Hid (aD aA us=aD aA zs+X*aD aA ((dg Y).take (m+1))):=by unfold Hid;rw[hv];exact HT.out
         clear hv HVU;go_wp2_with fail;go_roundg k
         case measure=>omega
         case rel=>exact⟨m+1,us,by have:=HM.out;unfold Hid;omega,by go_num,hqo,hui,HVV,by omega,hlu2,hto⟩
        ·have hcz:(c != 0)=true:=by simpa using hc0
         have hnL:=hlu1;obtain⟨g',cap',rfl,hgB',hcap',hcm',hsh',hcl'⟩:=hqo.at_ (by omega);have hKd:us.length-n+1=us.length-n+(if c=0 then 0 else 1):=by rw[if_neg hc0]
         have HKD:=Lib.hid hKd;clear hKd;by_cases hnl:n<us.length
         ·have hne:((n:Int)==(us.length:Int))=false:=by simp;omega
          have g1:=hcl' n hnl;rw[Nat.zero_add] at g1;have f1:=hsh'.soft.free n;have ub:=hui.getD aM n;obtain⟨sm,c',hs⟩:=fK (us.getD n 0+c);have hst:=DF hnl hs HVU.out;have hcb':=hs.hi_bd (by omega) (m:=2) (by omega);have hsb:=hs.2;generalize hue:us.getD n 0=uv at *;have HST:=Lib.hid hst;have HSS:=Lib.hid hs;have HUE:=Lib.hid hue;have HQO:=Lib.hid hqo;clear hst hs hue hqo hcl';go_wp2_with (simp only[oP uv c sm c' ub hcb HSS.out]);go_roundg (us.length-(n+1)+(if c'=0 then 0 else 1))
          case measure=>
           have h1:=HK.out;have h2:=HKD.out;split<;>omega
          case rel=>
           refine⟨n+1,us.set n sm,c',by unfold Hid;rw[List.length_set],by go_num,rfl,⟨hcb'.1,?_⟩,by rw[List.length_set];omega,hui.set hsb.1 hsb.2 n,HST,HQO.out.set hnl sm,by rw[List.length_set];exact hlu1,by rw[List.length_set];exact hlu2,?_⟩
           ·have:(2:Int)≤aA:=by decide
            omega
           ·exact hto.trans ⟨kK (w:=wr) ⟨g',n,none⟩ _,fun _ h=> .inl h⟩
         ·obtain rfl:n=us.length:=by omega
          have hne:((us.length:Int)==(us.length:Int))=true:=by simp
          have hLL:us.length<L:=NL hui (by omega) rfl HVU.out HTL.out;have hB2:B≤wr.heap.size:=Nat.le_trans hB1 hto.1.size;have HQO:=Lib.hid hqo;have hqo':wr.ownsRow B 161 1 (.slice (some ⟨g',0,none⟩) us.length cap') us.length (us.map (Value.int .u64)):=hqo;have hs0:Split (0+c) c 0:=⟨by omega,hcb.1,hcb.2⟩;have z0:(0:Int)≤0∧(0:Int)<aA:=⟨by decide,by decide⟩;clear hqo hcl'
          go_wp2_with (first
           |(at_builtin;refine eJ rfl rfl 161 _ 1 8 Tryz.underlying48 eY rfl (by decide) B (.slice (some ⟨g',0,none⟩) us.length cap') us.length _ rfl (hqo'.alloc _) [Value.int .u64 0] rfl (by simp) (iD _ _ _) (by simp[Value.oneCell']) (by omega) (by omega) (by simp;omega) ?_;intro q1 w1 ho1 hg1 hat1;have hm:=OwnN.more (zs:=us) (l:=[0]) ho1 hg1 hat1;obtain⟨g1,cap1,rfl,hgB1,hcap1,hcm1,hsh1,hcl1⟩:=hm.1.at_ (by simp);have gg:=hcl1 us.length (by simp);rw[Nat.zero_add] at gg;simp only[List.getD_eq_getElem?_getD,List.getElem?_append_right (Nat.le_refl _),Nat.sub_self,List.getElem?_cons_zero,Option.getD_some] at gg;have ff:=hsh1.soft.free us.length;simp only[List.length_append,List.length_singleton] at hm⊢)
           |simp only[oP 0 c c 0 z0 hcb hs0])
          go_roundg 0
          case measure=>
           have h1:=HK.out;have h2:=HKD.out;omega
          case rel=>
           have hst:=DF (zs:=us++[0]) (k:=us.length) (c:=c) (s:=c) (c':=0) (T:=T) (by simp) (by simpa [List.getElem?_append_right] using hs0) (by have:=HVU.out;rw[gV,sJ];simpa using this);refine⟨us.length+1,(us++[0]).set us.length c,0,by unfold Hid;simp,by go_num,rfl,⟨by decide,by decide⟩,by simp,(hui.append (InR.cons (by decide) (by decide) InR.nil)).set hcb.1 hcb.2 us.length,(by unfold Hid;exact hst),hm.1.set (by simp) c,by simp;omega,by simp;omega,?_⟩;exact(hto.trans hm.2).trans ⟨kK (w:=w1) ⟨g1,us.length,none⟩ _,fun _ h=> .inl h⟩
end Go.Proofs.YtbhplgdbfmifkaaGreatDoor
