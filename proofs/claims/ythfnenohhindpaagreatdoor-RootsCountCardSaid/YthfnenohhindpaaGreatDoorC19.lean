/-
  Contracts, laws: Own, IntA, IntB, IntC, IntD, AccA.
-/
import Derived.Test.YthfnenohhindpaaGreatDoorC18
import Derived.Deep.RegionHeld3
import Derived.Deep.DeepCutAuto
set_option linter.all false
set_option maxHeartbeats 8000000
set_option maxRecDepth 100000
namespace Go.Proofs.YthfnenohhindpaaGreatDoor
open Go.RowKit Sos
theorem OwnN.slice {w:World} {B:Nat} {v:Value} {zs:List Int} (h:OwnN w B v zs):∃A c,v= .slice A zs.length c:=by
 rcases h.2 with ⟨rfl,e⟩|⟨g,a,b,rfl,_⟩
 ·exact⟨none,0,by rw[e]⟩
 ·exact⟨_,a,rfl⟩
theorem OwnN.parts {w:World} {B n c:Nat} {A:Option Addr} {zs:List Int} (h:OwnN w B (.slice A n c) zs) (d:0<zs.length):
  ∃g,A=some ⟨g,0,none⟩∧B<=g∧n<=c∧c<=maxLen∧Shape w g 181 c∧Cells .u64 w g 0 zs:=by
 obtain⟨g,l,e,f,o,i,j,k⟩:=h.at_ d;simp only[Value.slice.injEq] at e;obtain⟨a,m,b⟩:=e;subst b;exact⟨g,a,f,by omega,i,j,k⟩
theorem OwnN.set {w:World} {B g n c:Nat} {zs:List Int} (h:OwnN w B (.slice (some ⟨g,0,none⟩) n c) zs) {k:Nat} (p:k<zs.length) (d:Int):OwnN (w.setCell ⟨g,k,none⟩ (.int .u64 d)) B (.slice (some ⟨g,0,none⟩) n c) (zs.set k d):=by
 obtain⟨r,q,e,i,j,l,m,o⟩:=h.at_ (by omega);simp only[Value.slice.injEq,Option.some.injEq,Addr.mk.injEq] at e;obtain⟨⟨a, -, -⟩,b,f⟩:=e;subst a f;have:=OwnN.of (m.set ⟨g,k,none⟩ (.int .u64 d)) (by have:=o.set p d;rw[aS] at this;exact this) i (by simpa using j) l;rw[List.length_set,<-b] at this;exact this
theorem NatAt.grown {w w':World} {v:Value} {n:Nat} {d:Option Nat} (h:NatAt w v n) (a:w.grownBy w' d) (i:∀g,d=some g->v.ownBlock≠some g):NatAt w' v n:=by
 obtain⟨A,c,rfl,f,k,j⟩:=h;refine⟨A,c,rfl,f,k.grown a (.inr ?_),j.mono a.size⟩;rintro b l rfl e;exact i b e.symm rfl
theorem NatAt.block {w:World} {v:Value} {n:Nat} (h:NatAt w v n) {g:Nat} (e:v.ownBlock=some g):g<w.heap.size:=by
 obtain⟨A,c,rfl,d,f,b⟩:=h;cases A with
 |none=>simp[Value.ownBlock] at e
 |some a=>have:=b a rfl;simp[Value.ownBlock] at e;omega
theorem j0 (w:World) (u:Value) (t:TypeId):Src (w.alloc (.cells #[u] t)) (some ⟨w.heap.size,0,none⟩) [u]:=by
 refine .inr ⟨_,_,rfl,fun i v hv=> ?_⟩;match i,hv with
 |0,hv=>simp at hv;subst hv;simp[go_sem]
theorem BO (w:World) (u:Value) (t:TypeId) (g:Nat) (a:w.heap.size=g):Src (w.alloc (.cells #[u] t)) (some ⟨g,0,none⟩) [u]:=by subst a;exact j0 w u t
def TxtTo (w:World) (a:Value) (w':World) (v:Value):Prop:=w.grownBy w' a.ownBlock∧∀g,v.ownBlock=some g->a.ownBlock=some g∨w.heap.size<=g
def Apart (a b:Value):Prop:=∀g,a.ownBlock=some g->b.ownBlock≠some g
theorem TxtTo.refl (w:World) (v:Value):TxtTo w v w v:=⟨World.grownBy.refl w _,fun _ h=> .inl h⟩
theorem TxtTo.trans {w w1 l:World} {a b c:Value} (h:TxtTo w a w1 b) (k:TxtTo w1 b l c):TxtTo w a l c:=by
 refine⟨⟨k.1.os.trans h.1.os,k.1.tape.trans h.1.tape,k.1.output.trans h.1.output,aG h.1.size k.1.size,fun i f j=> ?_⟩,fun g m=> ?_⟩
 ·refine(k.1.block i (aU f h.1.size) (fun e=> ?_)).trans (h.1.block i f j);rcases h.2 i e.symm with d|d
  ·exact j d.symm
  ·omega
 ·rcases k.2 g m with d|d
  ·exact h.2 g d
  ·exact .inr (aG h.1.size d)
theorem TxtTo.below {w w1:World} {a:Value} (b:Below w.heap.size w w1):TxtTo w a w1 a:=⟨oQ b _,fun _ h=> .inl h⟩
theorem TxtTo.belowB {w w':World} {B:Nat} {a b:Value} (h:TxtTo w a w' b) (d:B<=w.heap.size) (c:∀g,a.ownBlock=some g->B<=g):Below B w w':=
 ⟨h.1.os,h.1.tape,h.1.output,h.1.size,fun k f=>h.1.block k (by omega) (fun e=>by have:=c k e.symm;omega)⟩
theorem NatAt.txt {w w':World} {v a b:Value} {n:Nat} (h:NatAt w v n) (d:TxtTo w a w' b) (c:Apart a v):NatAt w' v n:=h.grown d.1 c
theorem TxtTo.apart {w w':World} {a b v:Value} (h:TxtTo w a w' b) (f:Apart a v) (hv:∀g,v.ownBlock=some g->g<w.heap.size):Apart b v:=by
 intro g d e;rcases h.2 g d with c|c
 ·exact f g c e
 ·have:=hv g e;omega
theorem TxtTo.step {w w1 f:World} {a b:Value} {g:Nat} (h:TxtTo w a w1 b) (c:w1.grownBy f (some g)) (k:w.heap.size<=g):TxtTo w a f b:=
 ⟨⟨c.os.trans h.1.os,c.tape.trans h.1.tape,c.output.trans h.1.output,aG h.1.size c.size,fun i d j=>(c.block i (aU d h.1.size) (fun e=>by injection e;omega)).trans (h.1.block i d j)⟩,h.2⟩
theorem Shape.grown {w w':World} {g n:Nat} {t:TypeId} {a:Option Nat} (h:Shape w g t n) (b:w.grownBy w' a) (c:a≠some g):Shape w' g t n:=h.keep (b.block g h.lt (fun e=>c e.symm))
theorem VC.grown {w w':World} {g off:Nat} {cs:List Value} {a:Option Nat} (h:VC w g off cs) (b:w.grownBy w' a) (c:g<w.heap.size) (d:a≠some g):VC w' g off cs:=h.keep (b.block g c (fun e=>d e.symm))
theorem OwnN.grown {w w':World} {B:Nat} {v:Value} {zs:List Int} {b:Option Nat} (h:OwnN w B v zs) (c:w.grownBy w' b) (d:∀g,b=some g->v.ownBlock≠some g):OwnN w' B v zs:=by
 refine World.ownsRow.kept h c ?_;cases hv:v.ownBlock with
 |none=>exact .inl rfl
 |some a=>exact .inr (fun e=>d a e.symm hv)
def IntAt (w:World) (v:Value) (n:Int):Prop:=∃u,v= .agg #[.bool (decide (n<0)),u]∧NatAt w u n.natAbs
def dB (w:World) (n:Int) (e:Ending) (w':World):Prop:=∃v,e= .returned v∧IntAt w' v n∧Below w.heap.size w w'
theorem IntAt.below {w w':World} {v:Value} {n:Int} (h:IntAt w v n) (a:Below w.heap.size w w'):IntAt w' v n:=by
 obtain⟨u,hv,b⟩:=h;exact⟨u,hv,b.below a⟩
theorem mO (f:Bool) (u:Value) (m:Nat) (n:Int) (w:World) (h:NatAt w u m) (j:nl m<=17592186044416) (hn:n=if f then -(m:Int) else m):
  Calls Tryz.prog 119 #[.bool f,u] w fun e w'=>e= .returned (.agg #[.bool (decide (n<0)),u])∧Below w.heap.size w w':=by
 obtain⟨A,c,rfl,i,l,k⟩:=h;cases f with
 |false=>
  have a:decide (n<0)=false:=by simp at hn;simp;omega
  rw[a];clear a hn;go_enter Tryz.func119,Tryz.ntmps119;go_wp2;exact aK (v:= .agg #[.bool false,.slice A (nl m) c]) (by simp[results,Tryz.results119,go_sem]) rfl ⟨rfl,(aH _ _).alloc aE _⟩
 |true=>
  by_cases b:m=0
  ·have a:decide (n<0)=false:=by subst b;simp at hn;simp;omega
   have d:¬0<nl m:=by rw[b,dC];omega
   have g:¬(0:Int)<(nl m:Int):=by omega
   rw[a];clear a hn b;go_enter Tryz.func119,Tryz.ntmps119;go_wp2;exact aK (v:= .agg #[.bool false,.slice A (nl m) c]) (by simp[results,Tryz.results119,go_sem,d]) rfl ⟨rfl,(aH _ _).alloc aE _⟩
  ·have a:decide (n<0)=true:=by simp at hn;simp;omega
   have d:0<nl m:=fI b;have g:(0:Int)<(nl m:Int):=by omega
   rw[a];clear a hn b;go_enter Tryz.func119,Tryz.ntmps119;go_wp2;exact aK (v:= .agg #[.bool true,.slice A (nl m) c]) (by simp[results,Tryz.results119,go_sem,d]) rfl ⟨rfl,(aH _ _).alloc aE _⟩
theorem fD (n:Int) (v:Value) (w:World) (hv:IntAt w v n) (h:nl n.natAbs<=17592186044416):
  Calls Tryz.prog 76 #[v] w fun e w'=>e= .returned (.bool (decide (n=0)))∧Below w.heap.size w w':=by
 obtain⟨u,rfl,A,c,rfl,g,j,i⟩:=hv;by_cases a:n=0
 ·have d:((nl n.natAbs:Int)==0)=true:=by rw[a,show(0:Int).natAbs=0 from rfl,dC];rfl
  have b:decide (n=0)=true:=by simpa using a
  rw[b];clear b a;go_enter Tryz.func76,Tryz.ntmps76;go_wp2;go_ret;exact⟨rfl,(aH _ _).alloc aE _⟩
 ·have f:=fI (show n.natAbs≠0 by omega);have d:((nl n.natAbs:Int)==0)=false:=by simp;omega
  have b:decide (n=0)=false:=by simpa using a
  rw[b];clear b a;go_enter Tryz.func76,Tryz.ntmps76;go_wp2;go_ret;exact⟨rfl,(aH _ _).alloc aE _⟩
theorem aT (w:World) (b c:Nat) (v:Value) (g o:Nat) (h:b≠g):(w.setCell ⟨b,c,none⟩ v).cell? ⟨g,o,none⟩=w.cell? ⟨g,o,none⟩:=
 World.cell?_of_block (a:=⟨g,o,none⟩) (Below.heap_setCell w ⟨b,c,none⟩ v g (fun e=>h e.symm))
theorem NatAt.set {w:World} {u:Value} {n b o:Nat} (h:NatAt w u n) (v:Value) (a:u.ownBlock≠some b):NatAt (w.setCell ⟨b,o,none⟩ v) u n:=
 h.grown (lE (w:=w) ⟨b,o,none⟩ v) (fun g e=>by injection e with e;subst e;exact a)
theorem NatAt.ne {w:World} {u:Value} {n b:Nat} (h:NatAt w u n) (a:w.heap.size<=b):u.ownBlock≠some b:=fun e=>by
 have:=h.block e;omega
theorem mP {w:World} {b:Nat} {a c p q:Value} (d:w.cell? ⟨b,0,none⟩=some a) (e:w.cell? ⟨b,1,none⟩=some c):
  ((w.setCell ⟨b,0,none⟩ p).setCell ⟨b,1,none⟩ q).cell? ⟨b,0,none⟩=some p∧((w.setCell ⟨b,0,none⟩ p).setCell ⟨b,1,none⟩ q).cell? ⟨b,1,none⟩=some q:=by
 constructor
 ·rw[World.cell?_setCell_other _ _ _ _ (by simp),World.cell?_setCell_same _ _ _ d]
 ·exact World.cell?_setCell_same _ _ _ ((World.cell?_setCell_other _ _ _ _ (by simp)).trans e)
theorem vT (w:World) (a b c d:Value) (t:TypeId):let W:=((w.alloc (.cells #[a,b] t)).alloc (.cells #[c,d] t)).alloc (.cells #[.bool false,.slice none 0 0] t)
  W.cell? ⟨w.heap.size,0,none⟩=some a∧W.cell? ⟨w.heap.size,1,none⟩=some b∧W.cell? ⟨w.heap.size+1,0,none⟩=some c∧W.cell? ⟨w.heap.size+1,1,none⟩=some d∧
  W.cell? ⟨w.heap.size+1+1,0,none⟩=some (.bool false)∧W.cell? ⟨w.heap.size+1+1,1,none⟩=some (.slice none 0 0)∧(∀j,W.frozen? ⟨w.heap.size+1+1,j,none⟩=false)∧W.heap.size=w.heap.size+3∧Below w.heap.size w W:=by
 refine⟨by simp[go_sem],by simp[go_sem],by simp[go_sem],by simp[go_sem],by simp[go_sem],by simp[go_sem],fun j=>by simp[go_sem],by simp,?_⟩;exact(((aH _ _).alloc aE _).alloc (by simp) _).alloc (by simp;omega) _
theorem K8 {x y:Int} (h:decide (x<0)=decide (y<0)):x+y=if decide (x<0) then -((x.natAbs+y.natAbs:Nat):Int) else ((x.natAbs+y.natAbs:Nat):Int):=by
 by_cases a:x<0
 ·have b:y<0:=by simpa [a] using h
  simp[a];omega
 ·have b:¬y<0:=by simpa [a] using h
  simp[a];omega
theorem sB (x y:Int) (vx vy:Value) (w:World) (hx:IntAt w vx x) (hy:IntAt w vy y) (bx:nl x.natAbs<=17592186044414) (bY:nl y.natAbs<=17592186044414):
  Calls Tryz.prog 114 #[vx,vy] w (dB w (x+y)):=by
 obtain⟨z,rfl,V⟩:=hx;obtain⟨A,rfl,X⟩:=hy;obtain⟨s,k,I,l,L,M,E,ad,m⟩:=vT w (.bool (decide (x<0))) z (.bool (decide (y<0))) A 59;by_cases P:decide (x<0)=decide (y<0)
 ·have aq:=K8 P;have aw:(decide (x<0)==decide (y<0))=true:=by simpa using P
  have an:=oP x.natAbs y.natAbs;have F:=V.below m;have G:=X.below m;have O:=aB aq;generalize decide (x<0)=H at *;generalize decide (y<0)=N at *;have r:=aB ad;clear aq P ad;go_enter Tryz.func114,Tryz.ntmps114;go_wp2_with fail;generalize ((w.alloc (.cells #[.bool H,z] 59)).alloc (.cells #[.bool N,A] 59)).alloc (.cells #[.bool false,.slice none 0 0] 59)=W at *;have g:w.heap.size<W.drew.heap.size:=by have:=r.out;show w.heap.size<W.heap.size;omega
  have n:w.heap.size+1<W.drew.heap.size:=by have:=r.out;show w.heap.size+1<W.heap.size;omega
  have i:w.heap.size+1+1<W.drew.heap.size:=by have:=r.out;show w.heap.size+1+1<W.heap.size;omega
  go_region_held3 (fun C=>C.cell? ⟨w.heap.size,0,none⟩=some (.bool H)∧C.cell? ⟨w.heap.size,1,none⟩=some z∧C.cell? ⟨w.heap.size+1,1,none⟩=some A)
   (first|(exact⟨s,k,l⟩)
         |(exact⟨(f.cell (p:=⟨w.heap.size,0,none⟩) g).trans s,(f.cell (p:=⟨w.heap.size,1,none⟩) g).trans k,(f.cell (p:=⟨w.heap.size+1,1,none⟩) n).trans l⟩)
         |(exact⟨(a.cell (p:=⟨w.heap.size,0,none⟩) g).trans s,(a.cell (p:=⟨w.heap.size,1,none⟩) g).trans k,(a.cell (p:=⟨w.heap.size+1,1,none⟩) n).trans l⟩)
         |((exact⟨(aT _ _ _ _ _ _ (show w.heap.size+1+1≠w.heap.size by omega)).trans ((aT _ _ _ _ _ _ (show w.heap.size+1+1≠w.heap.size by omega)).trans ((a.cell (p:=⟨w.heap.size,0,none⟩) g).trans s)),(aT _ _ _ _ _ _ (show w.heap.size+1+1≠w.heap.size by omega)).trans ((aT _ _ _ _ _ _ (show w.heap.size+1+1≠w.heap.size by omega)).trans ((a.cell (p:=⟨w.heap.size,1,none⟩) g).trans k)),(aT _ _ _ _ _ _ (show w.heap.size+1+1≠w.heap.size+1 by omega)).trans ((aT _ _ _ _ _ _ (show w.heap.size+1+1≠w.heap.size+1 by omega)).trans ((a.cell (p:=⟨w.heap.size+1,1,none⟩) n).trans l))⟩)))
   (first
    |(go_at_call 169;(with_reducible refine(oU _ _ z A _ F.drew G.drew (by omega) (by omega)).mono ?_);rintro e4 w4 ⟨v4,rfl,B,S,f⟩;obtain⟨c,d,rfl,aj,ap,ao⟩:=id B)
    |(go_at_call 119;(with_reducible refine(mO H _ _ (x+y) _ B (by omega) O.out).mono ?_);rintro e5 D ⟨rfl,J⟩;have a:=aC f J;have Z:=(a.cell (p:=⟨w.heap.size+1+1,0,none⟩) i).trans L;have ab:=(a.cell (p:=⟨w.heap.size+1+1,1,none⟩) i).trans M;have ah:=(a.frozen (p:=⟨w.heap.size+1+1,0,none⟩) i).trans (E 0);have ai:=(a.frozen (p:=⟨w.heap.size+1+1,1,none⟩) i).trans (E 1)))
  go_wp2_with fail;have U:=mP (p:= .bool (decide (x+y<0))) (q:= .slice c (nl (x.natAbs+y.natAbs)) d) Z ab;have Q:Below w.heap.size w D:=m.drew.trans (a.mono m.size);have R:=(Q.setCell (p:=⟨w.heap.size+1+1,0,none⟩) (by simp;omega) (.bool (decide (x+y<0)))).setCell (p:=⟨w.heap.size+1+1,1,none⟩) (by simp;omega) (.slice c (nl (x.natAbs+y.natAbs)) d);obtain⟨z0,z1⟩:=U;have T:(x+y).natAbs=x.natAbs+y.natAbs:=by
   have:=O.out;cases H<;>simp at this<;>omega
  have Y:NatAt ((D.setCell ⟨w.heap.size+1+1,0,none⟩ (.bool (decide (x+y<0)))).setCell ⟨w.heap.size+1+1,1,none⟩ (.slice c (nl (x.natAbs+y.natAbs)) d)) (.slice c (nl (x.natAbs+y.natAbs)) d) (x.natAbs+y.natAbs):=by
   have K:=S.ne2 i (V.ne (by omega)) (X.ne (by omega));exact((B.below J).set _ K).set _ K
  generalize (D.setCell ⟨w.heap.size+1+1,0,none⟩ (.bool (decide (x+y<0)))).setCell ⟨w.heap.size+1+1,1,none⟩ (.slice c (nl (x.natAbs+y.natAbs)) d)=W6 at *;exact aK (v:= .agg #[.bool (decide (x+y<0)),.slice c (nl (x.natAbs+y.natAbs)) d]) (by simp[results,Tryz.results114,go_sem,z0,z1]) rfl ⟨_,rfl,⟨_,rfl,by rw[T];exact Y⟩,R⟩
 ·have aw:(decide (x<0)==decide (y<0))=false:=by simpa using P
  have F:=V.below m;have G:=X.below m;have ac:(x<0∧¬y<0)∨(¬x<0∧y<0):=by
   by_cases t:x<0<;>by_cases u:y<0<;>simp[t,u] at P⊢
  have al:=fun W (t:NatAt W z x.natAbs) (u:NatAt W A y.natAbs)=>kK x.natAbs y.natAbs z A W t u (by omega) (by omega);have ak:=iH (x.natAbs:Int) (y.natAbs:Int);have ar:(x+y=if decide (x<0) then -((x.natAbs-y.natAbs:Nat):Int) else ((x.natAbs-y.natAbs:Nat):Int))∨x.natAbs<y.natAbs:=by
   by_cases h:x.natAbs<y.natAbs
   ·exact .inr h
   ·left;rcases ac with ⟨t,u⟩|⟨t,u⟩<;>simp[t]<;>omega
  have au:(x+y=if decide (y<0) then -((y.natAbs-x.natAbs:Nat):Int) else ((y.natAbs-x.natAbs:Nat):Int))∨y.natAbs<=x.natAbs:=by
   by_cases h:y.natAbs<=x.natAbs
   ·exact .inr h
   ·left;rcases ac with ⟨t,u⟩|⟨t,u⟩<;>simp[u]<;>omega
  have ae:=aB ar;have af:=aB au;have ag:=aB ac;have r:=aB ad;clear ar au ac P ad;by_cases am:y.natAbs<=x.natAbs
  ·have T:(x+y).natAbs=x.natAbs-y.natAbs:=by rcases ag.out with ⟨t,u⟩|⟨t,u⟩<;>omega
   have O:=aB (ae.out.resolve_right (by omega));have av:0<=bN (x.natAbs:Int) (y.natAbs:Int):=by omega
   have an:nl (x.natAbs-y.natAbs)<=nl x.natAbs:=bX (Nat.sub_le _ _);generalize bN (x.natAbs:Int) (y.natAbs:Int)=cc at *;generalize decide (x<0)=H at *;generalize decide (y<0)=N at *;clear ak ae af;go_enter Tryz.func114,Tryz.ntmps114;go_wp2_with fail;generalize ((w.alloc (.cells #[.bool H,z] 59)).alloc (.cells #[.bool N,A] 59)).alloc (.cells #[.bool false,.slice none 0 0] 59)=W at *;refine(al W F G).mono ?_;rintro e o ⟨rfl,b⟩;have hW:=r.out;have s:=(b.cell (p:=⟨w.heap.size,0,none⟩) (by show w.heap.size<_;omega)).trans s;have k:=(b.cell (p:=⟨w.heap.size,1,none⟩) (by show w.heap.size<_;omega)).trans k;have I:=(b.cell (p:=⟨w.heap.size+1,0,none⟩) (by show w.heap.size+1<_;omega)).trans I;have l:=(b.cell (p:=⟨w.heap.size+1,1,none⟩) (by show w.heap.size+1<_;omega)).trans l;have L:=(b.cell (p:=⟨w.heap.size+1+1,0,none⟩) (by show w.heap.size+1+1<_;omega)).trans L;have M:=(b.cell (p:=⟨w.heap.size+1+1,1,none⟩) (by show w.heap.size+1+1<_;omega)).trans M;have E:=fun j=>(b.frozen (p:=⟨w.heap.size+1+1,j,none⟩) (by show w.heap.size+1+1<_;omega)).trans (E j);have F:=F.below b;have G:=G.below b;have m:=aC m b;clear hW;go_wp2_with fail;have g:w.heap.size<o.drew.heap.size:=by have:=r.out;have:=b.size;show w.heap.size<o.heap.size;omega
   have n:w.heap.size+1<o.drew.heap.size:=by have:=r.out;have:=b.size;show w.heap.size+1<o.heap.size;omega
   have i:w.heap.size+1+1<o.drew.heap.size:=by have:=r.out;have:=b.size;show w.heap.size+1+1<o.heap.size;omega
   go_region_held3 (fun C=>C.cell? ⟨w.heap.size,0,none⟩=some (.bool H)∧C.cell? ⟨w.heap.size,1,none⟩=some (z)∧C.cell? ⟨w.heap.size+1,1,none⟩=some (A))
    (first|(exact⟨s,k,l⟩)
          |(exact⟨(f.cell (p:=⟨w.heap.size,0,none⟩) g).trans s,(f.cell (p:=⟨w.heap.size,1,none⟩) g).trans k,(f.cell (p:=⟨w.heap.size+1,1,none⟩) n).trans l⟩)
          |(exact⟨(a.cell (p:=⟨w.heap.size,0,none⟩) g).trans s,(a.cell (p:=⟨w.heap.size,1,none⟩) g).trans k,(a.cell (p:=⟨w.heap.size+1,1,none⟩) n).trans l⟩)
          |(exact⟨(aT _ _ _ _ _ _ (show w.heap.size+1+1≠w.heap.size by omega)).trans ((aT _ _ _ _ _ _ (show w.heap.size+1+1≠w.heap.size by omega)).trans ((a.cell (p:=⟨w.heap.size,0,none⟩) g).trans s)),(aT _ _ _ _ _ _ (show w.heap.size+1+1≠w.heap.size by omega)).trans ((aT _ _ _ _ _ _ (show w.heap.size+1+1≠w.heap.size by omega)).trans ((a.cell (p:=⟨w.heap.size,1,none⟩) g).trans k)),(aT _ _ _ _ _ _ (show w.heap.size+1+1≠w.heap.size+1 by omega)).trans ((aT _ _ _ _ _ _ (show w.heap.size+1+1≠w.heap.size+1 by omega)).trans ((a.cell (p:=⟨w.heap.size+1,1,none⟩) n).trans l))⟩))
    (first
     |(go_at_call 170;(with_reducible refine(nU _ _ z A _ F.drew G.drew (by omega) am).mono ?_);rintro e4 w4 ⟨v4,rfl,B,S,f⟩;obtain⟨c,d,rfl,aj,ap,ao⟩:=id B)
     |(go_at_call 119;(with_reducible refine(mO H _ _ (x+y) _ B (by omega) O.out).mono ?_);rintro e5 D ⟨rfl,J⟩;have a:=aC f J;have Z:=(a.cell (p:=⟨w.heap.size+1+1,0,none⟩) i).trans L;have ab:=(a.cell (p:=⟨w.heap.size+1+1,1,none⟩) i).trans M;have ah:=(a.frozen (p:=⟨w.heap.size+1+1,0,none⟩) i).trans (E 0);have ai:=(a.frozen (p:=⟨w.heap.size+1+1,1,none⟩) i).trans (E 1)))
   go_wp2_with fail;have U:=mP (p:= .bool (decide (x+y<0))) (q:= .slice c (nl (x.natAbs-y.natAbs)) d) Z ab;have Q:Below w.heap.size w D:=m.drew.trans (a.mono m.size);have R:=(Q.setCell (p:=⟨w.heap.size+1+1,0,none⟩) (by simp;omega) (.bool (decide (x+y<0)))).setCell (p:=⟨w.heap.size+1+1,1,none⟩) (by simp;omega) (.slice c (nl (x.natAbs-y.natAbs)) d);obtain⟨z0,z1⟩:=U;have Y:NatAt ((D.setCell ⟨w.heap.size+1+1,0,none⟩ (.bool (decide (x+y<0)))).setCell ⟨w.heap.size+1+1,1,none⟩ (.slice c (nl (x.natAbs-y.natAbs)) d)) (.slice c (nl (x.natAbs-y.natAbs)) d) (x.natAbs-y.natAbs):=by
    have K:=S.ne2 i (V.ne (by omega)) (X.ne (by omega));exact((B.below J).set _ K).set _ K
   generalize (D.setCell ⟨w.heap.size+1+1,0,none⟩ (.bool (decide (x+y<0)))).setCell ⟨w.heap.size+1+1,1,none⟩ (.slice c (nl (x.natAbs-y.natAbs)) d)=W6 at *;exact aK (v:= .agg #[.bool (decide (x+y<0)),.slice c (nl (x.natAbs-y.natAbs)) d]) (by simp[results,Tryz.results114,go_sem,z0,z1]) rfl ⟨_,rfl,⟨_,rfl,by rw[T];exact Y⟩,R⟩
  ·have T:(x+y).natAbs=y.natAbs-x.natAbs:=by rcases ag.out with ⟨t,u⟩|⟨t,u⟩<;>omega
   have O:=aB (af.out.resolve_right am);have av:¬0<=bN (x.natAbs:Int) (y.natAbs:Int):=by omega
   have an:nl (y.natAbs-x.natAbs)<=nl y.natAbs:=bX (Nat.sub_le _ _);generalize bN (x.natAbs:Int) (y.natAbs:Int)=cc at *;generalize decide (x<0)=H at *;generalize decide (y<0)=N at *;clear ak ae af;go_enter Tryz.func114,Tryz.ntmps114;go_wp2_with fail;generalize ((w.alloc (.cells #[.bool H,z] 59)).alloc (.cells #[.bool N,A] 59)).alloc (.cells #[.bool false,.slice none 0 0] 59)=W at *;refine(al W F G).mono ?_;rintro e o ⟨rfl,b⟩;have hW:=r.out;have s:=(b.cell (p:=⟨w.heap.size,0,none⟩) (by show w.heap.size<_;omega)).trans s;have k:=(b.cell (p:=⟨w.heap.size,1,none⟩) (by show w.heap.size<_;omega)).trans k;have I:=(b.cell (p:=⟨w.heap.size+1,0,none⟩) (by show w.heap.size+1<_;omega)).trans I;have l:=(b.cell (p:=⟨w.heap.size+1,1,none⟩) (by show w.heap.size+1<_;omega)).trans l;have L:=(b.cell (p:=⟨w.heap.size+1+1,0,none⟩) (by show w.heap.size+1+1<_;omega)).trans L;have M:=(b.cell (p:=⟨w.heap.size+1+1,1,none⟩) (by show w.heap.size+1+1<_;omega)).trans M;have E:=fun j=>(b.frozen (p:=⟨w.heap.size+1+1,j,none⟩) (by show w.heap.size+1+1<_;omega)).trans (E j);have F:=F.below b;have G:=G.below b;have m:=aC m b;clear hW;go_wp2_with fail;have g:w.heap.size<o.drew.heap.size:=by have:=r.out;have:=b.size;show w.heap.size<o.heap.size;omega
   have n:w.heap.size+1<o.drew.heap.size:=by have:=r.out;have:=b.size;show w.heap.size+1<o.heap.size;omega
   have i:w.heap.size+1+1<o.drew.heap.size:=by have:=r.out;have:=b.size;show w.heap.size+1+1<o.heap.size;omega
   go_region_held3 (fun C=>C.cell? ⟨w.heap.size+1,0,none⟩=some (.bool N)∧C.cell? ⟨w.heap.size,1,none⟩=some (z)∧C.cell? ⟨w.heap.size+1,1,none⟩=some (A))
    (first|(exact⟨I,k,l⟩)
          |(exact⟨(f.cell (p:=⟨w.heap.size+1,0,none⟩) n).trans I,(f.cell (p:=⟨w.heap.size,1,none⟩) g).trans k,(f.cell (p:=⟨w.heap.size+1,1,none⟩) n).trans l⟩)
          |(exact⟨(a.cell (p:=⟨w.heap.size+1,0,none⟩) n).trans I,(a.cell (p:=⟨w.heap.size,1,none⟩) g).trans k,(a.cell (p:=⟨w.heap.size+1,1,none⟩) n).trans l⟩)
          |(exact⟨(aT _ _ _ _ _ _ (show w.heap.size+1+1≠w.heap.size+1 by omega)).trans ((aT _ _ _ _ _ _ (show w.heap.size+1+1≠w.heap.size+1 by omega)).trans ((a.cell (p:=⟨w.heap.size+1,0,none⟩) n).trans I)),(aT _ _ _ _ _ _ (show w.heap.size+1+1≠w.heap.size by omega)).trans ((aT _ _ _ _ _ _ (show w.heap.size+1+1≠w.heap.size by omega)).trans ((a.cell (p:=⟨w.heap.size,1,none⟩) g).trans k)),(aT _ _ _ _ _ _ (show w.heap.size+1+1≠w.heap.size+1 by omega)).trans ((aT _ _ _ _ _ _ (show w.heap.size+1+1≠w.heap.size+1 by omega)).trans ((a.cell (p:=⟨w.heap.size+1,1,none⟩) n).trans l))⟩))
    (first
     |(go_at_call 170;(with_reducible refine(nU _ _ A z _ G.drew F.drew (by omega) (by omega)).mono ?_);rintro e4 w4 ⟨v4,rfl,B,S,f⟩;obtain⟨c,d,rfl,aj,ap,ao⟩:=id B)
     |(go_at_call 119;(with_reducible refine(mO N _ _ (x+y) _ B (by omega) O.out).mono ?_);rintro e5 D ⟨rfl,J⟩;have a:=aC f J;have Z:=(a.cell (p:=⟨w.heap.size+1+1,0,none⟩) i).trans L;have ab:=(a.cell (p:=⟨w.heap.size+1+1,1,none⟩) i).trans M;have ah:=(a.frozen (p:=⟨w.heap.size+1+1,0,none⟩) i).trans (E 0);have ai:=(a.frozen (p:=⟨w.heap.size+1+1,1,none⟩) i).trans (E 1)))
   go_wp2_with fail;have U:=mP (p:= .bool (decide (x+y<0))) (q:= .slice c (nl (y.natAbs-x.natAbs)) d) Z ab;have Q:Below w.heap.size w D:=m.drew.trans (a.mono m.size);have R:=(Q.setCell (p:=⟨w.heap.size+1+1,0,none⟩) (by simp;omega) (.bool (decide (x+y<0)))).setCell (p:=⟨w.heap.size+1+1,1,none⟩) (by simp;omega) (.slice c (nl (y.natAbs-x.natAbs)) d);obtain⟨z0,z1⟩:=U;have Y:NatAt ((D.setCell ⟨w.heap.size+1+1,0,none⟩ (.bool (decide (x+y<0)))).setCell ⟨w.heap.size+1+1,1,none⟩ (.slice c (nl (y.natAbs-x.natAbs)) d)) (.slice c (nl (y.natAbs-x.natAbs)) d) (y.natAbs-x.natAbs):=by
    have K:=S.ne2 i (X.ne (by omega)) (V.ne (by omega));exact((B.below J).set _ K).set _ K
   generalize (D.setCell ⟨w.heap.size+1+1,0,none⟩ (.bool (decide (x+y<0)))).setCell ⟨w.heap.size+1+1,1,none⟩ (.slice c (nl (y.natAbs-x.natAbs)) d)=W6 at *;exact aK (v:= .agg #[.bool (decide (x+y<0)),.slice c (nl (y.natAbs-x.natAbs)) d]) (by simp[results,Tryz.results114,go_sem,z0,z1]) rfl ⟨_,rfl,⟨_,rfl,by rw[T];exact Y⟩,R⟩
theorem vS (x y:Int):x*y=if (!(decide (x<0)==decide (y<0))) then -((x.natAbs*y.natAbs:Nat):Int) else ((x.natAbs*y.natAbs:Nat):Int):=by
 have h:=Int.natAbs_mul x y;rw[<-h];by_cases a:x<0<;>by_cases b:y<0
 ·have:=Int.mul_nonneg_of_nonpos_of_nonpos (Int.le_of_lt a) (Int.le_of_lt b);simp[a,b];omega
 ·have:=Int.mul_nonpos_of_nonpos_of_nonneg (Int.le_of_lt a) (Int.not_lt.1 b);simp[a,b];omega
 ·have:=Int.mul_nonpos_of_nonneg_of_nonpos (Int.not_lt.1 a) (Int.le_of_lt b);simp[a,b];omega
 ·have:=Int.mul_nonneg (Int.not_lt.1 a) (Int.not_lt.1 b);simp[a,b];omega
theorem iN (x y:Int) (I J:Value) (w:World) (T:IntAt w I x) (U:IntAt w J y) (hl:nl x.natAbs+nl y.natAbs<=17592186044416):
  Calls Tryz.prog 110 #[I,J] w (dB w (x*y)):=by
 obtain⟨m,rfl,G⟩:=T;obtain⟨n,rfl,H⟩:=U;obtain⟨h,i,j,k,V,Y,B,F,l⟩:=vT w (.bool (decide (x<0))) m (.bool (decide (y<0))) n 59;have E:=vS x y;have D:=Int.natAbs_mul x y;have ae:=dJ x.natAbs y.natAbs;have Q:=G.below l;have R:=H.below l;have L:=aB E;have K:=aB D;generalize decide (x<0)=t at *;generalize decide (y<0)=u at *;have r:=aB F;clear E F D;go_enter Tryz.func110,Tryz.ntmps110;go_wp2_with fail;generalize ((w.alloc (.cells #[.bool t,m] 59)).alloc (.cells #[.bool u,n] 59)).alloc (.cells #[.bool false,.slice none 0 0] 59)=W at *;have e:w.heap.size<W.drew.heap.size:=by have:=r.out;show w.heap.size<W.heap.size;omega
 have f:w.heap.size+1<W.drew.heap.size:=by have:=r.out;show w.heap.size+1<W.heap.size;omega
 have g:w.heap.size+1+1<W.drew.heap.size:=by have:=r.out;show w.heap.size+1+1<W.heap.size;omega
 go_region_held3 (fun o=>o.cell? ⟨w.heap.size,0,none⟩=some (.bool t)∧o.cell? ⟨w.heap.size+1,0,none⟩=some (.bool u)∧o.cell? ⟨w.heap.size,1,none⟩=some (m)∧o.cell? ⟨w.heap.size+1,1,none⟩=some (n))
  (first|(exact⟨h,j,i,k⟩)
        |(exact⟨(d.cell (p:=⟨w.heap.size,0,none⟩) e).trans h,(d.cell (p:=⟨w.heap.size+1,0,none⟩) f).trans j,(d.cell (p:=⟨w.heap.size,1,none⟩) e).trans i,(d.cell (p:=⟨w.heap.size+1,1,none⟩) f).trans k⟩)
        |(exact⟨(a.cell (p:=⟨w.heap.size,0,none⟩) e).trans h,(a.cell (p:=⟨w.heap.size+1,0,none⟩) f).trans j,(a.cell (p:=⟨w.heap.size,1,none⟩) e).trans i,(a.cell (p:=⟨w.heap.size+1,1,none⟩) f).trans k⟩)
        |(exact⟨(aT _ _ _ _ _ _ (show w.heap.size+1+1≠w.heap.size by omega)).trans ((aT _ _ _ _ _ _ (show w.heap.size+1+1≠w.heap.size by omega)).trans ((a.cell (p:=⟨w.heap.size,0,none⟩) e).trans h)),(aT _ _ _ _ _ _ (show w.heap.size+1+1≠w.heap.size+1 by omega)).trans ((aT _ _ _ _ _ _ (show w.heap.size+1+1≠w.heap.size+1 by omega)).trans ((a.cell (p:=⟨w.heap.size+1,0,none⟩) f).trans j)),(aT _ _ _ _ _ _ (show w.heap.size+1+1≠w.heap.size by omega)).trans ((aT _ _ _ _ _ _ (show w.heap.size+1+1≠w.heap.size by omega)).trans ((a.cell (p:=⟨w.heap.size,1,none⟩) e).trans i)),(aT _ _ _ _ _ _ (show w.heap.size+1+1≠w.heap.size+1 by omega)).trans ((aT _ _ _ _ _ _ (show w.heap.size+1+1≠w.heap.size+1 by omega)).trans ((a.cell (p:=⟨w.heap.size+1,1,none⟩) f).trans k))⟩))
  (first
   |(go_at_call 168;(with_reducible refine(nV _ _ m n _ Q.drew R.drew (by unfold aI;omega)).mono ?_);rintro e4 w4 ⟨v4,rfl,s,O,d⟩;obtain⟨b,c,rfl,ad,ag,af⟩:=id s)
   |(go_at_call 119;(with_reducible refine(mO (!(t==u)) _ _ (x*y) _ s (by omega) L.out).mono ?_);rintro e5 z ⟨rfl,A⟩;have a:=aC d A;have X:=(a.cell (p:=⟨w.heap.size+1+1,0,none⟩) g).trans V;have Z:=(a.cell (p:=⟨w.heap.size+1+1,1,none⟩) g).trans Y;have ab:=(a.frozen (p:=⟨w.heap.size+1+1,0,none⟩) g).trans (B 0);have ac:=(a.frozen (p:=⟨w.heap.size+1+1,1,none⟩) g).trans (B 1)))
 go_wp2_with fail;have P:=mP (p:= .bool (decide (x*y<0))) (q:= .slice b (nl (x.natAbs*y.natAbs)) c) X Z;have M:Below w.heap.size w z:=l.drew.trans (a.mono l.size);have N:=(M.setCell (p:=⟨w.heap.size+1+1,0,none⟩) (by simp;omega) (.bool (decide (x*y<0)))).setCell (p:=⟨w.heap.size+1+1,1,none⟩) (by simp;omega) (.slice b (nl (x.natAbs*y.natAbs)) c);obtain⟨z0,z1⟩:=P;have S:NatAt ((z.setCell ⟨w.heap.size+1+1,0,none⟩ (.bool (decide (x*y<0)))).setCell ⟨w.heap.size+1+1,1,none⟩ (.slice b (nl (x.natAbs*y.natAbs)) c)) (.slice b (nl (x.natAbs*y.natAbs)) c) (x.natAbs*y.natAbs):=by
  have C:=O.ne2 g (G.ne (by omega)) (H.ne (by omega));exact((s.below A).set _ C).set _ C
 generalize (z.setCell ⟨w.heap.size+1+1,0,none⟩ (.bool (decide (x*y<0)))).setCell ⟨w.heap.size+1+1,1,none⟩ (.slice b (nl (x.natAbs*y.natAbs)) c)=W6 at *;exact aK (v:= .agg #[.bool (decide (x*y<0)),.slice b (nl (x.natAbs*y.natAbs)) c]) (by simp[results,Tryz.results110,go_sem,z0,z1]) rfl ⟨_,rfl,⟨_,rfl,by rw[K.out];exact S⟩,N⟩
theorem K7 (w:World) (a b:Value) (t:TypeId):let W:=(w.alloc (.cells #[a,b] t)).alloc (.cells #[.bool false,.slice none 0 0] t)
  W.cell? ⟨w.heap.size,0,none⟩=some a∧W.cell? ⟨w.heap.size,1,none⟩=some b∧
  W.cell? ⟨w.heap.size+1,0,none⟩=some (.bool false)∧W.cell? ⟨w.heap.size+1,1,none⟩=some (.slice none 0 0)∧(∀j,W.frozen? ⟨w.heap.size+1,j,none⟩=false)∧W.heap.size=w.heap.size+2∧Below w.heap.size w W:=by
 refine⟨by simp[go_sem],by simp[go_sem],by simp[go_sem],by simp[go_sem],fun j=>by simp[go_sem],by simp,?_⟩;exact((aH _ _).alloc aE _).alloc (by simp) _
theorem oO (x:Int) (s:Value) (w:World) (E:IntAt w s x) (T:nl x.natAbs<=17592186044416):
  Calls Tryz.prog 56 #[s] w (dB w (-x)):=by
 obtain⟨J,rfl,g⟩:=E;obtain⟨N,O,F,H,l,o,f⟩:=K7 w (.bool (decide (x<0))) J 59;have n: -x=if (!(decide (x<0))) then -((x.natAbs:Nat):Int) else ((x.natAbs:Nat):Int):=by
  by_cases h:x<0<;>simp[h]<;>omega
 have m:(-x).natAbs=x.natAbs:=Int.natAbs_neg x;have C:=g.below f;have y:=aB n;have u:=aB m;have z:=aB o;obtain⟨a,i⟩:∃a,Hid (decide (-x<0)=a):=⟨_,rfl⟩;generalize decide (x<0)=r at *;obtain⟨b,c,rfl,S,V,U⟩:=id g;clear n m o;go_enter Tryz.func56,Tryz.ntmps56;go_wp2_with fail;generalize (w.alloc (.cells #[.bool r,.slice b (nl x.natAbs) c] 59)).alloc (.cells #[.bool false,.slice none 0 0] 59)=W at *;refine(mO (!r) _ _ (-x) _ C (by omega) y.out).mono ?_;rintro P t ⟨k,d⟩;rw[i.out] at k;subst k;have e:w.heap.size+1<W.heap.size:=by have:=z.out;omega
 have G:=(d.cell (p:=⟨w.heap.size+1,0,none⟩) e).trans F;have I:=(d.cell (p:=⟨w.heap.size+1,1,none⟩) e).trans H;have Q:=(d.frozen (p:=⟨w.heap.size+1,0,none⟩) e).trans (l 0);have R:=(d.frozen (p:=⟨w.heap.size+1,1,none⟩) e).trans (l 1);go_wp2_with fail;have B:=mP (p:= .bool a) (q:= .slice b (nl x.natAbs) c) G I;have A:Below w.heap.size w t:=aC f d;have j:=(A.setCell (p:=⟨w.heap.size+1,0,none⟩) (by simp) (.bool a)).setCell (p:=⟨w.heap.size+1,1,none⟩) (by simp) (.slice b (nl x.natAbs) c);obtain⟨K,L⟩:=B;have D:=g.below j;generalize (t.setCell ⟨w.heap.size+1,0,none⟩ (.bool a)).setCell ⟨w.heap.size+1,1,none⟩ (.slice b (nl x.natAbs) c)=M at *;exact aK (v:= .agg #[.bool a,.slice b (nl x.natAbs) c]) (by simp[results,Tryz.results56,go_sem,K,L]) rfl ⟨_,rfl,⟨_,by rw[i.out],by rw[u.out];exact D⟩,j⟩
theorem pW (x y:Int) (r s:Value) (w:World) (A:Glob w) (M:IntAt w r x) (N:IntAt w s y) (K:Nat) (z:nl x.natAbs<=K) (u:nl y.natAbs<=K) (C:5*K+4<=aI):
  Calls Tryz.prog 137 #[r,s] w (dB w ((Nat.gcd x.natAbs y.natAbs:Nat):Int)):=by
 obtain⟨n,rfl,k⟩:=M;obtain⟨o,rfl,l⟩:=N;obtain⟨Y,Z,d0,d1,O,Q,h,j,c⟩:=vT w (.bool (decide (x<0))) n (.bool (decide (y<0))) o 59;have I:=k.below c;have J:=l.below c;have B:=A.below c;have t:=aB j;generalize decide (x<0)=S at *;generalize decide (y<0)=T at *;clear j;go_enter Tryz.func137,Tryz.ntmps137;go_wp2_with fail;generalize ((w.alloc (.cells #[.bool S,n] 59)).alloc (.cells #[.bool T,o] 59)).alloc (.cells #[.bool false,.slice none 0 0] 59)=W at *;refine(BR _ _ K _ _ _ B I J z u C).mono ?_;rintro e4 g ⟨v4,rfl,m,G,e⟩;obtain⟨a,b,rfl,ad,af,ae⟩:=id m;have f:w.heap.size+1+1<W.heap.size:=by have:=t.out;omega
 have P:=(e.cell (p:=⟨w.heap.size+1+1,0,none⟩) f).trans O;have R:=(e.cell (p:=⟨w.heap.size+1+1,1,none⟩) f).trans Q;have ab:=(e.frozen (p:=⟨w.heap.size+1+1,0,none⟩) f).trans (h 0);have ac:=(e.frozen (p:=⟨w.heap.size+1+1,1,none⟩) f).trans (h 1);generalize Nat.gcd x.natAbs y.natAbs=d at *;go_wp2_with fail;have H:=mP (p:= .bool false) (q:= .slice a (nl d) b) P R;have D:Below w.heap.size w g:=aC c e;have E:=(D.setCell (p:=⟨w.heap.size+1+1,0,none⟩) (by simp;omega) (.bool false)).setCell (p:=⟨w.heap.size+1+1,1,none⟩) (by simp;omega) (.slice a (nl d) b);obtain⟨U,V⟩:=H;have i:=G.ne2 f (k.ne (by omega)) (l.ne (by omega));have L:NatAt ((g.setCell ⟨w.heap.size+1+1,0,none⟩ (.bool false)).setCell ⟨w.heap.size+1+1,1,none⟩ (.slice a (nl d) b)) (.slice a (nl d) b) d:=(m.set _ i).set _ i;generalize (g.setCell ⟨w.heap.size+1+1,0,none⟩ (.bool false)).setCell ⟨w.heap.size+1+1,1,none⟩ (.slice a (nl d) b)=X at *;have F:decide ((d:Int)<0)=false:=by simp
 exact aK (v:= .agg #[.bool false,.slice a (nl d) b]) (by simp[results,Tryz.results137,go_sem,U,V]) rfl ⟨_,rfl,⟨_,by rw[F],L⟩,E⟩
theorem pZ (x:Int) (g:Value) (w:World) (h:IntAt w g x) (l:nl x.natAbs<=17592186044416):
  Calls Tryz.prog 98 #[g] w fun e w'=>e= .returned (.int .i64 x.sign)∧Below w.heap.size w w':=by
 obtain⟨p,rfl,A,c,rfl,k,n,m⟩:=h;by_cases b:x=0
 ·have i:((nl x.natAbs:Int)==0)=true:=by rw[b,show(0:Int).natAbs=0 from rfl,dC];rfl
  have a:x.sign=0:=by rw[b];rfl
  rw[a];clear a b;generalize decide (x<0)=o at *;go_enter Tryz.func98,Tryz.ntmps98;go_wp2;go_ret;exact⟨rfl,(aH _ _).alloc aE _⟩
 ·have j:=fI (show x.natAbs≠0 by omega);have i:((nl x.natAbs:Int)==0)=false:=by simp;omega
  by_cases f:x<0
  ·have a:x.sign= -1:=Int.sign_eq_neg_one_of_neg f;have d:decide (x<0)=true:=by simpa using f
   rw[a,d];clear a b f d;go_enter Tryz.func98,Tryz.ntmps98;go_wp2;go_ret;exact⟨rfl,(aH _ _).alloc aE _⟩
  ·have a:x.sign=1:=Int.sign_eq_one_of_pos (by omega);have d:decide (x<0)=false:=by simpa using f
   rw[a,d];clear a b f d;go_enter Tryz.func98,Tryz.ntmps98;go_wp2;go_ret;exact⟨rfl,(aH _ _).alloc aE _⟩
theorem l7 (x:Int) (o:Value) (w:World) (s:IntAt w o x) (y:nl x.natAbs<=17592186044416):
  Calls Tryz.prog 113 #[o] w fun e w'=>e= .returned (.bool (decide (x=1)))∧Below w.heap.size w w':=by
 obtain⟨C,rfl,A,c,rfl,u,r,z⟩:=s;by_cases g:x<0
 ·have d:decide (x<0)=true:=by simpa using g
  have f:decide (x=1)=false:=by simp;omega
  rw[d,f];clear d f g;go_enter Tryz.func113,Tryz.ntmps113;go_wp2;go_ret;exact⟨rfl,(aH _ _).alloc aE _⟩
 ·have d:decide (x<0)=false:=by simpa using g
  rw[d];clear d;by_cases a:nl x.natAbs=1
  ·have t:((nl x.natAbs:Int)==1)=true:=by simp;omega
   have m:x.natAbs≠0:=by intro h;rw[h,dC] at a;omega
   have n:x.natAbs<BN:=by have:=cJ x.natAbs;rw[a,Nat.pow_one] at this;exact this
   obtain⟨b,j,rfl,q,k⟩:=r.at_ (by rw[aJ];omega);have i:=k 0 (by rw[aJ];omega);rw[mR m n] at i;simp only[Nat.add_zero,List.getD_cons_zero] at i;have B:(0:Int)<(nl x.natAbs:Int):=by omega
   have v:(w.alloc (.cells #[.bool false,.slice (some ⟨b,j,none⟩) (nl x.natAbs) c] 59)).cell? ⟨b,j,none⟩=some (.int .u64 (x.natAbs:Int)):=(((aH _ _).alloc aE _).cell (p:=⟨b,j,none⟩) q).trans i;have l:decide (x=1)=((x.natAbs:Int)==1):=by rw[Bool.eq_iff_iff];simp;omega
   rw[l];clear k g m n a l;generalize (x.natAbs:Int)=D at *;go_enter Tryz.func113,Tryz.ntmps113;go_wp2;go_ret;exact⟨rfl,(aH _ _).alloc aE _⟩
  ·have t:((nl x.natAbs:Int)==1)=false:=by simp;omega
   have f:decide (x=1)=false:=by
    simp;intro h;apply a;rw[h];exact jL (by decide) (by decide)
   rw[f];clear f a g;go_enter Tryz.func113,Tryz.ntmps113;go_wp2;go_ret;exact⟨rfl,(aH _ _).alloc aE _⟩
theorem iM (n:Int) (w:World) (Q: -9223372036854775808<=n) (R:n<=9223372036854775807):
  Calls Tryz.prog 69 #[.int .i64 n] w (dB w n):=by
 have o:(w.alloc (.cells #[.bool false,.slice none 0 0] 59)).cell? ⟨w.heap.size,0,none⟩=some (.bool false):=by simp[go_sem]
 have r:(w.alloc (.cells #[.bool false,.slice none 0 0] 59)).cell? ⟨w.heap.size,1,none⟩=some (.slice none 0 0):=by simp[go_sem]
 have f:∀j,(w.alloc (.cells #[.bool false,.slice none 0 0] 59)).frozen? ⟨w.heap.size,j,none⟩=false:=fun j=>by simp[go_sem]
 have d:w.heap.size<(w.alloc (.cells #[.bool false,.slice none 0 0] 59)).heap.size:=by simp
 have l:Below w.heap.size w (w.alloc (.cells #[.bool false,.slice none 0 0] 59)):=(aH _ _).alloc aE _;obtain⟨m,k,H⟩:∃m,Hid (n.natAbs=m)∧m<BN:=⟨_,rfl,by unfold BN;omega⟩;by_cases hn:n<0
 ·have C:IntKind.u64.wrap (-IntKind.u64.wrap n)=(m:Int):=by
   have:=k.out;rw[IntKind.wrap_u64,IntKind.wrap_u64];omega
  have g:decide (n<0)=true:=by simpa using hn
  have s:=aB g;clear g;go_enter Tryz.func69,Tryz.ntmps69;go_wp2_with fail;refine(qF m H _).mono ?_;rintro J e ⟨P,rfl,i,y,c⟩;obtain⟨a,b,rfl,M,O,N⟩:=id i;have D:=(c.cell (p:=⟨w.heap.size,0,none⟩) d).trans o;have E:=(c.cell (p:=⟨w.heap.size,1,none⟩) d).trans r;have K:=(c.frozen (p:=⟨w.heap.size,0,none⟩) d).trans (f 0);have L:=(c.frozen (p:=⟨w.heap.size,1,none⟩) d).trans (f 1);have h:(Value.slice a (nl m) b).ownBlock≠some w.heap.size:=y.ne d (fun u A=>by cases A);have t:Below w.heap.size w e:=aC l c;clear o r f C;go_wp2_with fail;have z:=mP (p:= .bool true) (q:= .slice a (nl m) b) D E;have x:=(t.setCell (p:=⟨w.heap.size,0,none⟩) (by simp) (.bool true)).setCell (p:=⟨w.heap.size,1,none⟩) (by simp) (.slice a (nl m) b);obtain⟨F,G⟩:=z;have B:NatAt ((e.setCell ⟨w.heap.size,0,none⟩ (.bool true)).setCell ⟨w.heap.size,1,none⟩ (.slice a (nl m) b)) (.slice a (nl m) b) m:=(i.set _ h).set _ h;generalize (e.setCell ⟨w.heap.size,0,none⟩ (.bool true)).setCell ⟨w.heap.size,1,none⟩ (.slice a (nl m) b)=I at *;exact aK (v:= .agg #[.bool true,.slice a (nl m) b]) (by simp[results,Tryz.results69,go_sem,F,G]) rfl ⟨_,rfl,⟨_,by rw[s.out],by rw[k.out];exact B⟩,x⟩
 ·have C:IntKind.u64.wrap n=(m:Int):=by
   have:=k.out;rw[IntKind.wrap_u64];omega
  have g:decide (n<0)=false:=by simpa using hn
  have s:=aB g;clear g;go_enter Tryz.func69,Tryz.ntmps69;go_wp2_with fail;refine(qF m H _).mono ?_;rintro J e ⟨P,rfl,i,y,c⟩;obtain⟨a,b,rfl,M,O,N⟩:=id i;have D:=(c.cell (p:=⟨w.heap.size,0,none⟩) d).trans o;have E:=(c.cell (p:=⟨w.heap.size,1,none⟩) d).trans r;have K:=(c.frozen (p:=⟨w.heap.size,0,none⟩) d).trans (f 0);have L:=(c.frozen (p:=⟨w.heap.size,1,none⟩) d).trans (f 1);have h:(Value.slice a (nl m) b).ownBlock≠some w.heap.size:=y.ne d (fun u A=>by cases A);have t:Below w.heap.size w e:=aC l c;clear o r f C;go_wp2_with fail;have z:=mP (p:= .bool false) (q:= .slice a (nl m) b) D E;have x:=(t.setCell (p:=⟨w.heap.size,0,none⟩) (by simp) (.bool false)).setCell (p:=⟨w.heap.size,1,none⟩) (by simp) (.slice a (nl m) b);obtain⟨F,G⟩:=z;have B:NatAt ((e.setCell ⟨w.heap.size,0,none⟩ (.bool false)).setCell ⟨w.heap.size,1,none⟩ (.slice a (nl m) b)) (.slice a (nl m) b) m:=(i.set _ h).set _ h;generalize (e.setCell ⟨w.heap.size,0,none⟩ (.bool false)).setCell ⟨w.heap.size,1,none⟩ (.slice a (nl m) b)=I at *;exact aK (v:= .agg #[.bool false,.slice a (nl m) b]) (by simp[results,Tryz.results69,go_sem,F,G]) rfl ⟨_,rfl,⟨_,by rw[s.out],by rw[k.out];exact B⟩,x⟩
theorem BM (x y:Nat) (q r:Value) (w:World) (F:NatAt w q x) (G:NatAt w r y) (L:nl x<=17592186044415) (C:y<=x):
  Calls Tryz.prog 173 #[q,r] w (gS w [] (x-y)):=by
 obtain⟨A,c,rfl,N,E,P⟩:=F;obtain⟨B,d,rfl,O,m,Q⟩:=G;have D:=bX C;go_enter Tryz.func173,Tryz.ntmps173
 go_wp2_with (first
  |(at_make;refine iE rfl rfl .u64 181 8 Tryz.underlying57 fO (nl x) rfl rfl rfl rfl (by omega) (by omega) ?_;intro S I n v i)
  |(with_reducible refine jM rfl rfl .u64 181 Tryz.underlying57 j9 rfl rfl w.heap.size 0 (List.replicate (nl x) 0) (dg x) (by simp) rfl (fun _=>rfl) v n (E.below i) ?_;intro s z a))
 rw[cN] at a;have j:Below w.heap.size w s:=a.belowOf i aE;refine(CB w.heap.size 0 (nl x) _ (nl x) B (nl y) (dg y) d s (by rw[j5];simp) rfl z (a.soft n) aE (by omega) (m.below j) ?hn D (qE (InR.replicate aP _) (bV x)) (bV y) ?hv).mono ?_
 case hn=>
  rintro b o rfl h;obtain⟨K,R,e,M,_⟩:=m.at_ h;injection e with e;injection e;omega
 case hv=>rw[jP _ _ (by rw[aJ];exact aE),cB,cB];omega
 rintro e t ⟨rfl,J,p,H,hv,k,l⟩;rw[jP _ _ (by rw[aJ];exact aE),cB,cB] at hv;have u:=aB hv;have g:=aB p;clear hv p;have f:w.heap.size<t.heap.size:=aU I (aG a.grown.size l.grown.size);go_wp2_with fail;refine(eM _ J (nl x) (nl x) t g.out (Rd.mk f k) aE (by omega)).mono ?_;rintro e T ⟨rfl,rfl⟩;go_wp2;go_ret;exact⟨_,rfl,NatAt.trim (Rd.mk f k) H (by rw[u.out];omega) (by rw[g.out];exact aE) (Old.mk f),From.new aE,l.belowOf j aE⟩
theorem DI {zs:List Int} {k:Nat} {c s c' T:Int} (d:k<zs.length) (f:Split (zs.getD k 0+c) s c') (h:aF aA zs+c*aA^k=T):aF aA (zs.set k s)+c'*aA^(k+1)=T:=by
 have e:=f.1;rw[lG _ _ _ _ d,<-h,Int.pow_succ];generalize zs.getD k 0=z at *;generalize aA^k=p at *;generalize aF aA zs=v at *;generalize aA=b at *;have a:s=z+c-b*c':=by omega
 rw[a];grind
theorem OwnN.more {w w':World} {B:Nat} {v b:Value} {zs l:List Int} {o:Obj} (j:w'.ownsRow B 181 1 b (zs.length+l.length) (zs.map (Value.int .u64)++l.map (Value.int .u64))) (a:(w.alloc o).grownBy w' v.ownBlock) (c:b.ownBlock=v.ownBlock∨b.ownBlock=some (w.alloc o).heap.size):
  OwnN w' B b (zs++l)∧TxtTo w v w' b:=by
 refine⟨by unfold OwnN;rw[List.map_append,aY];exact j,⟨a.os,a.tape,a.output,aG (by simp) a.size,fun i d f=>(a.block i (by simp;omega) f).trans (Below.heap_alloc w o i d)⟩,fun g e=> ?_⟩;rcases c with h|h
 ·left;rw[<-h];exact e
 ·right;rw[h] at e;simp at e;omega
theorem NR {us:List Int} {c T:Int} {n L:Nat} (d:InR aA us) (b:1<=c) (hn:us.length=n) (h:aF aA us+c*aA^n=T) (i:T<aA^L):n<L:=by
 rcases Nat.lt_or_ge n L with a|a
 ·exact a
 ·exfalso;have e:=eQ aP d;have f:aA^L<=aA^n:=sL (by decide) a;have g:1*aA^n<=c*aA^n:=dG b (Int.le_of_lt (lF aP n));omega
def DJ (e:World) (d:Value) (x y L:Nat) (a b:Value) (c:World):Prop:=∃X Y,NatAt c a X∧NatAt c b Y∧Hid (X*Y=x*y)∧X≠0∧Y≠0∧nl X+nl Y<=L∧Apart d a∧Apart d b∧Below e.heap.size e c
theorem DK (B:Nat) (p:Value) (zs:List Int) (x y L:Nat) (vx vy:Value) (w:World) (hB:B<=w.heap.size) (ht:OwnN w B p zs) (hz:InR aA zs) (hx:NatAt w vx x) (hy:NatAt w vy y) (ax:x≠0) (ay:y≠0)
  (aj:Apart p vx) (ak:Apart p vy) (db:zs.length<=L) (da:nl x+nl y+1<=L) (hL:L+2<=aI) (b2:aF aA zs+(x*y:Nat)<aA^L):
  Calls Tryz.prog 171 #[p,vx,vy] w fun e w'=>∃v d,e= .returned v∧OwnN w' B v d∧InR aA d∧aF aA d=aF aA zs+(x*y:Nat)∧d.length<=L∧TxtTo w p w' v:=by
 unfold aI at hL;have cb:=aB b2;have J:=ht.lt;clear b2;obtain⟨Ax,cx,ac,_,_,_⟩:=id hx;obtain⟨Ay,cy,A,_,_,_⟩:=id hy;subst ac A;go_enter Tryz.func171,Tryz.ntmps171;go_upto_if 15 with fail;go_cut [1,2] (fun a b M=>DJ w p x y (L-1) a b M)
 case first=>
  by_cases bh:nl x<nl y
  ·go_wp2_with fail;go_meet;exact⟨y,x,hy,hx,dD _ _,ay,ax,by omega,ak,aj,aH _ _⟩
  ·go_wp2_with fail;go_meet;exact⟨x,y,hx,hy,rfl,ax,ay,by omega,aj,ak,aH _ _⟩
 case rest=>
  obtain⟨X,Y,u,F,E,S,ae,hl,G,U,t⟩:=hcut;clear hx hy aj ak ax ay;obtain⟨Bx,dx,ac,_,_,_⟩:=id u;obtain⟨By,dy,A,_,_,_⟩:=id F;subst ac A;go_upto_if 20 with fail;go_cut [1,2] (fun a b M=>DJ w p x y L a b M)
  case first=>
   by_cases c8:40<=nl Y
   ·have ce:(40:Int)<=(nl Y:Int):=by omega
    go_wp2_with fail;refine(nV X Y _ _ _ u F (by unfold aI;omega)).mono ?_;rintro e w2 ⟨v2,rfl,ah,cl,ch⟩;have al:=aC t ch;have r:=dJ X Y;have R:nl 1=1:=jL (by decide) (by decide);have H1:=aB R;clear R;go_wp2_with fail;go_meet;refine⟨X*Y,1,ah.below (lZ _ _),sY w2 1 (by decide) (by decide) 181,by unfold Hid;rw[Nat.mul_one];exact E.out,Nat.mul_ne_zero S ae,by decide,by rw[H1.out];omega,?_,?_,al.trans ((lZ w2 _).mono al.size)⟩
    ·exact fun g W=>cl.ne2 (aU (J g W).2 t.size) (G g W) (U g W)
    ·intro g W e;have k1:=(J g W).2;have k2:=al.size;simp[Value.ownBlock] at e;omega
   ·have ce:¬(40:Int)<=(nl Y:Int):=by omega
    go_wp2_with fail;go_meet;exact⟨X,Y,u,F,E,S,ae,by omega,G,U,t⟩
  case rest=>
   clear u F E S ae hl G U t;obtain⟨X,Y,u,F,E,S,ae,hl,G,U,t⟩:=hcut;obtain⟨Ax,cx,ac,dl,cs,dv⟩:=id u;obtain⟨Ay,cy,A,dm,ct,dw⟩:=id F;subst ac A;have cw:=ht.below t;have a4:B<=wc.heap.size:=aG hB t.size;have c0:TxtTo w p wc p:=TxtTo.below t;go_wp2_with fail;go_loopg [0] (max zs.length (nl X+nl Y)-zs.length) (fun k q wr=>∃j,Hid (zs.length+j+k=max zs.length (nl X+nl Y))∧OwnN wr B q (zs++List.replicate j 0)∧TxtTo wc p wr q)
   case atStart=>exact⟨0,by unfold Hid;omega,by simpa using cw,TxtTo.refl _ _⟩
   case round=>
    obtain⟨j,N,z,f⟩:=hrel;have ap:(zs++List.replicate j (0:Int)).length=zs.length+j:=by rw[aY,cN]
    obtain⟨Aq,cq,bp⟩:=z.slice;rw[ap] at bp;subst bp;have a5:B<=wr.heap.size:=aG a4 f.1.size;have ad:=aB ap;clear ap;cases gk with
    |succ k=>
     have bh:(zs.length:Int)+j<(nl X:Int)+nl Y:=by have:=N.out;omega
     have cp:wr.ownsRow B 181 1 (.slice Aq (zs.length+j) cq) (zs.length+j) ((zs++List.replicate j (0:Int)).map (Value.int .u64)):=by
      have:=z;unfold OwnN at this;rw[ad.out] at this;exact this
     go_wp2_with (at_builtin;refine fE rfl rfl 181 _ 1 8 Tryz.underlying57 fO rfl (by decide) B (.slice Aq (zs.length+j) cq) (zs.length+j) _ rfl (cp.alloc _) [Value.int .u64 0] rfl (by simp) (j0 _ _ _) (by simp[Value.oneCell']) (by omega) (by omega) (by simp;omega) ?_;intro q1 w1 ar ao ai);have r:=OwnN.more (zs:=zs++List.replicate j 0) (l:=[0]) (by rw[ad.out];exact ar) ao ai;go_wp2_with fail;go_roundg k
     case measure=>omega
     case rel=>
      refine⟨j+1,by have:=N.out;unfold Hid;omega,?_,f.trans r.2⟩;rw[List.replicate_succ',<-List.append_assoc];exact r.1
    |zero=>
     have bh:¬(zs.length:Int)+j<(nl X:Int)+nl Y:=by have:=N.out;omega
     have bf:nl X+nl Y<=zs.length+j:=by omega
     have bg:zs.length+j<=L:=by have:=N.out;omega
     have b1:aF aA (zs++List.replicate j (0:Int))=aF aA zs:=by rw[iP,jN];simp
     have b3:InR aA (zs++List.replicate j (0:Int)):=hz.append (InR.replicate aP _);have b9:=aB b1;clear b1 N;have dc:=u;go_wp2_with fail;go_loopg [0,38] (nl Y) (fun k q i wr=>∃(m:Nat) (d:List Int),Hid (m+k=nl Y)∧i= .int .i64 m∧OwnN wr B q d∧InR aA d∧Hid (aF aA d=aF aA zs+X*aF aA ((dg Y).take m))∧nl X+nl Y<=d.length∧d.length<=L∧TxtTo wc p wr q)
     case atStart=>exact⟨0,_,by unfold Hid;omega,rfl,z,b3,by unfold Hid;rw[b9.out];simp,by rw[ad.out];exact bf,by rw[ad.out];exact bg,f⟩
     case round=>
      clear z f a5 bf bg b3;obtain⟨m,d,HM,rfl,z,hw,HV,dr,bc,f⟩:=hrel;have dt:=fI S;cases gk with
      |zero=>
       obtain rfl:m=nl Y:=by have:=HM.out;omega
       have hv:=HV.out;rw[cA (by rw[aJ];exact aE),cB] at hv;have ah:aF aA d=aF aA zs+((x*y:Nat):Int):=by rw[hv,<-E.out];push_cast;rfl
       have ca:=aB ah;clear hv ah;go_wp2_with fail;go_ret;exact⟨_,d,rfl,z,hw,ca.out,bc,c0.trans f⟩
      |succ k=>
       have r:m<nl Y:=by have:=HM.out;omega
       obtain⟨g,C,rfl,cm,df,ck,aw,am⟩:=z.at_ (by omega);have br:Rd .u64 wr Ay (dg Y):=ct.grown f.1 (.inr (fun b c2 e V=>U b V.symm (by rw[e];rfl)));have bq:Rd .u64 wr Ax (dg X):=cs.grown f.1 (.inr (fun b c2 e V=>G b V.symm (by rw[e];rfl)));have cg:=f.apart G (fun g e=>u.block e);obtain⟨c6,oy,rfl,de,a9⟩:=br.at_ (by rw[aJ];omega);have Q:=a9 m (by rw[aJ];exact r);have c1:=(bV Y).getD aP m;have bw:=gY aA (dg Y) m (by rw[aJ];exact r);generalize A:(dg Y).getD m 0=yv at *;have bu:((d.drop m).take (nl X)).length=nl X:=by rw[aZ,List.length_drop];omega
       have ba:Cells .u64 wr g m ((d.drop m).take (nl X)):=by have:=(am.drop m).take (nl X);rwa [aS] at this
       have b4:=aB bu;have b8:=aB bw;have c5:=aB A;have az:=aB am;have co:∀b o,Ax=some ⟨b,o,none⟩->0<nl X->b≠g:=fun b o e _ V=>cg g rfl (by rw[e,V];rfl);have i1:(0:Int)<=(m:Int):=by omega
       have i2:(m:Int)<=(m:Int)+(nl X:Int):=by omega
       have i3:(m:Int)+(nl X:Int)<=(C:Int):=by omega
       have i5:¬C=m:=by omega
       have i7:m<=C:=by omega
       have i8:m+nl X<=C:=by omega
       clear bu bw A a9 am;go_wp2_with fail;refine(CE g m ((d.drop m).take (nl X)) (C-m) Ax (dg X) cx (nl X) yv wr b4.out (aJ X) ba aw.soft (by omega) bq co ((hw.drop m).take _) (bV X) c1).mono ?_;rintro e w3 ⟨K,c,rfl,H,a8,J,cz,bz,bb,au⟩;have bk:=au.patch az.out J bb (by omega);have av:(patch d K m).length=d.length:=iG (by omega);have bn:=nQ hw cz m;have af:OwnN w3 B (.slice (some ⟨g,0,none⟩) (patch d K m).length C) (patch d K m):=OwnN.of (au.shape _ _ aw) bk cm (by omega) ck;rw[av] at af;have bv:TxtTo wc p w3 (.slice (some ⟨g,0,none⟩) d.length C):=f.trans ⟨au.grown,fun _ h=> .inl h⟩;obtain⟨T,HT⟩:∃T:Int,Hid (T=aF aA zs+X*aF aA ((dg Y).take (m+1))):=⟨_,rfl⟩;have bo:aF aA (patch d K m)+c*aA^(m+nl X)=T:=by
        rw[oS (by omega),J,HT.out,b8.out,HV.out,Int.pow_add];have e1:=bz;rw[cB] at e1;generalize aF aA ((d.drop m).take (nl X))=sg at *;generalize aF aA K=tt at *;generalize aF aA ((dg Y).take m)=yt at *;generalize aA^m=bm at *;generalize aA^nl X=bx at *;have e2:tt=sg+X*yv-c*bx:=by omega
        rw[e2];grind
       have a7:T<aA^L:=by
        have R:=cb.out;have h2:aF aA ((dg Y).take (m+1))<=Y:=by
         rw[nN];exact Int.ofNat_le.2 (Nat.mod_le _ _)
        have h3:(X:Int)*aF aA ((dg Y).take (m+1))<=X*Y:=eZ h2 (by omega);have h4:((x*y:Nat):Int)=X*Y:=by rw[<-E.out];push_cast;rfl
        rw[HT.out];omega
       have a1:=aB bo;have b7:=aB a7;have O:=aB av;clear bo a7 av bz bk bb az z aw ba Q bq br J HV f;generalize patch d K m=c3 at *;go_wp2_with fail;go_loopg [0,9,10] (d.length-(m+nl X)+(if c=0 then 0 else 1)) (fun k' q cc i M=>∃(n:Nat) (us:List Int) (c:Int),Hid (us.length-n+(if c=0 then 0 else 1)=k')∧i= .int .i64 n∧cc= .int .u64 c∧(0<=c∧c<aA)∧n<=us.length∧InR aA us∧Hid (aF aA us+c*aA^n=T)∧OwnN M B q us∧d.length<=us.length∧us.length<=L∧TxtTo wc p M q)
       case atStart=>exact⟨m+nl X,c3,c,by unfold Hid;rw[O.out],by go_num,rfl,⟨H,a8⟩,by rw[O.out];omega,bn,a1,by rw[<-O.out] at af⊢;exact af,by rw[O.out];exact aE,by rw[O.out];exact bc,bv⟩
       case round=>
        clear af bn bv a1 H a8;obtain⟨n,us,c,HK,rfl,rfl,I,du,ab,P,D,bi,bj,f⟩:=hrel;by_cases H:c=0
        ·subst H;have hv:=P.out;rw[Int.zero_mul,Int.add_zero] at hv;have cd:Hid (aF aA us=aF aA zs+X*aF aA ((dg Y).take (m+1))):=by unfold Hid;rw[hv];exact HT.out
         clear hv P;go_wp2_with fail;go_roundg k
         case measure=>omega
         case rel=>exact⟨m+1,us,by have:=HM.out;unfold Hid;omega,by go_num,D,ab,cd,by omega,bj,f⟩
        ·have dn:(c != 0)=true:=by simpa using H
         have ds:=bi;obtain⟨g',a3,rfl,dp,dh,dj,cu,an⟩:=D.at_ (by omega);have a6:us.length-n+1=us.length-n+(if c=0 then 0 else 1):=by rw[if_neg H]
         have a0:=aB a6;clear a6;by_cases aq:n<us.length
         ·have cn:((n:Int)==(us.length:Int))=false:=by simp;omega
          have Q:=an n aq;rw[aS] at Q;have f1:=cu.soft.free n;have ub:=ab.getD aP n;obtain⟨sm,c',Z⟩:=gE (us.getD n 0+c);have ag:=DI aq Z P.out;have ci:=Z.hi_bd (by omega) (m:=2) (by omega);have bt:=Z.2;generalize b0:us.getD n 0=uv at *;have b6:=aB ag;have b5:=aB Z;have c4:=aB b0;have a2:=aB D;clear ag Z b0 D an;go_wp2_with (simp only[oT uv c sm c' ub I b5.out]);go_roundg (us.length-(n+1)+(if c'=0 then 0 else 1))
          case measure=>
           have R:=HK.out;have h2:=a0.out;split<;>omega
          case rel=>
           refine⟨n+1,us.set n sm,c',by unfold Hid;rw[List.length_set],by go_num,rfl,⟨ci.1,?_⟩,by rw[List.length_set];omega,ab.set bt.1 bt.2 n,b6,a2.out.set aq sm,by rw[List.length_set];exact bi,by rw[List.length_set];exact bj,?_⟩
           ·have:(2:Int)<=aA:=by decide
            omega
           ·exact f.trans ⟨lE (w:=wr) ⟨g',n,none⟩ _,fun _ h=> .inl h⟩
         ·obtain rfl:n=us.length:=by omega
          have cn:((us.length:Int)==(us.length:Int))=true:=by simp
          have c9:us.length<L:=NR ab (by omega) rfl P.out b7.out;have a5:B<=wr.heap.size:=aG a4 f.1.size;have a2:=aB D;have cr:wr.ownsRow B 181 1 (.slice (some ⟨g',0,none⟩) us.length a3) us.length (us.map (Value.int .u64)):=D;have bs:Split (0+c) c 0:=⟨by omega,I.1,I.2⟩;have z0:(0:Int)<=0∧(0:Int)<aA:=⟨by decide,by decide⟩;clear D an
          go_wp2_with (first
           |(at_builtin;refine fE rfl rfl 181 _ 1 8 Tryz.underlying57 fO rfl (by decide) B (.slice (some ⟨g',0,none⟩) us.length a3) us.length _ rfl (cr.alloc _) [Value.int .u64 0] rfl (by simp) (j0 _ _ _) (by simp[Value.oneCell']) (by omega) (by omega) (by simp;omega) ?_;intro q1 w1 ar ao ai;have r:=OwnN.more (zs:=us) (l:=[0]) ar ao ai;obtain⟨Q,c7,rfl,dq,di,dk,cv,cj⟩:=r.1.at_ (by simp);have gg:=cj us.length (by simp);rw[aS] at gg;simp only[dF,dS aE,Nat.sub_self,List.getElem?_cons_zero,Option.getD_some] at gg;have ff:=cv.soft.free us.length;simp only[aY,List.length_singleton] at r⊢)
           |simp only[oT 0 c c 0 z0 I bs])
          go_roundg 0
          case measure=>
           have R:=HK.out;have h2:=a0.out;omega
          case rel=>
           have ag:=DI (zs:=us++[0]) (k:=us.length) (c:=c) (s:=c) (c':=0) (T:=T) (by simp) (by simpa [dS] using bs) (by have:=P.out;rw[iP,sK];simpa using this);refine⟨us.length+1,(us++[0]).set us.length c,0,by unfold Hid;simp,by go_num,rfl,⟨by decide,by decide⟩,by simp,(ab.append (InR.cons (by decide) (by decide) InR.nil)).set I.1 I.2 us.length,(by unfold Hid;exact ag),r.1.set (by simp) c,by simp;omega,by simp;omega,?_⟩;exact(f.trans r.2).trans ⟨lE (w:=w1) ⟨Q,us.length,none⟩ _,fun _ h=> .inl h⟩
