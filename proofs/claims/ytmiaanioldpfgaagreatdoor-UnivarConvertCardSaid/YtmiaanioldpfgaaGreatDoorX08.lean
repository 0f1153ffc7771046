/- Laws. -/
import Derived.Test.YtmiaanioldpfgaaGreatDoorX07
import Derived.Deep.RegionHeld3
import Derived.Lib.ConvBytes
import Derived.Deep.DeepCutAuto
set_option linter.all false
set_option maxHeartbeats 8000000
set_option maxRecDepth 99999
namespace Go.Proofs.YtmiaanioldpfgaaGreatDoor
open Go.RowKit Sos Tryz
variable{w w' w1:World}{B L M Z g j k n:Nat}{a b c e f i u v:Value}{zs:List Int}{A:Option Addr}{t:TypeId}{cs:List Value}{o:Obj}{p:Addr}{q:Rat}{T x:Int}{s:Bool}
def OwnN.slice(h:OwnN w B v zs):∃A c,v= .slice A zs.length c:=by
 rcases h.2 with ⟨rfl,e⟩|⟨g,a,b,rfl,_⟩
 ·exact⟨none,0,by rw[e]⟩
 ·exact⟨_,a,rfl⟩
def OwnN.parts{c:Nat}(h:OwnN w B (.slice A n c) zs)(d:0<zs.length):
  ∃g,A=some ⟨g,0,none⟩∧B<=g∧n<=c∧c<=maxLen∧Shape w g 143 c∧Cells .u64 w g 0 zs:=by
 obtain⟨g,l,e,f,o,i,j,k⟩:=h.at_ d;simp only[Value.slice.injEq] at e;obtain⟨a,m,b⟩:=e;subst b;exact⟨g,a,f,by omega,i,j,k⟩
def OwnN.set{c:Nat}(h:OwnN w B (.slice (some ⟨g,0,none⟩) n c) zs)(p:k<zs.length)(d:Int):OwnN (w.setCell ⟨g,k,none⟩ (.int .u64 d)) B (.slice (some ⟨g,0,none⟩) n c) (zs.set k d):=by
 obtain⟨r,q,e,i,j,l,m,o⟩:=h.at_ (by omega);simp only[Value.slice.injEq,Option.some.injEq,Addr.mk.injEq] at e;obtain⟨⟨a, -, -⟩,b,f⟩:=e;subst a f;have:=OwnN.of (m.set ⟨g,k,none⟩ (.int .u64 d)) (by have:=o.set p d;rw[bA] at this;exact this) i (by simpa using j) l;rw[eM,<-b] at this;exact this
def NatAt.grown{d:Option Nat}(h:NatAt w v n)(a:w.grownBy w' d)(i:∀g,d=some g->v.ownBlock≠some g):NatAt w' v n:=by
 obtain⟨A,c,rfl,f,k,j⟩:=h;refine⟨A,c,rfl,f,k.grown a (.inr ?_),j.mono a.size⟩;rintro b l rfl e;exact i b e.symm rfl
def NatAt.block(h:NatAt w v n)(e:v.ownBlock=some g):g<w.1.size:=by
 obtain⟨A,c,rfl,d,f,b⟩:=h;cases A with
 |none=>simp[Value.ownBlock] at e
 |some a=>have:=b a rfl;simp[Value.ownBlock] at e;omega
def F9(w:World)(u:Value)(t:TypeId):Src (w.alloc (.cells #[u] t)) (some ⟨w.1.size,0,none⟩) [u]:=by
 refine .inr ⟨_,_,rfl,fun i v hv=> ?_⟩;match i,hv with
 |0,hv=>simp at hv;subst hv;simp[go_sem]
def FG(w:World)(u:Value)(t:TypeId)(g:Nat)(a:w.1.size=g):Src (w.alloc (.cells #[u] t)) (some ⟨g,0,none⟩) [u]:=by subst a;exact F9 w u t
def TxtTo(w:World)(a:Value)(w':World)(v:Value):Prop:=w.grownBy w' a.ownBlock∧∀g,v.ownBlock=some g->a.ownBlock=some g∨w.1.size<=g
def Apart(a b:Value):Prop:=∀g,a.ownBlock=some g->b.ownBlock≠some g
def TxtTo.refl(w:World)(v:Value):TxtTo w v w v:=⟨World.grownBy.refl w _,fun _ h=> .inl h⟩
def TxtTo.trans{l:World}(h:TxtTo w a w1 b)(k:TxtTo w1 b l c):TxtTo w a l c:=by
 refine⟨⟨k.1.os.trans h.1.os,k.1.tape.trans h.1.tape,k.1.output.trans h.1.output,aH h.1.size k.1.size,fun i f j=> ?_⟩,fun g m=> ?_⟩
 ·refine(k.1.block i (aZ f h.1.size) (fun e=> ?_)).trans (h.1.block i f j);rcases h.2 i e.symm with d|d
  ·exact j d.symm
  ·omega
 ·rcases k.2 g m with d|d
  ·exact h.2 g d
  ·exact .inr (aH h.1.size d)
def TxtTo.be(b:Below w.1.size w w1):TxtTo w a w1 a:=⟨rL b _,fun _ h=> .inl h⟩
def TxtTo.belowB(h:TxtTo w a w' b)(d:B<=w.1.size)(c:∀g,a.ownBlock=some g->B<=g):Below B w w':=
 ⟨h.1.os,h.1.tape,h.1.output,h.1.size,fun k f=>h.1.block k (by omega) (fun e=>by have:=c k e.symm;omega)⟩
def NatAt.txt(h:NatAt w v n)(d:TxtTo w a w' b)(c:Apart a v):NatAt w' v n:=h.grown d.1 c
def TxtTo.apart(h:TxtTo w a w' b)(f:Apart a v)(hv:∀g,v.ownBlock=some g->g<w.1.size):Apart b v:=by
 intro g d e;rcases h.2 g d with c|c
 ·exact f g c e
 ·have:=hv g e;omega
def TxtTo.step{f:World}(h:TxtTo w a w1 b)(c:w1.grownBy f (some g))(k:w.1.size<=g):TxtTo w a f b:=
 ⟨⟨c.os.trans h.1.os,c.tape.trans h.1.tape,c.output.trans h.1.output,aH h.1.size c.size,fun i d j=>(c.block i (aZ d h.1.size) (fun e=>by injection e;omega)).trans (h.1.block i d j)⟩,h.2⟩
def Shape.grown{a:Option Nat}(h:Shape w g t n)(b:w.grownBy w' a)(c:a≠some g):Shape w' g t n:=h.ke (b.block g h.lt (fun e=>c e.symm))
def VC.grown{off:Nat}{a:Option Nat}(h:VC w g off cs)(b:w.grownBy w' a)(c:g<w.1.size)(d:a≠some g):VC w' g off cs:=h.ke (b.block g c (fun e=>d e.symm))
def OwnN.grown{b:Option Nat}(h:OwnN w B v zs)(c:w.grownBy w' b)(d:∀g,b=some g->v.ownBlock≠some g):OwnN w' B v zs:=by
 refine World.ownsRow.kept h c ?_;cases hv:v.ownBlock with
 |none=>exact .inl rfl
 |some a=>exact .inr (fun e=>d a e.symm hv)
def IntAt(w:World)(v:Value)(n:Int):Prop:=∃u,v= .agg #[.bool (decide (n<0)),u]∧NatAt w u n.natAbs
def dW(w:World)(n:Int)(e:Ending)(w':World):Prop:=∃v,e= .returned v∧IntAt w' v n∧Below w.1.size w w'
def IntAt.be{n:Int}(h:IntAt w v n)(a:Below w.1.size w w'):IntAt w' v n:=by
 obtain⟨u,hv,b⟩:=h;exact⟨u,hv,b.be a⟩
def p7(f:Bool)(u:Value)(m:Nat)(n:Int)(w:World)(h:NatAt w u m)(j:nl m<=17592186044416)(hn:n=if f then -(m:Int) else m):
  Calls prog 68 #[.bool f,u] w fun e w'=>e= .returned (.agg #[.bool (decide (n<0)),u])∧Below w.1.size w w':=by
 obtain⟨A,c,rfl,i,l,k⟩:=h;cases f with
 |false=>
  have a:decide (n<0)=false:=by simp at hn;simp;omega
  rw[a];clear a hn;go_enter func68,ntmps68;go_wp2;exact aM (v:= .agg #[.bool false,.slice A (nl m) c]) (by simp[results,results68,go_sem]) rfl ⟨rfl,(aG _ _).alloc aE _⟩
 |true=>
  by_cases b:m=0
  ·have a:decide (n<0)=false:=by subst b;simp at hn;simp;omega
   have d:¬0<nl m:=by rw[b,dO];omega
   have g:¬(0:Int)<(nl m:Int):=by omega
   rw[a];clear a hn b;go_enter func68,ntmps68;go_wp2;exact aM (v:= .agg #[.bool false,.slice A (nl m) c]) (by simp[results,results68,go_sem,d]) rfl ⟨rfl,(aG _ _).alloc aE _⟩
  ·have a:decide (n<0)=true:=by simp at hn;simp;omega
   have d:0<nl m:=gS b;have g:(0:Int)<(nl m:Int):=by omega
   rw[a];clear a hn b;go_enter func68,ntmps68;go_wp2;exact aM (v:= .agg #[.bool true,.slice A (nl m) c]) (by simp[results,results68,go_sem,d]) rfl ⟨rfl,(aG _ _).alloc aE _⟩
def g9(n:Int)(v:Value)(w:World)(hv:IntAt w v n)(h:nl n.natAbs<=17592186044416):
  Calls prog 61 #[v] w fun e w'=>e= .returned (.bool (decide (n=0)))∧Below w.1.size w w':=by
 obtain⟨u,rfl,A,c,rfl,g,j,i⟩:=hv;by_cases a:n=0
 ·have d:((nl n.natAbs:Int)==0)=true:=by rw[a,show(0:Int).natAbs=0 from rfl,dO];rfl
  have b:decide (n=0)=true:=by simpa using a
  rw[b];clear b a;go_enter func61,ntmps61;go_wp2;go_ret;exact⟨rfl,(aG _ _).alloc aE _⟩
 ·have f:=gS (show n.natAbs≠0 by omega);have d:((nl n.natAbs:Int)==0)=false:=by simp;omega
  have b:decide (n=0)=false:=by simpa using a
  rw[b];clear b a;go_enter func61,ntmps61;go_wp2;go_ret;exact⟨rfl,(aG _ _).alloc aE _⟩
def aL(w:World)(b o':Nat)(v:Value)(g o:Nat)(h:b≠g):(w.setCell ⟨b,o',none⟩ v).cell? ⟨g,o,none⟩=w.cell? ⟨g,o,none⟩:=
 World.cell?_of_block (a:=⟨g,o,none⟩) (Below.heap_setCell w ⟨b,o',none⟩ v g (fun e=>h e.symm))
def NatAt.set{b o:Nat}(h:NatAt w u n)(v:Value)(a:u.ownBlock≠some b):NatAt (w.setCell ⟨b,o,none⟩ v) u n:=
 h.grown (nV (w:=w) ⟨b,o,none⟩ v) (fun g e=>by injection e with e;subst e;exact a)
def NatAt.ne{b:Nat}(h:NatAt w u n)(a:w.1.size<=b):u.ownBlock≠some b:=fun e=>by
 have:=h.block e;omega
def p8{b:Nat}{p q:Value}(d:w.cell? ⟨b,0,none⟩=some a)(e:w.cell? ⟨b,1,none⟩=some c):
  ((w.setCell ⟨b,0,none⟩ p).setCell ⟨b,1,none⟩ q).cell? ⟨b,0,none⟩=some p∧((w.setCell ⟨b,0,none⟩ p).setCell ⟨b,1,none⟩ q).cell? ⟨b,1,none⟩=some q:=by
 constructor
 ·rw[World.cell?_setCell_other _ _ _ _ (by simp),World.cell?_setCell_same _ _ _ d]
 ·exact World.cell?_setCell_same _ _ _ ((World.cell?_setCell_other _ _ _ _ (by simp)).trans e)
def eqR(w:World)(a b c d:Value)(t:TypeId):let W:=((w.alloc (.cells #[a,b] t)).alloc (.cells #[c,d] t)).alloc (.cells #[.bool false,.slice none 0 0] t)
  W.cell? ⟨w.1.size,0,none⟩=some a∧W.cell? ⟨w.1.size,1,none⟩=some b∧W.cell? ⟨w.1.size+1,0,none⟩=some c∧W.cell? ⟨w.1.size+1,1,none⟩=some d∧
  W.cell? ⟨w.1.size+1+1,0,none⟩=some (.bool false)∧W.cell? ⟨w.1.size+1+1,1,none⟩=some (.slice none 0 0)∧(∀j,W.frozen? ⟨w.1.size+1+1,j,none⟩=false)∧W.1.size=w.1.size+3∧Below w.1.size w W:=by
 refine⟨by simp[go_sem],by simp[go_sem],by simp[go_sem],by simp[go_sem],by simp[go_sem],by simp[go_sem],fun j=>by simp[go_sem],by simp,?_⟩;exact(((aG _ _).alloc aE _).alloc (by simp) _).alloc (by simp;omega) _
def OO{y:Int}(h:decide (x<0)=decide (y<0)):x+y=if decide (x<0) then -((x.natAbs+y.natAbs:Nat):Int) else ((x.natAbs+y.natAbs:Nat):Int):=by
 by_cases a:x<0
 ·have b:y<0:=by simpa [a] using h
  simp[a];omega
 ·have b:¬y<0:=by simpa [a] using h
  simp[a];omega
def rJ(x y:Int)(vx vy:Value)(w:World)(hx:IntAt w vx x)(hy:IntAt w vy y)(bx:nl x.natAbs<=17592186044414)(bY:nl y.natAbs<=17592186044414):
  Calls prog 63 #[vx,vy] w (dW w (x+y)):=by
 obtain⟨z,rfl,V⟩:=hx;obtain⟨A,rfl,X⟩:=hy;obtain⟨s,k,I,l,L,M,E,ad,m⟩:=eqR w (.bool (decide (x<0))) z (.bool (decide (y<0))) A 77;by_cases P:decide (x<0)=decide (y<0)
 ·have aq:=OO P;have aw:(decide (x<0)==decide (y<0))=true:=by simpa using P
  have an:=rK x.natAbs y.natAbs;have F:=V.be m;have G:=X.be m;have O:=aB aq;generalize decide (x<0)=H at *;generalize decide (y<0)=N at *;have r:=aB ad;clear aq P ad;go_enter func63,ntmps63;go_wp2_with fail;generalize ((w.alloc (.cells #[.bool H,z] 77)).alloc (.cells #[.bool N,A] 77)).alloc (.cells #[.bool false,.slice none 0 0] 77)=W at *;have g:w.1.size<W.drew.1.size:=by have:=r.out;show w.1.size<W.1.size;omega
  have n:w.1.size+1<W.drew.1.size:=by have:=r.out;show w.1.size+1<W.1.size;omega
  have i:w.1.size+1+1<W.drew.1.size:=by have:=r.out;show w.1.size+1+1<W.1.size;omega
  go_region_held3 (fun C=>C.cell? ⟨w.1.size,0,none⟩=some (.bool H)∧C.cell? ⟨w.1.size,1,none⟩=some z∧C.cell? ⟨w.1.size+1,1,none⟩=some A)
   (first|(exact⟨s,k,l⟩)
         |(exact⟨(f.cell (p:=⟨w.1.size,0,none⟩) g).trans s,(f.cell (p:=⟨w.1.size,1,none⟩) g).trans k,(f.cell (p:=⟨w.1.size+1,1,none⟩) n).trans l⟩)
         |(exact⟨(a.cell (p:=⟨w.1.size,0,none⟩) g).trans s,(a.cell (p:=⟨w.1.size,1,none⟩) g).trans k,(a.cell (p:=⟨w.1.size+1,1,none⟩) n).trans l⟩)
         |((exact⟨(aL _ _ _ _ _ _ (show w.1.size+1+1≠w.1.size by omega)).trans ((aL _ _ _ _ _ _ (show w.1.size+1+1≠w.1.size by omega)).trans ((a.cell (p:=⟨w.1.size,0,none⟩) g).trans s)),(aL _ _ _ _ _ _ (show w.1.size+1+1≠w.1.size by omega)).trans ((aL _ _ _ _ _ _ (show w.1.size+1+1≠w.1.size by omega)).trans ((a.cell (p:=⟨w.1.size,1,none⟩) g).trans k)),(aL _ _ _ _ _ _ (show w.1.size+1+1≠w.1.size+1 by omega)).trans ((aL _ _ _ _ _ _ (show w.1.size+1+1≠w.1.size+1 by omega)).trans ((a.cell (p:=⟨w.1.size+1,1,none⟩) n).trans l))⟩)))
   (first
    |(go_at_call 110;refine(rP _ _ z A _ F.drew G.drew (by omega) (by omega)).mono ?_;rintro e4 w4 ⟨v4,rfl,B,S,f⟩;obtain⟨c,d,rfl,aj,ap,ao⟩:=id B)
    |(go_at_call 68;refine(p7 H _ _ (x+y) _ B (by omega) O.out).mono ?_;rintro e5 D ⟨rfl,J⟩;have a:=aC f J;have Z:=(a.cell (p:=⟨w.1.size+1+1,0,none⟩) i).trans L;have ab:=(a.cell (p:=⟨w.1.size+1+1,1,none⟩) i).trans M;have ah:=(a.frozen (p:=⟨w.1.size+1+1,0,none⟩) i).trans (E 0);have ai:=(a.frozen (p:=⟨w.1.size+1+1,1,none⟩) i).trans (E 1)))
  go_wp2_with fail;have U:=p8 (p:= .bool (decide (x+y<0))) (q:= .slice c (nl (x.natAbs+y.natAbs)) d) Z ab;have Q:Below w.1.size w D:=m.drew.trans (a.mono m.size);have R:=(Q.setCell (p:=⟨w.1.size+1+1,0,none⟩) (by simp;omega) (.bool (decide (x+y<0)))).setCell (p:=⟨w.1.size+1+1,1,none⟩) (by simp;omega) (.slice c (nl (x.natAbs+y.natAbs)) d);obtain⟨z0,z1⟩:=U;have T:(x+y).natAbs=x.natAbs+y.natAbs:=by
   have:=O.out;cases H<;>simp at this<;>omega
  have Y:NatAt ((D.setCell ⟨w.1.size+1+1,0,none⟩ (.bool (decide (x+y<0)))).setCell ⟨w.1.size+1+1,1,none⟩ (.slice c (nl (x.natAbs+y.natAbs)) d)) (.slice c (nl (x.natAbs+y.natAbs)) d) (x.natAbs+y.natAbs):=by
   have K:=S.ne2 i (V.ne (by omega)) (X.ne (by omega));exact((B.be J).set _ K).set _ K
  generalize (D.setCell ⟨w.1.size+1+1,0,none⟩ (.bool (decide (x+y<0)))).setCell ⟨w.1.size+1+1,1,none⟩ (.slice c (nl (x.natAbs+y.natAbs)) d)=W6 at *;exact aM (v:= .agg #[.bool (decide (x+y<0)),.slice c (nl (x.natAbs+y.natAbs)) d]) (by simp[results,results63,go_sem,z0,z1]) rfl ⟨_,rfl,⟨_,rfl,by rw[T];exact Y⟩,R⟩
 ·have aw:(decide (x<0)==decide (y<0))=false:=by simpa using P
  have F:=V.be m;have G:=X.be m;have ac:(x<0∧¬y<0)∨(¬x<0∧y<0):=by
   by_cases t:x<0<;>by_cases u:y<0<;>simp[t,u] at P⊢
  have al:=fun W (t:NatAt W z x.natAbs) (u:NatAt W A y.natAbs)=>QF x.natAbs y.natAbs z A W t u (by omega) (by omega);have ak:=kJ (x.natAbs:Int) (y.natAbs:Int);have ar:(x+y=if decide (x<0) then -((x.natAbs-y.natAbs:Nat):Int) else ((x.natAbs-y.natAbs:Nat):Int))∨x.natAbs<y.natAbs:=by
   by_cases h:x.natAbs<y.natAbs
   ·exact .inr h
   ·left;rcases ac with ⟨t,u⟩|⟨t,u⟩<;>simp[t]<;>omega
  have au:(x+y=if decide (y<0) then -((y.natAbs-x.natAbs:Nat):Int) else ((y.natAbs-x.natAbs:Nat):Int))∨y.natAbs<=x.natAbs:=by
   by_cases h:y.natAbs<=x.natAbs
   ·exact .inr h
   ·left;rcases ac with ⟨t,u⟩|⟨t,u⟩<;>simp[u]<;>omega
  have ae:=aB ar;have af:=aB au;have ag:=aB ac;have r:=aB ad;clear ar au ac P ad;by_cases am:y.natAbs<=x.natAbs
  ·have T:(x+y).natAbs=x.natAbs-y.natAbs:=by rcases ag.out with ⟨t,u⟩|⟨t,u⟩<;>omega
   have O:=aB (ae.out.resolve_right (by omega));have av:0<=bZ (x.natAbs:Int) (y.natAbs:Int):=by omega
   have an:nl (x.natAbs-y.natAbs)<=nl x.natAbs:=cK (bxR _ _);generalize bZ (x.natAbs:Int) (y.natAbs:Int)=cc at *;generalize decide (x<0)=H at *;generalize decide (y<0)=N at *;clear ak ae af;go_enter func63,ntmps63;go_wp2_with fail;generalize ((w.alloc (.cells #[.bool H,z] 77)).alloc (.cells #[.bool N,A] 77)).alloc (.cells #[.bool false,.slice none 0 0] 77)=W at *;refine(al W F G).mono ?_;rintro e o ⟨rfl,b⟩;have hW:=r.out;have s:=(b.cell (p:=⟨w.1.size,0,none⟩) (by show w.1.size<_;omega)).trans s;have k:=(b.cell (p:=⟨w.1.size,1,none⟩) (by show w.1.size<_;omega)).trans k;have I:=(b.cell (p:=⟨w.1.size+1,0,none⟩) (by show w.1.size+1<_;omega)).trans I;have l:=(b.cell (p:=⟨w.1.size+1,1,none⟩) (by show w.1.size+1<_;omega)).trans l;have L:=(b.cell (p:=⟨w.1.size+1+1,0,none⟩) (by show w.1.size+1+1<_;omega)).trans L;have M:=(b.cell (p:=⟨w.1.size+1+1,1,none⟩) (by show w.1.size+1+1<_;omega)).trans M;have E:=fun j=>(b.frozen (p:=⟨w.1.size+1+1,j,none⟩) (by show w.1.size+1+1<_;omega)).trans (E j);have F:=F.be b;have G:=G.be b;have m:=aC m b;clear hW;go_wp2_with fail;have g:w.1.size<o.drew.1.size:=by have:=r.out;have:=b.size;show w.1.size<o.1.size;omega
   have n:w.1.size+1<o.drew.1.size:=by have:=r.out;have:=b.size;show w.1.size+1<o.1.size;omega
   have i:w.1.size+1+1<o.drew.1.size:=by have:=r.out;have:=b.size;show w.1.size+1+1<o.1.size;omega
   go_region_held3 (fun C=>C.cell? ⟨w.1.size,0,none⟩=some (.bool H)∧C.cell? ⟨w.1.size,1,none⟩=some (z)∧C.cell? ⟨w.1.size+1,1,none⟩=some (A))
    (first|(exact⟨s,k,l⟩)
          |(exact⟨(f.cell (p:=⟨w.1.size,0,none⟩) g).trans s,(f.cell (p:=⟨w.1.size,1,none⟩) g).trans k,(f.cell (p:=⟨w.1.size+1,1,none⟩) n).trans l⟩)
          |(exact⟨(a.cell (p:=⟨w.1.size,0,none⟩) g).trans s,(a.cell (p:=⟨w.1.size,1,none⟩) g).trans k,(a.cell (p:=⟨w.1.size+1,1,none⟩) n).trans l⟩)
          |(exact⟨(aL _ _ _ _ _ _ (show w.1.size+1+1≠w.1.size by omega)).trans ((aL _ _ _ _ _ _ (show w.1.size+1+1≠w.1.size by omega)).trans ((a.cell (p:=⟨w.1.size,0,none⟩) g).trans s)),(aL _ _ _ _ _ _ (show w.1.size+1+1≠w.1.size by omega)).trans ((aL _ _ _ _ _ _ (show w.1.size+1+1≠w.1.size by omega)).trans ((a.cell (p:=⟨w.1.size,1,none⟩) g).trans k)),(aL _ _ _ _ _ _ (show w.1.size+1+1≠w.1.size+1 by omega)).trans ((aL _ _ _ _ _ _ (show w.1.size+1+1≠w.1.size+1 by omega)).trans ((a.cell (p:=⟨w.1.size+1,1,none⟩) n).trans l))⟩))
    (first
     |(go_at_call 112;refine(qM _ _ z A _ F.drew G.drew (by omega) am).mono ?_;rintro e4 w4 ⟨v4,rfl,B,S,f⟩;obtain⟨c,d,rfl,aj,ap,ao⟩:=id B)
     |(go_at_call 68;refine(p7 H _ _ (x+y) _ B (by omega) O.out).mono ?_;rintro e5 D ⟨rfl,J⟩;have a:=aC f J;have Z:=(a.cell (p:=⟨w.1.size+1+1,0,none⟩) i).trans L;have ab:=(a.cell (p:=⟨w.1.size+1+1,1,none⟩) i).trans M;have ah:=(a.frozen (p:=⟨w.1.size+1+1,0,none⟩) i).trans (E 0);have ai:=(a.frozen (p:=⟨w.1.size+1+1,1,none⟩) i).trans (E 1)))
   go_wp2_with fail;have U:=p8 (p:= .bool (decide (x+y<0))) (q:= .slice c (nl (x.natAbs-y.natAbs)) d) Z ab;have Q:Below w.1.size w D:=m.drew.trans (a.mono m.size);have R:=(Q.setCell (p:=⟨w.1.size+1+1,0,none⟩) (by simp;omega) (.bool (decide (x+y<0)))).setCell (p:=⟨w.1.size+1+1,1,none⟩) (by simp;omega) (.slice c (nl (x.natAbs-y.natAbs)) d);obtain⟨z0,z1⟩:=U;have Y:NatAt ((D.setCell ⟨w.1.size+1+1,0,none⟩ (.bool (decide (x+y<0)))).setCell ⟨w.1.size+1+1,1,none⟩ (.slice c (nl (x.natAbs-y.natAbs)) d)) (.slice c (nl (x.natAbs-y.natAbs)) d) (x.natAbs-y.natAbs):=by
    have K:=S.ne2 i (V.ne (by omega)) (X.ne (by omega));exact((B.be J).set _ K).set _ K
   generalize (D.setCell ⟨w.1.size+1+1,0,none⟩ (.bool (decide (x+y<0)))).setCell ⟨w.1.size+1+1,1,none⟩ (.slice c (nl (x.natAbs-y.natAbs)) d)=W6 at *;exact aM (v:= .agg #[.bool (decide (x+y<0)),.slice c (nl (x.natAbs-y.natAbs)) d]) (by simp[results,results63,go_sem,z0,z1]) rfl ⟨_,rfl,⟨_,rfl,by rw[T];exact Y⟩,R⟩
  ·have T:(x+y).natAbs=y.natAbs-x.natAbs:=by rcases ag.out with ⟨t,u⟩|⟨t,u⟩<;>omega
   have O:=aB (af.out.resolve_right am);have av:¬0<=bZ (x.natAbs:Int) (y.natAbs:Int):=by omega
   have an:nl (y.natAbs-x.natAbs)<=nl y.natAbs:=cK (bxR _ _);generalize bZ (x.natAbs:Int) (y.natAbs:Int)=cc at *;generalize decide (x<0)=H at *;generalize decide (y<0)=N at *;clear ak ae af;go_enter func63,ntmps63;go_wp2_with fail;generalize ((w.alloc (.cells #[.bool H,z] 77)).alloc (.cells #[.bool N,A] 77)).alloc (.cells #[.bool false,.slice none 0 0] 77)=W at *;refine(al W F G).mono ?_;rintro e o ⟨rfl,b⟩;have hW:=r.out;have s:=(b.cell (p:=⟨w.1.size,0,none⟩) (by show w.1.size<_;omega)).trans s;have k:=(b.cell (p:=⟨w.1.size,1,none⟩) (by show w.1.size<_;omega)).trans k;have I:=(b.cell (p:=⟨w.1.size+1,0,none⟩) (by show w.1.size+1<_;omega)).trans I;have l:=(b.cell (p:=⟨w.1.size+1,1,none⟩) (by show w.1.size+1<_;omega)).trans l;have L:=(b.cell (p:=⟨w.1.size+1+1,0,none⟩) (by show w.1.size+1+1<_;omega)).trans L;have M:=(b.cell (p:=⟨w.1.size+1+1,1,none⟩) (by show w.1.size+1+1<_;omega)).trans M;have E:=fun j=>(b.frozen (p:=⟨w.1.size+1+1,j,none⟩) (by show w.1.size+1+1<_;omega)).trans (E j);have F:=F.be b;have G:=G.be b;have m:=aC m b;clear hW;go_wp2_with fail;have g:w.1.size<o.drew.1.size:=by have:=r.out;have:=b.size;show w.1.size<o.1.size;omega
   have n:w.1.size+1<o.drew.1.size:=by have:=r.out;have:=b.size;show w.1.size+1<o.1.size;omega
   have i:w.1.size+1+1<o.drew.1.size:=by have:=r.out;have:=b.size;show w.1.size+1+1<o.1.size;omega
   go_region_held3 (fun C=>C.cell? ⟨w.1.size+1,0,none⟩=some (.bool N)∧C.cell? ⟨w.1.size,1,none⟩=some (z)∧C.cell? ⟨w.1.size+1,1,none⟩=some (A))
    (first|(exact⟨I,k,l⟩)
          |(exact⟨(f.cell (p:=⟨w.1.size+1,0,none⟩) n).trans I,(f.cell (p:=⟨w.1.size,1,none⟩) g).trans k,(f.cell (p:=⟨w.1.size+1,1,none⟩) n).trans l⟩)
          |(exact⟨(a.cell (p:=⟨w.1.size+1,0,none⟩) n).trans I,(a.cell (p:=⟨w.1.size,1,none⟩) g).trans k,(a.cell (p:=⟨w.1.size+1,1,none⟩) n).trans l⟩)
          |(exact⟨(aL _ _ _ _ _ _ (show w.1.size+1+1≠w.1.size+1 by omega)).trans ((aL _ _ _ _ _ _ (show w.1.size+1+1≠w.1.size+1 by omega)).trans ((a.cell (p:=⟨w.1.size+1,0,none⟩) n).trans I)),(aL _ _ _ _ _ _ (show w.1.size+1+1≠w.1.size by omega)).trans ((aL _ _ _ _ _ _ (show w.1.size+1+1≠w.1.size by omega)).trans ((a.cell (p:=⟨w.1.size,1,none⟩) g).trans k)),(aL _ _ _ _ _ _ (show w.1.size+1+1≠w.1.size+1 by omega)).trans ((aL _ _ _ _ _ _ (show w.1.size+1+1≠w.1.size+1 by omega)).trans ((a.cell (p:=⟨w.1.size+1,1,none⟩) n).trans l))⟩))
    (first
     |(go_at_call 112;refine(qM _ _ A z _ G.drew F.drew (by omega) (by omega)).mono ?_;rintro e4 w4 ⟨v4,rfl,B,S,f⟩;obtain⟨c,d,rfl,aj,ap,ao⟩:=id B)
     |(go_at_call 68;refine(p7 N _ _ (x+y) _ B (by omega) O.out).mono ?_;rintro e5 D ⟨rfl,J⟩;have a:=aC f J;have Z:=(a.cell (p:=⟨w.1.size+1+1,0,none⟩) i).trans L;have ab:=(a.cell (p:=⟨w.1.size+1+1,1,none⟩) i).trans M;have ah:=(a.frozen (p:=⟨w.1.size+1+1,0,none⟩) i).trans (E 0);have ai:=(a.frozen (p:=⟨w.1.size+1+1,1,none⟩) i).trans (E 1)))
   go_wp2_with fail;have U:=p8 (p:= .bool (decide (x+y<0))) (q:= .slice c (nl (y.natAbs-x.natAbs)) d) Z ab;have Q:Below w.1.size w D:=m.drew.trans (a.mono m.size);have R:=(Q.setCell (p:=⟨w.1.size+1+1,0,none⟩) (by simp;omega) (.bool (decide (x+y<0)))).setCell (p:=⟨w.1.size+1+1,1,none⟩) (by simp;omega) (.slice c (nl (y.natAbs-x.natAbs)) d);obtain⟨z0,z1⟩:=U;have Y:NatAt ((D.setCell ⟨w.1.size+1+1,0,none⟩ (.bool (decide (x+y<0)))).setCell ⟨w.1.size+1+1,1,none⟩ (.slice c (nl (y.natAbs-x.natAbs)) d)) (.slice c (nl (y.natAbs-x.natAbs)) d) (y.natAbs-x.natAbs):=by
    have K:=S.ne2 i (X.ne (by omega)) (V.ne (by omega));exact((B.be J).set _ K).set _ K
   generalize (D.setCell ⟨w.1.size+1+1,0,none⟩ (.bool (decide (x+y<0)))).setCell ⟨w.1.size+1+1,1,none⟩ (.slice c (nl (y.natAbs-x.natAbs)) d)=W6 at *;exact aM (v:= .agg #[.bool (decide (x+y<0)),.slice c (nl (y.natAbs-x.natAbs)) d]) (by simp[results,results63,go_sem,z0,z1]) rfl ⟨_,rfl,⟨_,rfl,by rw[T];exact Y⟩,R⟩
def AC(x y:Int):x*y=if (!(decide (x<0)==decide (y<0))) then -((x.natAbs*y.natAbs:Nat):Int) else ((x.natAbs*y.natAbs:Nat):Int):=by
 have h:=fL x y;rw[<-h];by_cases a:x<0<;>by_cases b:y<0
 ·have:=Int.mul_nonneg_of_nonpos_of_nonpos (fP a) (fP b);simp[a,b];omega
 ·have:=Int.mul_nonpos_of_nonpos_of_nonneg (fP a) (Int.not_lt.1 b);simp[a,b];omega
 ·have:=Int.mul_nonpos_of_nonneg_of_nonpos (Int.not_lt.1 a) (fP b);simp[a,b];omega
 ·have:=gB (Int.not_lt.1 a) (Int.not_lt.1 b);simp[a,b];omega
def jB(x y:Int)(I J:Value)(w:World)(T:IntAt w I x)(U:IntAt w J y)(hl:nl x.natAbs+nl y.natAbs<=17592186044416):
  Calls prog 32 #[I,J] w (dW w (x*y)):=by
 obtain⟨m,rfl,G⟩:=T;obtain⟨n,rfl,H⟩:=U;obtain⟨h,i,j,k,V,Y,B,F,l⟩:=eqR w (.bool (decide (x<0))) m (.bool (decide (y<0))) n 77;have E:=AC x y;have D:=fL x y;have ae:=fI x.natAbs y.natAbs;have Q:=G.be l;have R:=H.be l;have L:=aB E;have K:=aB D;generalize decide (x<0)=t at *;generalize decide (y<0)=u at *;have r:=aB F;clear E F D;go_enter func32,ntmps32;go_wp2_with fail;generalize ((w.alloc (.cells #[.bool t,m] 77)).alloc (.cells #[.bool u,n] 77)).alloc (.cells #[.bool false,.slice none 0 0] 77)=W at *;have e:w.1.size<W.drew.1.size:=by have:=r.out;show w.1.size<W.1.size;omega
 have f:w.1.size+1<W.drew.1.size:=by have:=r.out;show w.1.size+1<W.1.size;omega
 have g:w.1.size+1+1<W.drew.1.size:=by have:=r.out;show w.1.size+1+1<W.1.size;omega
 go_region_held3 (fun o=>o.cell? ⟨w.1.size,0,none⟩=some (.bool t)∧o.cell? ⟨w.1.size+1,0,none⟩=some (.bool u)∧o.cell? ⟨w.1.size,1,none⟩=some (m)∧o.cell? ⟨w.1.size+1,1,none⟩=some (n))
  (first|(exact⟨h,j,i,k⟩)
        |(exact⟨(d.cell (p:=⟨w.1.size,0,none⟩) e).trans h,(d.cell (p:=⟨w.1.size+1,0,none⟩) f).trans j,(d.cell (p:=⟨w.1.size,1,none⟩) e).trans i,(d.cell (p:=⟨w.1.size+1,1,none⟩) f).trans k⟩)
        |(exact⟨(a.cell (p:=⟨w.1.size,0,none⟩) e).trans h,(a.cell (p:=⟨w.1.size+1,0,none⟩) f).trans j,(a.cell (p:=⟨w.1.size,1,none⟩) e).trans i,(a.cell (p:=⟨w.1.size+1,1,none⟩) f).trans k⟩)
        |(exact⟨(aL _ _ _ _ _ _ (show w.1.size+1+1≠w.1.size by omega)).trans ((aL _ _ _ _ _ _ (show w.1.size+1+1≠w.1.size by omega)).trans ((a.cell (p:=⟨w.1.size,0,none⟩) e).trans h)),(aL _ _ _ _ _ _ (show w.1.size+1+1≠w.1.size+1 by omega)).trans ((aL _ _ _ _ _ _ (show w.1.size+1+1≠w.1.size+1 by omega)).trans ((a.cell (p:=⟨w.1.size+1,0,none⟩) f).trans j)),(aL _ _ _ _ _ _ (show w.1.size+1+1≠w.1.size by omega)).trans ((aL _ _ _ _ _ _ (show w.1.size+1+1≠w.1.size by omega)).trans ((a.cell (p:=⟨w.1.size,1,none⟩) e).trans i)),(aL _ _ _ _ _ _ (show w.1.size+1+1≠w.1.size+1 by omega)).trans ((aL _ _ _ _ _ _ (show w.1.size+1+1≠w.1.size+1 by omega)).trans ((a.cell (p:=⟨w.1.size+1,1,none⟩) f).trans k))⟩))
  (first
   |(go_at_call 69;refine(qN _ _ m n _ Q.drew R.drew (by unfold aJ;omega)).mono ?_;rintro e4 w4 ⟨v4,rfl,s,O,d⟩;obtain⟨b,c,rfl,ad,ag,af⟩:=id s)
   |(go_at_call 68;refine(p7 (!(t==u)) _ _ (x*y) _ s (by omega) L.out).mono ?_;rintro e5 z ⟨rfl,A⟩;have a:=aC d A;have X:=(a.cell (p:=⟨w.1.size+1+1,0,none⟩) g).trans V;have Z:=(a.cell (p:=⟨w.1.size+1+1,1,none⟩) g).trans Y;have ab:=(a.frozen (p:=⟨w.1.size+1+1,0,none⟩) g).trans (B 0);have ac:=(a.frozen (p:=⟨w.1.size+1+1,1,none⟩) g).trans (B 1)))
 go_wp2_with fail;have P:=p8 (p:= .bool (decide (x*y<0))) (q:= .slice b (nl (x.natAbs*y.natAbs)) c) X Z;have M:Below w.1.size w z:=l.drew.trans (a.mono l.size);have N:=(M.setCell (p:=⟨w.1.size+1+1,0,none⟩) (by simp;omega) (.bool (decide (x*y<0)))).setCell (p:=⟨w.1.size+1+1,1,none⟩) (by simp;omega) (.slice b (nl (x.natAbs*y.natAbs)) c);obtain⟨z0,z1⟩:=P;have S:NatAt ((z.setCell ⟨w.1.size+1+1,0,none⟩ (.bool (decide (x*y<0)))).setCell ⟨w.1.size+1+1,1,none⟩ (.slice b (nl (x.natAbs*y.natAbs)) c)) (.slice b (nl (x.natAbs*y.natAbs)) c) (x.natAbs*y.natAbs):=by
  have C:=O.ne2 g (G.ne (by omega)) (H.ne (by omega));exact((s.be A).set _ C).set _ C
 generalize (z.setCell ⟨w.1.size+1+1,0,none⟩ (.bool (decide (x*y<0)))).setCell ⟨w.1.size+1+1,1,none⟩ (.slice b (nl (x.natAbs*y.natAbs)) c)=W6 at *;exact aM (v:= .agg #[.bool (decide (x*y<0)),.slice b (nl (x.natAbs*y.natAbs)) c]) (by simp[results,results32,go_sem,z0,z1]) rfl ⟨_,rfl,⟨_,rfl,by rw[K.out];exact S⟩,N⟩
def ON(w:World)(a b:Value)(t:TypeId):let W:=(w.alloc (.cells #[a,b] t)).alloc (.cells #[.bool false,.slice none 0 0] t)
  W.cell? ⟨w.1.size,0,none⟩=some a∧W.cell? ⟨w.1.size,1,none⟩=some b∧
  W.cell? ⟨w.1.size+1,0,none⟩=some (.bool false)∧W.cell? ⟨w.1.size+1,1,none⟩=some (.slice none 0 0)∧(∀j,W.frozen? ⟨w.1.size+1,j,none⟩=false)∧W.1.size=w.1.size+2∧Below w.1.size w W:=by
 refine⟨by simp[go_sem],by simp[go_sem],by simp[go_sem],by simp[go_sem],fun j=>by simp[go_sem],by simp,?_⟩;exact((aG _ _).alloc aE _).alloc (by simp) _
def sQ(x:Int)(s:Value)(w:World)(E:IntAt w s x)(T:nl x.natAbs<=17592186044416):
  Calls prog 96 #[s] w (dW w (-x)):=by
 obtain⟨J,rfl,g⟩:=E;obtain⟨N,O,F,H,l,o,f⟩:=ON w (.bool (decide (x<0))) J 77;have n: -x=if (!(decide (x<0))) then -((x.natAbs:Nat):Int) else ((x.natAbs:Nat):Int):=by
  by_cases h:x<0<;>simp[h]<;>omega
 have m:(-x).natAbs=x.natAbs:=azJ x;have C:=g.be f;have y:=aB n;have u:=aB m;have z:=aB o;obtain⟨a,i⟩:∃a,Hid (decide (-x<0)=a):=⟨_,rfl⟩;generalize decide (x<0)=r at *;obtain⟨b,c,rfl,S,V,U⟩:=id g;clear n m o;go_enter func96,ntmps96;go_wp2_with fail;generalize (w.alloc (.cells #[.bool r,.slice b (nl x.natAbs) c] 77)).alloc (.cells #[.bool false,.slice none 0 0] 77)=W at *;refine(p7 (!r) _ _ (-x) _ C (by omega) y.out).mono ?_;rintro P t ⟨k,d⟩;rw[i.out] at k;subst k;have e:w.1.size+1<W.1.size:=by have:=z.out;omega
 have G:=(d.cell (p:=⟨w.1.size+1,0,none⟩) e).trans F;have I:=(d.cell (p:=⟨w.1.size+1,1,none⟩) e).trans H;have Q:=(d.frozen (p:=⟨w.1.size+1,0,none⟩) e).trans (l 0);have R:=(d.frozen (p:=⟨w.1.size+1,1,none⟩) e).trans (l 1);go_wp2_with fail;have B:=p8 (p:= .bool a) (q:= .slice b (nl x.natAbs) c) G I;have A:Below w.1.size w t:=aC f d;have j:=(A.setCell (p:=⟨w.1.size+1,0,none⟩) (by simp) (.bool a)).setCell (p:=⟨w.1.size+1,1,none⟩) (by simp) (.slice b (nl x.natAbs) c);obtain⟨K,L⟩:=B;have D:=g.be j;generalize (t.setCell ⟨w.1.size+1,0,none⟩ (.bool a)).setCell ⟨w.1.size+1,1,none⟩ (.slice b (nl x.natAbs) c)=M at *;exact aM (v:= .agg #[.bool a,.slice b (nl x.natAbs) c]) (by simp[results,results96,go_sem,K,L]) rfl ⟨_,rfl,⟨_,by rw[i.out],by rw[u.out];exact D⟩,j⟩
def qF(x y:Int)(r s:Value)(w:World)(A:Glob w)(M:IntAt w r x)(N:IntAt w s y)(K:Nat)(z:nl x.natAbs<=K)(u:nl y.natAbs<=K)(C:5*K+4<=aJ):
  Calls prog 97 #[r,s] w (dW w ((Nat.gcd x.natAbs y.natAbs:Nat):Int)):=by
 obtain⟨n,rfl,k⟩:=M;obtain⟨o,rfl,l⟩:=N;obtain⟨Y,Z,d0,d1,O,Q,h,j,c⟩:=eqR w (.bool (decide (x<0))) n (.bool (decide (y<0))) o 77;have I:=k.be c;have J:=l.be c;have B:=A.be c;have t:=aB j;generalize decide (x<0)=S at *;generalize decide (y<0)=T at *;clear j;go_enter func97,ntmps97;go_wp2_with fail;generalize ((w.alloc (.cells #[.bool S,n] 77)).alloc (.cells #[.bool T,o] 77)).alloc (.cells #[.bool false,.slice none 0 0] 77)=W at *;refine(FJ _ _ K _ _ _ B I J z u C).mono ?_;rintro e4 g ⟨v4,rfl,m,G,e⟩;obtain⟨a,b,rfl,ad,af,ae⟩:=id m;have f:w.1.size+1+1<W.1.size:=by have:=t.out;omega
 have P:=(e.cell (p:=⟨w.1.size+1+1,0,none⟩) f).trans O;have R:=(e.cell (p:=⟨w.1.size+1+1,1,none⟩) f).trans Q;have ab:=(e.frozen (p:=⟨w.1.size+1+1,0,none⟩) f).trans (h 0);have ac:=(e.frozen (p:=⟨w.1.size+1+1,1,none⟩) f).trans (h 1);generalize Nat.gcd x.natAbs y.natAbs=d at *;go_wp2_with fail;have H:=p8 (p:= .bool false) (q:= .slice a (nl d) b) P R;have D:Below w.1.size w g:=aC c e;have E:=(D.setCell (p:=⟨w.1.size+1+1,0,none⟩) (by simp;omega) (.bool false)).setCell (p:=⟨w.1.size+1+1,1,none⟩) (by simp;omega) (.slice a (nl d) b);obtain⟨U,V⟩:=H;have i:=G.ne2 f (k.ne (by omega)) (l.ne (by omega));have L:NatAt ((g.setCell ⟨w.1.size+1+1,0,none⟩ (.bool false)).setCell ⟨w.1.size+1+1,1,none⟩ (.slice a (nl d) b)) (.slice a (nl d) b) d:=(m.set _ i).set _ i;generalize (g.setCell ⟨w.1.size+1+1,0,none⟩ (.bool false)).setCell ⟨w.1.size+1+1,1,none⟩ (.slice a (nl d) b)=X at *;have F:decide ((d:Int)<0)=false:=by simp
 exact aM (v:= .agg #[.bool false,.slice a (nl d) b]) (by simp[results,results97,go_sem,U,V]) rfl ⟨_,rfl,⟨_,by rw[F],L⟩,E⟩
def qG(x:Int)(g:Value)(w:World)(h:IntAt w g x)(l:nl x.natAbs<=17592186044416):
  Calls prog 119 #[g] w fun e w'=>e= .returned (.int .i64 x.sign)∧Below w.1.size w w':=by
 obtain⟨p,rfl,A,c,rfl,k,n,m⟩:=h;by_cases b:x=0
 ·have i:((nl x.natAbs:Int)==0)=true:=by rw[b,show(0:Int).natAbs=0 from rfl,dO];rfl
  have a:x.sign=0:=by rw[b];rfl
  rw[a];clear a b;generalize decide (x<0)=o at *;go_enter func119,ntmps119;go_wp2;go_ret;exact⟨rfl,(aG _ _).alloc aE _⟩
 ·have j:=gS (show x.natAbs≠0 by omega);have i:((nl x.natAbs:Int)==0)=false:=by simp;omega
  by_cases f:x<0
  ·have a:x.sign= -1:=aqT f;have d:decide (x<0)=true:=by simpa using f
   rw[a,d];clear a b f d;go_enter func119,ntmps119;go_wp2;go_ret;exact⟨rfl,(aG _ _).alloc aE _⟩
  ·have a:x.sign=1:=aqI (by omega);have d:decide (x<0)=false:=by simpa using f
   rw[a,d];clear a b f d;go_enter func119,ntmps119;go_wp2;go_ret;exact⟨rfl,(aG _ _).alloc aE _⟩
def S3(x:Int)(o:Value)(w:World)(s:IntAt w o x)(y:nl x.natAbs<=17592186044416):
  Calls prog 62 #[o] w fun e w'=>e= .returned (.bool (decide (x=1)))∧Below w.1.size w w':=by
 obtain⟨C,rfl,A,c,rfl,u,r,z⟩:=s;by_cases g:x<0
 ·have d:decide (x<0)=true:=by simpa using g
  have f:decide (x=1)=false:=by simp;omega
  rw[d,f];clear d f g;go_enter func62,ntmps62;go_wp2;go_ret;exact⟨rfl,(aG _ _).alloc aE _⟩
 ·have d:decide (x<0)=false:=by simpa using g
  rw[d];clear d;by_cases a:nl x.natAbs=1
  ·have t:((nl x.natAbs:Int)==1)=true:=by simp;omega
   have m:x.natAbs≠0:=by intro h;rw[h,dO] at a;omega
   have n:x.natAbs<BN:=by have:=cyD x.natAbs;rw[a,bxG] at this;exact this
   obtain⟨b,j,rfl,q,k⟩:=r.at_ (by rw[aK];omega);have i:=k 0 (by rw[aK];omega);rw[pC m n] at i;simp only[gQ,byM] at i;have B:(0:Int)<(nl x.natAbs:Int):=by omega
   have v:(w.alloc (.cells #[.bool false,.slice (some ⟨b,j,none⟩) (nl x.natAbs) c] 77)).cell? ⟨b,j,none⟩=some (.int .u64 (x.natAbs:Int)):=(((aG _ _).alloc aE _).cell (p:=⟨b,j,none⟩) q).trans i;have l:decide (x=1)=((x.natAbs:Int)==1):=by rw[bxH];simp;omega
   rw[l];clear k g m n a l;generalize (x.natAbs:Int)=D at *;go_enter func62,ntmps62;go_wp2;go_ret;exact⟨rfl,(aG _ _).alloc aE _⟩
  ·have t:((nl x.natAbs:Int)==1)=false:=by simp;omega
   have f:decide (x=1)=false:=by
    simp;intro h;apply a;rw[h];exact mJ (by decide) (by decide)
   rw[f];clear f a g;go_enter func62,ntmps62;go_wp2;go_ret;exact⟨rfl,(aG _ _).alloc aE _⟩
def lL(n:Int)(w:World)(Q: -9223372036854775808<=n)(R:n<=9223372036854775807):
  Calls prog 55 #[.int .i64 n] w (dW w n):=by
 have o:(w.alloc (.cells #[.bool false,.slice none 0 0] 77)).cell? ⟨w.1.size,0,none⟩=some (.bool false):=by simp[go_sem]
 have r:(w.alloc (.cells #[.bool false,.slice none 0 0] 77)).cell? ⟨w.1.size,1,none⟩=some (.slice none 0 0):=by simp[go_sem]
 have f:∀j,(w.alloc (.cells #[.bool false,.slice none 0 0] 77)).frozen? ⟨w.1.size,j,none⟩=false:=fun j=>by simp[go_sem]
 have d:w.1.size<(w.alloc (.cells #[.bool false,.slice none 0 0] 77)).1.size:=by simp
 have l:Below w.1.size w (w.alloc (.cells #[.bool false,.slice none 0 0] 77)):=(aG _ _).alloc aE _;obtain⟨m,k,H⟩:∃m,Hid (n.natAbs=m)∧m<BN:=⟨_,rfl,by unfold BN;omega⟩;by_cases hn:n<0
 ·have C:IntKind.u64.wrap (-IntKind.u64.wrap n)=(m:Int):=by
   have:=k.out;rw[IntKind.wrap_u64,IntKind.wrap_u64];omega
  have g:decide (n<0)=true:=by simpa using hn
  have s:=aB g;clear g;go_enter func55,ntmps55;go_wp2_with fail;refine(sX m H _).mono ?_;rintro J e ⟨P,rfl,i,y,c⟩;obtain⟨a,b,rfl,M,O,N⟩:=id i;have D:=(c.cell (p:=⟨w.1.size,0,none⟩) d).trans o;have E:=(c.cell (p:=⟨w.1.size,1,none⟩) d).trans r;have K:=(c.frozen (p:=⟨w.1.size,0,none⟩) d).trans (f 0);have L:=(c.frozen (p:=⟨w.1.size,1,none⟩) d).trans (f 1);have h:(Value.slice a (nl m) b).ownBlock≠some w.1.size:=y.ne d (fun u A=>by cases A);have t:Below w.1.size w e:=aC l c;clear o r f C;go_wp2_with fail;have z:=p8 (p:= .bool true) (q:= .slice a (nl m) b) D E;have x:=(t.setCell (p:=⟨w.1.size,0,none⟩) (by simp) (.bool true)).setCell (p:=⟨w.1.size,1,none⟩) (by simp) (.slice a (nl m) b);obtain⟨F,G⟩:=z;have B:NatAt ((e.setCell ⟨w.1.size,0,none⟩ (.bool true)).setCell ⟨w.1.size,1,none⟩ (.slice a (nl m) b)) (.slice a (nl m) b) m:=(i.set _ h).set _ h;generalize (e.setCell ⟨w.1.size,0,none⟩ (.bool true)).setCell ⟨w.1.size,1,none⟩ (.slice a (nl m) b)=I at *;exact aM (v:= .agg #[.bool true,.slice a (nl m) b]) (by simp[results,results55,go_sem,F,G]) rfl ⟨_,rfl,⟨_,by rw[s.out],by rw[k.out];exact B⟩,x⟩
 ·have C:IntKind.u64.wrap n=(m:Int):=by
   have:=k.out;rw[IntKind.wrap_u64];omega
  have g:decide (n<0)=false:=by simpa using hn
  have s:=aB g;clear g;go_enter func55,ntmps55;go_wp2_with fail;refine(sX m H _).mono ?_;rintro J e ⟨P,rfl,i,y,c⟩;obtain⟨a,b,rfl,M,O,N⟩:=id i;have D:=(c.cell (p:=⟨w.1.size,0,none⟩) d).trans o;have E:=(c.cell (p:=⟨w.1.size,1,none⟩) d).trans r;have K:=(c.frozen (p:=⟨w.1.size,0,none⟩) d).trans (f 0);have L:=(c.frozen (p:=⟨w.1.size,1,none⟩) d).trans (f 1);have h:(Value.slice a (nl m) b).ownBlock≠some w.1.size:=y.ne d (fun u A=>by cases A);have t:Below w.1.size w e:=aC l c;clear o r f C;go_wp2_with fail;have z:=p8 (p:= .bool false) (q:= .slice a (nl m) b) D E;have x:=(t.setCell (p:=⟨w.1.size,0,none⟩) (by simp) (.bool false)).setCell (p:=⟨w.1.size,1,none⟩) (by simp) (.slice a (nl m) b);obtain⟨F,G⟩:=z;have B:NatAt ((e.setCell ⟨w.1.size,0,none⟩ (.bool false)).setCell ⟨w.1.size,1,none⟩ (.slice a (nl m) b)) (.slice a (nl m) b) m:=(i.set _ h).set _ h;generalize (e.setCell ⟨w.1.size,0,none⟩ (.bool false)).setCell ⟨w.1.size,1,none⟩ (.slice a (nl m) b)=I at *;exact aM (v:= .agg #[.bool false,.slice a (nl m) b]) (by simp[results,results55,go_sem,F,G]) rfl ⟨_,rfl,⟨_,by rw[s.out],by rw[k.out];exact B⟩,x⟩
def FF(x y:Nat)(q r:Value)(w:World)(F:NatAt w q x)(G:NatAt w r y)(L:nl x<=17592186044415)(C:y<=x):
  Calls prog 115 #[q,r] w (jK w [] (x-y)):=by
 obtain⟨A,c,rfl,N,E,P⟩:=F;obtain⟨B,d,rfl,O,m,Q⟩:=G;have D:=cK C;go_enter func115,ntmps115
 go_wp2_with (first
  |(at_make;refine kG rfl rfl .u64 143 8 underlying75 gZ (nl x) rfl rfl rfl rfl (by omega) (by omega) ?_;intro S I n v i)
  |(with_reducible refine mK rfl rfl .u64 143 underlying75 V5 rfl rfl w.1.size 0 (List.replicate (nl x) 0) (dg x) (by simp) rfl (fun _=>rfl) v n (E.be i) ?_;intro s z a))
 rw[dB] at a;have j:Below w.1.size w s:=a.belowOf i aE;refine(FX w.1.size 0 (nl x) _ (nl x) B (nl y) (dg y) d s (by rw[lN];simp) rfl z (a.soft n) aE (by omega) (m.be j) ?hn D (sW (InR.replicate aQ _) (cI x)) (cI y) ?hv).mono ?_
 case hn=>
  rintro b o rfl h;obtain⟨K,R,e,M,_⟩:=m.at_ h;injection e with e;injection e;omega
 case hv=>rw[mN _ _ (by rw[aK];exact aE),cU,cU];omega
 rintro e t ⟨rfl,J,p,H,hv,k,l⟩;rw[mN _ _ (by rw[aK];exact aE),cU,cU] at hv;have u:=aB hv;have g:=aB p;clear hv p;have f:w.1.size<t.1.size:=aZ I (aH a.grown.size l.grown.size);go_wp2_with fail;refine(gC _ J (nl x) (nl x) t g.out (Rd.mk f k) aE (by omega)).mono ?_;rintro e T ⟨rfl,rfl⟩;go_wp2;go_ret;exact⟨_,rfl,NatAt.trim (Rd.mk f k) H (by rw[u.out];omega) (by rw[g.out];exact aE) (Old.mk f),From.new aE,l.belowOf j aE⟩
def oJ{l:List UInt8}(h:Digs l):nl (aO l)<=l.length:=by
 refine cJ (aZ (tI h) ?_);exact aqN (by decide) _
def mP(t:ByteArray)(a b:Nat):(t.extract a b).data.toList=(t.data.toList.take b).drop a:=by
 rw[ByteArray.data_extract,Array.toList_extract,List.extract_eq_take_drop];rw[List.take_drop];by_cases h:a<=b
 ·rw[show a+(b-a)=b by omega]
 ·rw[gO (by simp;omega),gO (by simp;omega)]
def SJ(s:ByteArray)(w:World):∃cap w1,(convert 9 137 (.string s)).run prog w= .ok (.slice (some ⟨w.1.size,0,none⟩) s.size cap) w1∧Below w.1.size w w1∧w1.1.size=w.1.size+1∧
  ∀j,j<s.size->w1.cell? ⟨w.1.size,j,none⟩=some (.int .u8 ((s.data.toList.getD j 0).toNat:Int)):=
 ⟨_,_,Lib.run_convert_string_bytes w _ _ 5 s underlying9 underlying137 underlying5,
  ⟨rfl,rfl,rfl,by rw[Lib.bytesWorld_size];omega,fun j a=>Lib.bytesWorld_at_old w _ s j a⟩,Lib.bytesWorld_size w _ s,fun j a=>Lib.bytesWorld_cell w _ s j a⟩
def SK(h:InR aA zs)(hv:aA^(zs.length-1)<=aF aA zs):kH zs:=by
 intro e;obtain⟨a,rfl⟩:∃a,zs=a++[0]:=by
  rcases List.eq_nil_or_concat zs with rfl|⟨a,b,rfl⟩
  ·simp at e
  ·rw[List.concat_eq_append,bz7] at e;simp at e;subst e;exact⟨a,by rw[List.concat_eq_append]⟩
 rw[kV] at hv;have:=iO aQ h.left;simp at hv;omega
def bqY{a b d:Nat}{c:Int}(j:1<=b)(f:InR aA zs)(e:zs.length=nl a)(k:0<=c)(l:c<aA)(hv:aF aA zs+c*aA^nl a=(a:Int)*b+d):
  (c=0->zs=dg (a*b+d))∧(c≠0->zs++[c]=dg (a*b+d)):=by
 refine⟨fun h=> ?_,fun h=> ?_⟩
 ·subst h;have i:aF aA zs=((a*b+d:Nat):Int):=by push_cast;omega
  refine vW ⟨f,?_⟩ i;by_cases g:a=0
  ·subst g;rw[dO] at e;have:zs=[]:=bX e;subst this;simp[kH]
  ·refine SK f ?_;rw[e,i,<-iX];have m:=AG g;have n:a*1<=a*b:=eV _ j;omega
 ·refine vW ⟨f.append (InR.cons k l InR.nil),?_⟩ ?_
  ·unfold kH;rw[bz7];simpa using h
  ·rw[kV,vY,e];push_cast;rw[fD];exact hv
def SM(s:ByteArray)(w:World)(hd:Digs s.data.toList)(hl:s.size<=1099511627776):
  Calls prog 189 #[.string s] w (jK w [] (aO s.data.toList)):=by
 go_enter func189,ntmps189;go_wp2_with fail;go_loopg [0,3] s.size (fun k p q wr=>∃(t:ByteArray) (h:List UInt8),p= .string t∧Hid (t.size=k)∧Hid (s.data.toList=h++t.data.toList)∧OwnN wr w.1.size q (dg (aO h))∧Below w.1.size w wr)
 case atStart=>exact⟨s,[],rfl,rfl,rfl,by rw[BG,sR];exact OwnN.nil _ _,aG _ _⟩
 case round=>
  obtain⟨t,h,rfl,U,r,D,ac⟩:=hrel;have aw:s.data.toList.length=s.size:=by simp
  have N:t.data.toList.length=t.size:=by simp
  have au:h.length+t.size=s.size:=by rw[<-aw,r.out,bN,N]
  have bi:Digs h:=by have:=hd;rw[r.out] at this;exact this.left
  have bj:Digs t.data.toList:=by have:=hd;rw[r.out] at this;exact this.right
  have hn:=oJ bi;have b4:h.length<=1099511627776:=by omega
  have b7:t.size<=1099511627776:=by omega
  have a9:=aB au;have F:=aB N;clear aw N au;by_cases h0:t.size=0
  ·have ht:t.data.toList=[]:=bX (by rw[F.out];exact h0);have o:=r.out;rw[ht,fH] at o;have hN:=D.natAt;have hf:From w [] u3:=by
    intro g hg N;have:=(D.lt g hg).1;omega
   have q0:¬(0:Int)<(t.size:Int):=by omega
   have bb:=aB o;clear o ht r U F a9;go_wp2;go_ret;exact⟨_,rfl,by rw[bb.out];exact hN,hf,ac⟩
  ·obtain⟨z,b9,ca,cb,cc⟩:∃z:Nat,1<=z∧z<=19∧z<=t.size∧((t.size:Int)-1)%19+1=(z:Int):=⟨(t.size-1)%19+1,by omega,by omega,by omega,by omega⟩;obtain⟨bc,w1,J,an,a0,I⟩:=SJ (t.extract 0 z) wr;have ag:(t.extract 0 z).size=z:=by rw[ByteArray.size_extract];omega
   have af:(t.extract 0 z).data.toList=t.data.toList.take z:=by rw[mP,azZ]
   have aq:(t.extract z t.size).data.toList=t.data.toList.drop z:=by rw[mP,cZ (by rw[F.out];omega)]
   have ar:(t.extract z t.size).size=t.size-z:=by rw[ByteArray.size_extract];omega
   rw[ag,af] at I;rw[ag] at J;have bt:=aB af;have a8:=aB aq;have aj:=aB ar;have ae:Digs (t.data.toList.take z):=bj.take z;have ah:(t.data.toList.take z).length=z:=by rw[bK,F.out];omega
   obtain⟨a,ak⟩:∃a,Hid (t.data.toList.take z=a):=⟨_,rfl⟩;rw[ak.out] at I ae ah;have S:=aB ah;have bu:=aB a0;have a7:=aB I;have ay:=D.be an;obtain⟨A,c,az⟩:=D.slice;rw[aK] at az;subst az;clear af aq ar ag ah I D a0;have b8:decide (0<t.size)=true:=by simp;omega
   go_wp2_with (simp only[J]);go_loopg [5,6,25] z (fun k p q i O=>∃j:Nat,Hid (j+k=z)∧i= .int .i64 j∧p= .int .u64 (aO (a.take j):Nat)∧q= .int .u64 ((10^j:Nat):Int)∧O=w1)
   case atStart=>exact⟨0,by unfold Hid;omega,rfl,by simp[BG],by simp,rfl⟩
   case round=>
    obtain⟨j,E,rfl,rfl,rfl,rfl⟩:=hrel;have a5:=tI (ae.take j);have av:(a.take j).length<=j:=List.length_take_le _ _;have bs:aO (a.take j)<10^j:=aZ a5 (fT (by decide) av);clear a5 av;cases gk with
    |succ k=>
     have C:j<z:=by have:=E.out;omega
     have g:=a7.out j C;have M:j<a.length:=by rw[S.out];exact C
     have bh:48<=(a.getD j 0).toNat∧(a.getD j 0).toNat<=57:=ae _ (by rw[eF,aR M];exact aq0 M);have a1:aO (a.take (j+1))=10*aO (a.take j)+((a.getD j 0).toNat-48):=by
      rw[bq4 M,oK,eF,aR M];rfl
     have hP:10^j<=1000000000000000000:=by
      have:10^j<=10^18:=fT (by decide) (by omega);exact this
     have al:10^(j+1)=10^j*10:=dH ..;have T:=aB a1;have ba:=aB al;clear a1 al;generalize ai:aO (a.take j)=v at *;generalize ab:10^j=P at *;generalize ao:(a.getD j 0).toNat=ch at *;have R:=aB ao;clear ai ab ao J;obtain⟨b0,b1⟩:=bh;go_wp2;go_roundg k
     case measure=>omega
     case rel=>exact⟨j+1,by have:=E.out;unfold Hid;omega,by go_num,by rw[T.out];go_num,by rw[ba.out];go_num,rfl⟩
    |zero=>
     have C:j=z:=by have:=E.out;omega
     subst C;have ax:a.take j=a:=cZ (by rw[S.out];exact aE);rw[ax] at bs⊢;have hP:10^j<18446744073709551616:=by
      have:10^j<=10^19:=fT (by decide) (by omega);omega
     have bg:1<=10^j:=eQ (by decide);have a4:aO (h++a)=aO h*10^j+aO a:=by rw[pF,S.out]
     have V:=aB a4;clear a4 ax J;generalize ai:aO a=v at *;generalize ab:10^j=P at *;generalize bp:aO h=d at *;clear ai ab bp E;go_wp2_with fail
     go_loopg [9,44] (nl d) (fun k p i O=>∃(m:Nat) (l:List Int) (f:Int),Hid (m+k=nl d)∧i= .int .i64 m∧p= .int .u64 f∧(0<=f∧f<aA)∧Hid (l.length=nl d)∧InR aA l∧Hid (∀j,m<=j->l.getD j 0=(dg d).getD j 0)∧
      Hid (aF aA (l.take m)+f*aA^m=aF aA ((dg d).take m)*P+v)∧OwnN O w.1.size (.slice A (nl d) c) l∧Below w.1.size w O)
     case atStart=>
      refine⟨0,dg d,v,by unfold Hid;omega,rfl,rfl,⟨by omega,?_⟩,aK d,cI d,fun _ _=>rfl,by simp[Hid],ay,aC ac an⟩;unfold aA;omega
     case round=>
      obtain⟨m,l,f,G,rfl,rfl,K,n,hz,Y,W,y,B⟩:=hrel;clear ay;cases gk with
      |succ k=>
       have u:m<nl d:=by have:=G.out;omega
       have HO:=aB y;obtain⟨g,rfl,bm,b5,b2,bq,ap⟩:=y.parts (by rw[n.out];omega);have g1:=ap m (by rw[n.out];exact u);rw[bA,Y.out m aE] at g1;have f1:=bq.soft.free m;have bx:=(cI d).getD aQ m;have a3:=jV aA (dg d) m (by rw[aK];exact u);generalize a6:(dg d).getD m 0=x at *;have bP:0<=(P:Int)∧(P:Int)<aA:=⟨by omega,by unfold aA;omega⟩;obtain⟨L,H,o⟩:=iT (x*P+f);have mb:=I7 bx bP K (z:=0) (by decide);have bH:=o.hi_bd (by omega) (m:=aA) (by omega);have bL:=o.2;have a2:aF aA ((l.set m L).take (m+1))+H*aA^(m+1)=aF aA ((dg d).take (m+1))*P+v:=by
        rw[t8 (by rw[n.out];exact u),a3,gR];have e1:=W.out;have e2:=o.1;generalize aF aA (l.take m)=Z at *;generalize aF aA ((dg d).take m)=X at *;generalize aA^m=Q at *;generalize aA=b at *;have e3:L=x*P+f-b*H:=by omega
        rw[e3];grind
       have bf:=aB o;have T:=aB a2;have bv:=aB a6;clear o a2 a6 a3 mb ap y;go_wp2_with fail;refine(oH x P f L H bx bP K bf.out _).mono ?_;rintro e1 w' ⟨rfl,rfl⟩;go_wp2;go_roundg k
       case measure=>omega
       case rel=>
        refine⟨m+1,l.set m L,H,by have:=G.out;unfold Hid;omega,by go_num,rfl,bH,by unfold Hid;rw[eM];exact n.out,hz.set bL.1 bL.2 m,?_,T,HO.out.set (by rw[n.out];exact u) L,B.setCell (by simpa using bm) _⟩;intro j C;rw[n8 _ _ _ _ (by omega)];exact Y.out j (by omega)
      |zero=>
       have u:m=nl d:=by have:=G.out;omega
       subst u;have hv:=W.out;rw[cZ (by rw[n.out];exact aE),cZ (by rw[aK];exact aE),cU] at hv;have R:=aB (bqY bg hz n.out K.1 K.2 hv);have b6:Hid (aO (h++a)=d*P+v):=V;have am:Hid (s.data.toList=(h++a)++(t.extract j t.size).data.toList):=by
        unfold Hid;rw[a8.out,eK,<-ak.out,List.take_append_drop];exact r.out
       clear hv W Y G hz;by_cases ad:f=0
       ·subst ad;have e:=R.out.1 rfl;rw[<-V.out] at e;subst e;go_wp2;go_roundg (t.size-j)
        case measure=>have:=U.out;omega
        case rel=>exact⟨_,h++a,rfl,aj,am,y,B⟩
       ·have e:=R.out.2 ad;rw[<-V.out] at e;have b3:(f != 0)=true:=by simpa using ad
        have HE:=aB e;clear e;have br:Src (wr.alloc (.cells #[.int .u64 f] 143)) (some ⟨wr.1.size,0,none⟩) [Value.int .u64 f]:=by
         refine .inr ⟨_,_,rfl,fun i v hv=> ?_⟩;match i,hv with
         |0,hv=>simp at hv;subst hv;simp[go_sem]
        have bn:wr.ownsRow w.1.size 143 1 (.slice A (nl d) c) (nl d) (l.map (Value.int .u64)):=by
         have:=y;unfold OwnN at this;rw[n.out] at this;exact this
        have bz:=B.size;go_wp2_with (at_builtin;refine gM rfl rfl 143 _ 1 8 underlying75 gZ rfl (by decide) w.1.size (.slice A (nl d) c) (nl d) _ rfl (bn.alloc _) [Value.int .u64 f] rfl (by simp) br (by simp[Value.oneCell']) (by omega) (by omega) (by simp;omega) ?_;intro q1 w2 bo bk bw);go_wp2;go_roundg (t.size-j)
        case measure=>have:=U.out;omega
        case rel=>
         refine⟨_,h++a,rfl,aj,am,?_,(B.alloc B.size _).grown bk (by simp;omega) (fun g hg=>(y.lt g hg).1)⟩;rw[<-HE.out];unfold OwnN;rw[aq7,bN,n.out];exact bo
def BB(w:World)(n:Nat)(e:Ending)(w':World):Prop:=∃v,e= .returned v∧NatAt w' v n∧Below w.1.size w w'
def PowAt(w:World)(v:Value)(k:Nat):Prop:=∃A c us,v= .slice A k c∧k<=c∧us.length=k∧(k=0∨∃b off,A=some ⟨b,off,none⟩∧b<w.1.size∧VC w b off us)∧∀i u,us[i]? =some u->NatAt w u (10^(19*2^i))
def PowAt.be(h:PowAt w v k)(a:Below w.1.size w w'):PowAt w' v k:=by
 obtain⟨A,c,us,hv,f,j,e,l⟩:=h;refine⟨A,c,us,hv,f,j,?_,fun i u h=>(l i u h).be a⟩;rcases e with h|⟨b,m,rfl,d,g⟩
 ·exact .inl h
 ·exact .inr ⟨b,m,rfl,aZ d a.size,g.be a d⟩
def PowAt.cut{c:Nat}(h:PowAt w (.slice A k c) k)(o:j<=k):PowAt w (.slice A j c) j:=by
 obtain⟨l,m,us,hv,n,p,a,f⟩:=h;simp only[Value.slice.injEq] at hv;obtain⟨rfl, -,rfl⟩:=hv;refine⟨A,c,us.take j,rfl,by omega,by rw[bK];omega,?_,fun i u h=>f i u (by rw[fC] at h;split at h;exact h;cases h)⟩;rcases a with h|⟨b,g,rfl,d,e⟩
 ·exact .inl (by omega)
 ·exact .inr ⟨b,g,rfl,d,e.take j⟩
def GU(S:Nat):nl (10^S)<=S+1:=by
 refine cJ ?_;rw[dH];have a:10^S<=BN^S:=aqN (by decide) _;have b:0<BN^S:=eQ (by decide);have c:BN^S*2<=BN^S*BN:=eV _ N8;omega
def BC(j:Nat)(a:j<=40):∃S:Nat,(19:Int)*2^j=(S:Int)∧Hid (S=19*2^j)∧S<=20890720927744∧19<=S:=by
 have b:2^j<=2^40:=fT (by decide) a;have c:0<2^j:=eQ (by decide);refine⟨19*2^j,by push_cast;rfl,rfl,?_,by omega⟩;have d:(2:Nat)^40=1099511627776:=by decide
 omega
def BD(N:Nat):Prop:=∀(k:Nat) (s:ByteArray) (v:Value) (w:World),k<N->k<=40->Digs s.data.toList->s.size<=1099511627776->PowAt w v k->Calls prog 162 #[.string s,v] w (BB w (aO s.data.toList))
def SG(N:Nat)(Q:BD N):BD (N+1):=by
 intro k s v w hN aw m hl K;have B:=SM s w m hl;have C:=aB K;obtain⟨A,c,us,rfl,hc,af,D,L⟩:=K;go_enter func162,ntmps162;go_wp2_with fail;go_loop [5] (fun i=>∃q:Int, -1<=q∧q<k∧i= .int .i64 q) (fun i=>(intOf i+1).toNat)
 case atStart=>exact⟨(k:Int)-1,by omega,by omega,rfl⟩
 case round=>
  obtain⟨q,a3,ah,rfl⟩:=hrel;by_cases ag:0<=q
  ·obtain⟨j,rfl⟩:=j7 ag;obtain⟨S,hS,U,an,ao⟩:=BC j (by omega);by_cases aq:s.size<=S
   ·have ae:(s.size:Int)<=S:=by omega
    go_wp2_with fail;go_round
    case rel=>exact⟨(j:Int)-1,by omega,by omega,rfl⟩
    case measure=>simp[intOf]
   ·have ae:¬(s.size:Int)<=S:=by omega
    by_cases am:s.size<=570
    ·go_wp2_with fail;refine B.mono ?_;rintro e d ⟨R,rfl,h,ac,a⟩;go_wp2;go_ret;exact⟨_,rfl,h,a⟩
    ·obtain⟨b,l,rfl,f,P⟩:=D.resolve_left (by omega);obtain⟨u,n⟩:∃u,us[j]? =some u:=⟨_,aR (by omega)⟩;have g:=P j u n;have y:=L j u n;rw[<-U.out] at y;obtain⟨z,hz,a4,W⟩:∃z:Nat,z<=s.size∧(s.size:Int)-S=(z:Int)∧Hid (z+S=s.size):=⟨s.size-S,by omega,by omega,by unfold Hid;omega⟩;have I:(s.extract 0 z).data.toList=s.data.toList.take z:=by rw[mP,azZ]
     have J:(s.extract z s.size).data.toList=s.data.toList.drop z:=by rw[mP,cZ (by simp)]
     have ab:(s.extract 0 z).size<=1099511627776:=by rw[ByteArray.size_extract];omega
     have Z:(s.extract z s.size).size<=1099511627776:=by rw[ByteArray.size_extract];omega
     have o:=aB I;have r:=aB J;have O:aO s.data.toList=aO (s.data.toList.take z)*10^S+aO (s.data.toList.drop z):=by
      conv=>lhs;rw[<-List.take_append_drop z s.data.toList,pF]
      rw[gG];have:s.data.toList.length=s.size:=by simp
      rw[this,show s.size-z=S by have:=W.out;omega]
     have V:=aB O;have az:=oJ (m.take z);have a0:=oJ (m.drop z);have ax:(s.data.toList.take z).length<=z:=List.length_take_le _ _;have ay:(s.data.toList.drop z).length<=s.size:=by rw[gG];simp
     have a2:=GU S;have al:=aB n;have hw:w.1.size<=w.1.size:=aE;clear I J O n P L af D B;have ar:(0:Int)<=(j:Int):=by omega
     have au:(j:Int)<(k:Int):=ah;have av:j<=c:=by omega
     have H:=fun d (f:Below w.1.size w d)=>Q j (s.extract 0 z) (.slice (some ⟨b,l,none⟩) j c) d (by omega) (by omega) (by rw[o.out];exact m.take z) ab ((C.out.be f).cut (by omega));have Y:=fun d (f:Below w.1.size w d)=>Q j (s.extract z s.size) (.slice (some ⟨b,l,none⟩) j c) d (by omega) (by omega) (by rw[r.out];exact m.drop z) Z ((C.out.be f).cut (by omega));go_wp2_with fail
     go_region_held3 (fun w'=>w'.cell? ⟨b,l+j,none⟩=some u) (first|go_keep|(exact(a.cell (p:=⟨b,l+j,none⟩) f).trans g)|(exact(x.cell (p:=⟨b,l+j,none⟩) (aZ f a.size)).trans ((a.cell (p:=⟨b,l+j,none⟩) f).trans g))) (first
      |(go_at_call 162;refine(H _ ((aG _ _).drew)).mono ?_;rintro e1 d ⟨R,rfl,h,a⟩)
      |(go_at_call 69;refine(qN _ _ _ _ _ h ((y.drew).be a) (by rw[o.out];unfold aJ;omega)).mono ?_;rintro e2 T ⟨v2,rfl,M,ad,x⟩))
     have E:Below w.1.size w d:=((aG w.1.size w).drew).trans a;have t:Below w.1.size w T:=aC E x;rw[o.out] at M;have a1:=fI (aO (s.data.toList.take z)) (10^S);clear h ad a x g y H;have ai:NatAt T.drew v2 (aO (s.data.toList.take z)*10^S):=M;go_wp2_with fail
     go_region_held3 (fun _=>True) (trivial) (first
      |(go_at_call 162;refine(Y _ (t.drew)).mono ?_;rintro e3 w3 ⟨v3,rfl,aj,G⟩)
      |(go_at_call 110;refine(rP _ _ _ _ _ (ai.be G) aj (by omega) (by rw[r.out];omega)).mono ?_;rintro e4 w4 ⟨v4,rfl,ak,ap,X⟩))
     go_wp2;go_ret;have F:Below w.1.size w w3:=(t.drew).trans (G.mono t.size);exact⟨_,rfl,by rw[V.out,<-r.out];exact ak,aC F X⟩
  ·obtain rfl:q= -1:=by omega
   go_wp2_with fail;refine B.mono ?_;rintro e d ⟨R,rfl,h,ac,a⟩;go_wp2;go_ret;exact⟨_,rfl,h,a⟩
def SH(N:Nat):BD N:=by
 induction N with
 |zero=>intro k s v w h;omega
 |succ N a=>exact SG N a
def GV(k:Nat)(s:ByteArray)(v:Value)(w:World)(b:k<=40)(a:Digs s.data.toList)(c:s.size<=1099511627776)(d:PowAt w v k):
  Calls prog 162 #[.string s,v] w (BB w (aO s.data.toList)):=SH (k+1) k s v w (aqC _) b a c d
def OwnP(w:World)(B:Nat)(v:Value)(us:List Value):Prop:=w.ownsRow B 75 1 v us.length us∧∀i u,us[i]? =some u->NatAt w u (10^(19*2^i))∧∀g,v.ownBlock=some g->u.ownBlock≠some g
def BE:(Tryz.prog.info? 75).map (fun i=>(i.zero,i.size,i.bytes))=some (some (.slice none 0 0),1,24):=by kernel_rfl
def OwnP.pow{us:List Value}(h:OwnP w B v us):PowAt w v us.length:=by
 obtain⟨⟨_,j⟩,b⟩:=h;rcases j with ⟨rfl,e⟩|⟨g,d,f,rfl,l,c,hn,m,n,k⟩
 ·exact⟨none,0,us,by rw[e],by omega,rfl,.inl e,fun i u a=>(b i u a).1⟩
 ·refine⟨_,d,us,rfl,hn,rfl,.inr ⟨g,0,rfl,(Array.getElem?_eq_some_iff.1 c).1,?_⟩,fun i u a=>(b i u a).1⟩;intro i u a;rw[cell_of_row w g (0+i) f _ (0,0) c,bA,<-Array.getElem?_toList];rw[<-k,fC] at a;split at a
  ·exact a
  ·cases a
def OwnP.push{us:List Value}(h:OwnP w B v us)(r:NatAt w u (10^(19*2^us.length)))(hv:∀g,v.ownBlock=some g->u.ownBlock≠some g)
  (q:w'.ownsRow B 75 1 b (us.length+1) (us++[u]))(m:(w.alloc o).grownBy w' v.ownBlock)(l:b.ownBlock=v.ownBlock∨b.ownBlock=some (w.alloc o).1.size):OwnP w' B b (us++[u]):=by
 have j:∀x n,NatAt w x n->(∀g,v.ownBlock=some g->x.ownBlock≠some g)->NatAt w' x n∧∀g,b.ownBlock=some g->x.ownBlock≠some g:=by
  intro x n a f;refine⟨(a.be ((aG _ _).alloc aE _)).grown m f,fun g e d=> ?_⟩;rcases l with h|h
  ·exact f g (by rw[<-h];exact e) d
  ·rw[h] at e;injection e with e;have:=a.block d;simp at e;omega
 refine⟨by rw[bN];exact q,fun i x a=> ?_⟩;rcases dE i us.length with c|c
 ·rw[gA c] at a;exact j x _ (h.2 i x a).1 (h.2 i x a).2
 ·rw[fK c] at a;have p:i=us.length:=by
   rcases dE i (us.length+1) with k|k
   ·omega
   ·rw[fU (by simp;omega)] at a;cases a
  subst p;simp at a;subst a;exact j u _ r hv
def OwnP.nil(w:World)(B:Nat):OwnP w B (.slice none 0 0) []:=⟨World.ownsRow_nil w B _ _,fun i u h=>by cases h⟩
def OwnP.belowE{us:List Value}(h:OwnP w B v us)(a:Below w.1.size w w'):OwnP w' B v us:=by
 refine⟨World.ownsRow.kept h.1 (rL a none) ?_,fun i u b=>⟨(h.2 i u b).1.be a,(h.2 i u b).2⟩⟩;cases v.ownBlock with
 |none=>exact .inl rfl
 |some g=>exact .inr (by simp)
def NatAt.oneCell(h:NatAt w v n):∀u∈[v],u.oneCell'=true:=by
 obtain⟨A,c,rfl,_⟩:=h;intro u a;rw[by4] at a;subst a;rfl
def SI(s:ByteArray)(w:World)(E:Digs s.data.toList)(F:s.size<=1099511627776):
  Calls prog 135 #[.string s] w (BB w (aO s.data.toList)):=by
 by_cases am:570<s.size
 ·have V:(570:Int)<(s.size:Int):=by omega
  have H:NatAt (w.alloc (.cells #[.int .u64 10000000000000000000] 143)) (.slice (some ⟨w.1.size,0,none⟩) 1 1) (10^(19*2^([]:List Value).length)):=eqE w 10000000000000000000 (by decide) (by decide) 143;go_enter func135,ntmps135;go_wp2_with (at_builtin;(refine gM rfl rfl 75 _ 1 24 underlying203 BE rfl (by decide) w.1.size (.slice none 0 0) 0 [] rfl (World.ownsRow_nil _ _ _ _) [Value.slice (some ⟨w.1.size,0,none⟩) 1 1] rfl (by simp) (FG _ _ _ _ (by simp)) (by simp[Value.oneCell']) (by omega) (by omega) (by simp;omega) ?_);intro q1 P r a o);have C:=OwnP.push (OwnP.nil _ w.1.size) H (by intro g e;cases e) (by simpa using r) a o;have p:Below w.1.size w P:=(((aG _ _).alloc aE _).alloc (by simp) _).grown a (by simp;omega) (by intro k y;cases y);clear r a o H;go_wp2_with fail;go_loopg [3] 39 (fun k q wr=>∃us,Hid (us.length+k=40)∧1<=us.length∧Hid (19*2^(us.length-1)<s.size)∧OwnP wr w.1.size q us∧Below w.1.size w wr)
  case atStart=>exact⟨[Value.slice (some ⟨w.1.size,0,none⟩) 1 1],rfl,by simp,by unfold Hid;simp;omega,C,p⟩
  case round=>
   obtain⟨us,R,v,t,d,j⟩:=hrel;clear C p;have au:us.length<=37:=by
    rcases dE 37 us.length with h|h
    ·exfalso;have h2:2^37<=2^(us.length-1):=fT (by decide) (by omega);have h3:=t.out;have h4:(2:Nat)^37=137438953472:=by decide
     omega
    ·exact h
   obtain⟨S,hS,U,an,ao⟩:=BC us.length (by omega);have z:=aB d;have L:=d.pow;rcases d.1.2 with ⟨_,e⟩|⟨g,A,B,rfl,hb,x,hn,G,hs,M⟩
   ·omega
   by_cases ae:S<s.size
   ·have af:(S:Int)<s.size:=by omega
    obtain⟨A',c',a0,O,aq,ad,W,aj⟩:=L;simp only[Value.slice.injEq] at O;obtain⟨rfl, -,rfl⟩:=O;obtain⟨u,N⟩:∃u,us[us.length-1]? =some u:=⟨_,aR (by omega)⟩;have gc:wr.cell? ⟨g,us.length-1,none⟩=some u:=by
     rw[cell_of_row wr g _ B _ (0,0) x,<-Array.getElem?_toList];have v:(B.toList.take (us.length*1))[us.length-1]? =us[us.length-1]? :=by rw[M]
     rw[fC,if_pos (by omega)] at v;rw[v];exact N
    obtain⟨J,I⟩:=z.out.2 _ _ N;have aw:=GU (19*2^(us.length-1));have ai:=t.out;have ac:g<wr.1.size:=(Array.getElem?_eq_some_iff.1 x).1;have K:10^(19*2^(us.length-1))*10^(19*2^(us.length-1))=10^(19*2^us.length):=by
     rw[<-KF];congr 1;obtain⟨m,G⟩:∃m,us.length=m+1:=⟨us.length-1,by omega⟩;rw[G,mD,dH];omega
    have T:=aB K;clear ad W aj M hs x d K ai;generalize 10^(19*2^(us.length-1))=X at *;have ap:nl X<=1099511627777:=by have:=t.out;omega
    go_wp2_with fail;refine(qN X X _ _ _ J J (by unfold aJ;omega)).mono ?_;rintro e Q ⟨v2,rfl,l,ab,f⟩;obtain⟨b,c,rfl,ar,ax,av⟩:=id l;have al:NatAt Q (Value.slice b (nl (X*X)) c) (10^(19*2^us.length)):=by rw[<-T.out];exact l
    have ag:∀n,(Value.slice (some ⟨g,0,none⟩) us.length A).ownBlock=some n->(Value.slice b (nl (X*X)) c).ownBlock≠some n:=by
     intro n e;have:g=n:=by simpa [Value.ownBlock] using e
     subst this;exact ab.ne2 ac (I _ rfl) (I _ rfl)
    have D:=z.out.belowE f;have ah:=l.oneCell;have ay:=j.size;have az:=f.size;go_wp2_with (at_builtin;(refine gM rfl rfl 75 _ 1 24 underlying203 BE rfl (by decide) w.1.size (.slice (some ⟨g,0,none⟩) us.length A) us.length us rfl (D.1.alloc _) [(Value.slice b (nl (X*X)) c)] rfl (by simp) (F9 _ _ _) ah (by omega) (by omega) (by simp;omega) ?_);intro q1 w3 r a o);have Y:=OwnP.push D al ag r a o
    have Z:Below w.1.size w w3:=((aC j f).alloc (by omega) _).grown a (by simp;omega) (fun k y=>by
     have:g=k:=by simpa [Value.ownBlock] using y
     omega)
    go_wp2;go_roundg (40-(us++[(Value.slice b (nl (X*X)) c)]).length)
    case measure=>have:=R.out;simp;omega
    case rel=>
     refine⟨us++[(Value.slice b (nl (X*X)) c)],by unfold Hid;simp;omega,by simp,?_,Y,Z⟩;unfold Hid;rw[bN,iJ,mD,<-U.out];exact ae
   ·have af:¬(S:Int)<s.size:=by omega
    clear d;go_wp2_with fail;refine(GV us.length s _ _ (by omega) E F L).mono ?_;rintro e Q ⟨v2,rfl,l,f⟩;go_wp2;go_ret;exact⟨_,rfl,l,aC j f⟩
 ·have V:¬(570:Int)<(s.size:Int):=by omega
  have hp:PowAt w (.slice none 0 0) 0:=⟨none,0,[],rfl,aE,rfl,.inl rfl,fun i u h=>by cases h⟩;go_enter func135,ntmps135;go_wp2_with fail;refine(GV 0 s _ _ (by omega) E F hp).mono ?_;rintro e P ⟨v1,rfl,ak,p⟩;go_wp2;go_ret;exact⟨_,rfl,ak,p⟩
def Bx(w:World)(b:Nat)(cs:List Value)(t:TypeId):Prop:=w.heap[b]? =some (.cells cs.toArray t (0,0))
section
variable {w w':World}{b:Nat}{cs:List Value}{t:TypeId}
def Bx.new(w:World)(cs:List Value)(t:TypeId):Bx (w.alloc (.cells cs.toArray t)) w.1.size cs t:=by show(w.heap.push _)[w.1.size]? =_;simp
def Bx.newAt(w:World)(cs:List Value)(t:TypeId)(g:Nat)(a:w.1.size=g):Bx (w.alloc (.cells cs.toArray t)) g cs t:=by subst a;exact Bx.new w cs t
def Bx.lt(h:Bx w b cs t):b<w.1.size:=(Array.getElem?_eq_some_iff.1 h).1
def Bx.cell(h:Bx w b cs t)(i:Nat)(hv:cs[i]? =some v):w.cell? ⟨b,i,none⟩=some v:=by
 unfold Bx at h;simp[World.cell?,h,hv]
def Bx.free(h:Bx w b cs t)(j:Nat):w.frozen? ⟨b,j,none⟩=false:=frozen_of_row w b j _ t h
def Bx.be(h:Bx w b cs t)(a:Below w.1.size w w'):Bx w' b cs t:=(a.block b h.lt).trans h
def Bx.belowB(h:Bx w b cs t)(a:Below B w w')(c:b<B):Bx w' b cs t:=(a.block b c).trans h
def Bx.alloc(h:Bx w b cs t)(o:Obj):Bx (w.alloc o) b cs t:=(Below.heap_alloc w o b h.lt).trans h
def Bx.drew(h:Bx w b cs t):Bx w.drew b cs t:=h
def Bx.far(h:Bx w b cs t)(o:Nat)(v:Value)(a:g≠b):Bx (w.setCell ⟨g,o,none⟩ v) b cs t:=(Below.heap_setCell w ⟨g,o,none⟩ v b (fun e=>a e.symm)).trans h
def Bx.set(h:Bx w b cs t)(i:Nat)(v:Value):Bx (w.setCell ⟨b,i,none⟩ v) b (cs.set i v) t:=by
 unfold Bx at h⊢;simp[World.setCell,byY,h]
end
def NoInt(c:Value):Prop:=∀k x,c≠ .int k x
def NoInt.bool(s:Bool):NoInt (.bool s):=fun _ _ h=>by cases h
def NoInt.slice(A:Option Addr)(n c:Nat):NoInt (.slice A n c):=fun _ _ h=>by cases h
def NoInt.string(s:ByteArray):NoInt (.string s):=fun _ _ h=>by cases h
def NatAt.put(h:NatAt w u n)(a:w.cell? p=some c)(g:NoInt c)(v:Value):NatAt (w.setCell p v) u n:=by
 obtain⟨A,f,hv,j,d,o⟩:=h;refine⟨A,f,hv,j,?_,o.mono (by simp)⟩;rcases d with d|⟨b,q,rfl,m,k⟩
 ·exact .inl d
 ·refine .inr ⟨b,q,rfl,by simpa using m,fun i l=> ?_⟩;have e:=k i l;rw[World.cell?_setCell_other _ _ _ _ ?_,e];rintro rfl;rw[e] at a;injection a with a;exact g _ _ a.symm
def IntAt.put{n:Int}(h:IntAt w u n)(e:w.cell? p=some c)(d:NoInt c)(v:Value):IntAt (w.setCell p v) u n:=by
 obtain⟨a,f,hn⟩:=h;exact⟨a,f,hn.put e d v⟩
def Keep(w w':World):Prop:=∀u n,NatAt w u n->NatAt w' u n
def Keep.refl(w:World):Keep w w:=fun _ _ h=>h
def Keep.trans{a b c:World}(h:Keep a b)(k:Keep b c):Keep a c:=fun u n d=>k u n (h u n d)
def Keep.be(a:Below w.1.size w w'):Keep w w':=fun _ _ h=>h.be a
def Keep.alloc(w:World)(o:Obj):Keep w (w.alloc o):=Keep.be ((aG _ _).alloc aE _)
def Keep.put(d:w.cell? p=some c)(a:NoInt c)(v:Value):Keep w (w.setCell p v):=fun _ _ h=>h.put d a v
def NatAt.ke(h:NatAt w v n)(a:Keep w w'):NatAt w' v n:=a _ _ h
def IntAt.ke{n:Int}(h:IntAt w v n)(a:Keep w w'):IntAt w' v n:=by
 obtain⟨u,hv,c⟩:=h;exact⟨u,hv,a _ _ c⟩
def IntAt.drew{n:Int}(h:IntAt w u n):IntAt w.drew u n:=h
def IntAt.form{n:Int}(h:IntAt w v n):∃s A k c,v= .agg #[.bool s,.slice A k c]:=by
 obtain⟨u,rfl,A,c,rfl,_⟩:=h;exact⟨_,_,_,_,rfl⟩
def IntAt.words{n:Int}(h:IntAt w (.agg #[.bool s,u]) n):NatAt w u n.natAbs:=by
 obtain⟨a,e,h⟩:=h;simp at e;rw[e.2];exact h
def IntAt.neg{n:Int}(h:IntAt w (.agg #[.bool s,u]) n):s=decide (n<0):=by
 obtain⟨a,e,h⟩:=h;simp at e;exact e.1
def IntAt.of{n:Int}(h:NatAt w u n.natAbs)(a:s=decide (n<0)):IntAt w (.agg #[.bool s,u]) n:=⟨u,by rw[a],h⟩
def IntAt.zero(w:World):IntAt w (.agg #[.bool false,.slice none 0 0]) 0:=IntAt.of (NatAt.nil w) (by simp)
def jU{a:World}{b:Nat}{k:Bool}{g:Option Addr}{h:Nat}(i:Below B w a)(e:B<=b)(f:Bx a b [.bool k,.slice g j h] t):
  let W:=(a.setCell ⟨b,0,none⟩ (.bool s)).setCell ⟨b,1,none⟩ u
  W.cell? ⟨b,0,none⟩=some (.bool s)∧W.cell? ⟨b,1,none⟩=some u∧Bx W b [.bool s,u] t∧Below B w W∧Keep a W:=by
 have d:=(f.set 0 (.bool s));have c:=d.set 1 u;refine⟨c.cell 0 rfl,c.cell 1 rfl,c,?_,?_⟩
 ·exact(i.setCell (p:=⟨b,0,none⟩) (by simpa using e) _).setCell (p:=⟨b,1,none⟩) (by simpa using e) _
 ·exact(Keep.put (f.cell 0 rfl) (NoInt.bool _) _).trans (Keep.put (d.cell 1 rfl) (NoInt.slice _ _ _) _)
def FE(s:ByteArray)(w:World)(j:Digs s.data.toList)(k:s.size<=1099511627776):
  Calls prog 95 #[.string s] w (dW w ((aO s.data.toList:Nat):Int)):=by
 have R:=Bx.new w [.bool false,.slice none 0 0] 77;have a:Below w.1.size w (w.alloc (.cells #[.bool false,.slice none 0 0] 77)):=(aG _ _).alloc aE _;have f:=fun W=>SI s W j k;generalize aO s.data.toList=m at *;go_enter func95,ntmps95;go_wp2_with fail;generalize w.alloc (.cells #[.bool false,.slice none 0 0] 77)=W at *;refine(f _).mono ?_;rintro r n ⟨B,rfl,g,e⟩;obtain⟨c,d,rfl, -, -, -⟩:=id g;have R:=R.be e;have z:=R.cell 0 rfl;have A:=R.cell 1 rfl;have x:=R.free 0;have y:=R.free 1;have a:=aC a e;clear f;go_wp2_with fail;obtain⟨o,p, -,i,h⟩:=jU (s:=false) (u:= .slice c (nl m) d) a aE R;have l:=h _ _ g;generalize (n.setCell ⟨w.1.size,0,none⟩ (.bool false)).setCell ⟨w.1.size,1,none⟩ (.slice c (nl m) d)=q at *;exact aM (v:= .agg #[.bool false,.slice c (nl m) d]) (by simp[results,results95,go_sem,o,p]) rfl ⟨_,rfl,IntAt.of l (by simp),i⟩
def vQ(a:Bool)(u:Value)(m:Nat)(n:Int)(w:World)(d:NatAt w u m)(f:nl m<=17592186044416)(hn:n=if a then -(m:Int) else m):
  Calls prog 68 #[.bool a,u] w (dW w n):=by
 refine(p7 a u m n w d f hn).mono ?_;rintro e w' ⟨rfl,c⟩;refine⟨_,rfl,IntAt.of ?_ rfl,c⟩;have:n.natAbs=m:=by subst hn;cases a<;>simp
 rw[this];exact d.be c
def OL(w:World)(s:Bool)(u:Value)(n:Int)(e:Ending)(w':World):Prop:=∃a,e= .returned (.agg #[.bool a,u])∧IntAt w' (.agg #[.bool a,u]) n∧Below w.1.size w w'
def OM(x:Int)(s:Bool)(A:Option Addr)(k c:Nat)(w:World)(o:IntAt w (.agg #[.bool s,.slice A k c]) x)(y:nl x.natAbs<=17592186044416):
  Calls prog 96 #[.agg #[.bool s,.slice A k c]] w (OL w s (.slice A k c) (-x)):=by
 have i:=(Bx.new w [.bool s,.slice A k c] 77).alloc (.cells #[.bool false,.slice none 0 0] 77);have R:=Bx.new (w.alloc (.cells #[.bool s,.slice A k c] 77)) [.bool false,.slice none 0 0] 77;have a:Below w.1.size w ((w.alloc (.cells #[.bool s,.slice A k c] 77)).alloc (.cells #[.bool false,.slice none 0 0] 77)):=((aG _ _).alloc aE _).alloc (by simp) _;have z:w.1.size<=(w.alloc (.cells #[.bool s,.slice A k c] 77)).1.size:=by simp
 have e:=o.words.be a;have n: -x=if (!s) then -((x.natAbs:Nat):Int) else ((x.natAbs:Nat):Int):=by
  rw[o.neg];by_cases h:x<0<;>simp[h]<;>omega
 have p:=aB n;obtain⟨d,j⟩:∃d,Hid (decide (-x<0)=d):=⟨_,rfl⟩;clear n;have G:=i.cell 0 rfl;have H:=i.cell 1 rfl;have m:=fun W (h:NatAt W (.slice A k c) x.natAbs)=>p7 (!s) _ _ (-x) W h y p.out;rw[j.out] at m;go_enter func96,ntmps96;go_wp2_with fail;generalize l:(w.alloc (.cells #[.bool s,.slice A k c] 77)).1.size=g at *;generalize (w.alloc (.cells #[.bool s,.slice A k c] 77)).alloc (.cells #[.bool false,.slice none 0 0] 77)=W at *;refine(m _ e).mono ?_;rintro I C ⟨rfl,f⟩;have R:=R.be f;have L:=R.cell 0 rfl;have M:=R.cell 1 rfl;have J:=R.free 0;have K:=R.free 1;have a:=aC a f;have e:=e.be f;rw[World.size_alloc] at l;subst l;go_wp2_with fail;obtain⟨D,E, -,r,q⟩:=jU (s:=d) (u:= .slice A k c) a z R;have B:=q _ _ e;generalize (C.setCell ⟨w.1.size+1,0,none⟩ (.bool d)).setCell ⟨w.1.size+1,1,none⟩ (.slice A k c)=F at *;exact aM (v:= .agg #[.bool d,.slice A k c]) (by simp[results,results96,go_sem,D,E]) rfl ⟨_,rfl,IntAt.of (by rw[azJ];exact B) j.out.symm,r⟩
abbrev C1(w:World)(b:Nat)(v0:Value):Prop:=w.cell? ⟨b,0,none⟩=some v0
abbrev C2(w:World)(b:Nat)(v0 v1:Value):Prop:=w.cell? ⟨b,0,none⟩=some v0∧w.cell? ⟨b,1,none⟩=some v1
abbrev C3(w:World)(b:Nat)(v0 v1 v2:Value):Prop:=w.cell? ⟨b,0,none⟩=some v0∧w.cell? ⟨b,1,none⟩=some v1∧w.cell? ⟨b,2,none⟩=some v2
abbrev C4(w:World)(b:Nat)(v0 v1 v2 v3:Value):Prop:=w.cell? ⟨b,0,none⟩=some v0∧w.cell? ⟨b,1,none⟩=some v1∧w.cell? ⟨b,2,none⟩=some v2∧w.cell? ⟨b,3,none⟩=some v3
abbrev Fz(w:World)(b:Nat):Prop:=∀j,w.frozen? ⟨b,j,none⟩=false
def aa{p q:Prop}(h:p)(k:q):p∧q:=⟨h,k⟩
section
variable {w W:World}{b g o B:Nat}{t:TypeId}{v0 v1 v2 v3 u:Value}{cs:List Value}
def Bx.k1(h:Bx w b [v0] t):C1 w b v0:=h.cell 0 rfl
def Bx.k2(h:Bx w b [v0,v1] t):C2 w b v0 v1:=⟨h.cell 0 rfl,h.cell 1 rfl⟩
def Bx.k3(h:Bx w b [v0,v1,v2] t):C3 w b v0 v1 v2:=⟨h.cell 0 rfl,h.cell 1 rfl,h.cell 2 rfl⟩
def Bx.k4(h:Bx w b [v0,v1,v2,v3] t):C4 w b v0 v1 v2 v3:=⟨h.cell 0 rfl,h.cell 1 rfl,h.cell 2 rfl,h.cell 3 rfl⟩
def Bx.g1(h:Bx w b [v0] t):C1 w b v0∧Fz w b:=⟨h.k1,h.free⟩
def Bx.g2(h:Bx w b [v0,v1] t):C2 w b v0 v1∧Fz w b:=⟨h.k2,h.free⟩
def Bx.g3(h:Bx w b [v0,v1,v2] t):C3 w b v0 v1 v2∧Fz w b:=⟨h.k3,h.free⟩
def Bx.g4(h:Bx w b [v0,v1,v2,v3] t):C4 w b v0 v1 v2 v3∧Fz w b:=⟨h.k4,h.free⟩
def fQ(a:g≠b)(h:C2 w b v0 v1):C2 (w.setCell ⟨g,o,none⟩ u) b v0 v1:=⟨(aL _ _ _ _ _ _ a).trans h.1,(aL _ _ _ _ _ _ a).trans h.2⟩
def kK(a:g≠b)(h:C4 w b v0 v1 v2 v3):C4 (w.setCell ⟨g,o,none⟩ u) b v0 v1 v2 v3:=
 ⟨(aL _ _ _ _ _ _ a).trans h.1,(aL _ _ _ _ _ _ a).trans h.2.1,(aL _ _ _ _ _ _ a).trans h.2.2.1,(aL _ _ _ _ _ _ a).trans h.2.2.2⟩
def bI(w:World)(a:List Value)(c:TypeId):∃W,w.alloc (.cells a.toArray c)=W∧Below w.1.size w W∧Bx W w.1.size a c:=
 ⟨_,rfl,(aG _ _).alloc aE _,Bx.new _ _ _⟩
def DA(w:World)(a:List Value)(c:TypeId)(d:List Value)(e:TypeId):∃W,(w.alloc (.cells a.toArray c)).alloc (.cells d.toArray e)=W∧Below w.1.size w W∧Bx W w.1.size a c∧Bx W (w.1.size+1) d e:=by
 obtain⟨W,rfl,h,f⟩:=bI w a c;exact⟨_,rfl,h.alloc h.size _,f.alloc _,Bx.newAt _ _ _ _ (World.size_alloc _ _)⟩
def gE(w:World)(a:List Value)(d:TypeId)(c:List Value)(e:TypeId)(f:List Value)(i:TypeId):
  ∃W,((w.alloc (.cells a.toArray d)).alloc (.cells c.toArray e)).alloc (.cells f.toArray i)=W∧Below w.1.size w W∧Bx W w.1.size a d∧Bx W (w.1.size+1) c e∧Bx W (w.1.size+1+1) f i:=by
 obtain⟨W,rfl,h,j,k⟩:=DA w a d c e;exact⟨_,rfl,h.alloc h.size _,j.alloc _,k.alloc _,Bx.newAt _ _ _ _ (by simp)⟩
def BL(w:World)(a:List Value)(e:TypeId)(c:List Value)(f:TypeId)(d:List Value)(i:TypeId)(j:List Value)(k:TypeId):
  ∃W,(((w.alloc (.cells a.toArray e)).alloc (.cells c.toArray f)).alloc (.cells d.toArray i)).alloc (.cells j.toArray k)=W∧Below w.1.size w W∧Bx W w.1.size a e∧Bx W (w.1.size+1) c f∧Bx W (w.1.size+1+1) d i∧Bx W (w.1.size+1+1+1) j k:=by
 obtain⟨W,rfl,h,l,m,n⟩:=gE w a e c f d i;exact⟨_,rfl,h.alloc h.size _,l.alloc _,m.alloc _,n.alloc _,Bx.newAt _ _ _ _ (by simp)⟩
def cS:Option Value->Bool
 |some (.bool _)=>true
 |some (.string _)=>true
 |some (.slice _ _ _)=>true
 |_=>false
def Bx.put1(h:Bx W b cs t)(f:Below B w W)(d:B<=b)(i:Nat)(v:Value)(hn:cS cs[i]? =true):
  ∃a,W.setCell ⟨b,i,none⟩ v=a∧Bx a b (cs.set i v) t∧Below B w a∧Keep W a∧∀{g:Nat} {cs:List Value} {t:TypeId},Bx W g cs t->b≠g->Bx a g cs t:=by
 refine⟨_,rfl,h.set i v,f.setCell (p:=⟨b,i,none⟩) d v,?_,fun k j=>k.far i v j⟩;cases hc:cs[i]? with
 |none=>rw[hc] at hn;cases hn
 |some c=>
  rw[hc] at hn;refine Keep.put (h.cell i hc) (fun k x e=> ?_) v;subst e;cases hn
def Bx.put2(h:Bx W b cs t)(q:Below B w W)(e:B<=b)(v0 v1:Value){d:Value}(r:cs=[c,d])(hn:(cS (some c)&&cS (some d))=true):
  ∃a,(W.setCell ⟨b,0,none⟩ v0).setCell ⟨b,1,none⟩ v1=a∧Bx a b [v0,v1] t∧Below B w a∧Keep W a∧∀{g:Nat} {cs:List Value} {t:TypeId},Bx W g cs t->b≠g->Bx a g cs t:=by
 subst r;simp only[az7] at hn;obtain⟨x,rfl,n,i,s,l⟩:=h.put1 q e 0 v0 hn.1;obtain⟨y,rfl,p,j,v,m⟩:=n.put1 i e 1 v1 hn.2;exact⟨_,rfl,p,j,s.trans v,fun k f=>m (l k f) f⟩
def Bx.put3(h:Bx W b cs t)(x:Below B w W)(c:B<=b)(v0 v1 v2:Value)(y:cs=[e,f,i])(hn:(cS (some e)&&(cS (some f)&&cS (some i)))=true):
  ∃a,((W.setCell ⟨b,0,none⟩ v0).setCell ⟨b,1,none⟩ v1).setCell ⟨b,2,none⟩ v2=a∧Bx a b [v0,v1,v2] t∧Below B w a∧Keep W a∧∀{g:Nat} {cs:List Value} {t:TypeId},Bx W g cs t->b≠g->Bx a g cs t:=by
 subst y;simp only[az7] at hn;obtain⟨D,rfl,r,j,z,n⟩:=h.put1 x c 0 v0 hn.1;obtain⟨E,rfl,s,l,A,p⟩:=r.put1 j c 1 v1 hn.2.1;obtain⟨F,rfl,v,m,C,q⟩:=s.put1 l c 2 v2 hn.2.2;exact⟨_,rfl,v,m,(z.trans A).trans C,fun k d=>q (p (n k d) d) d⟩
def Bx.put4(h:Bx W b cs t)(C:Below B w W)(c:B<=b)(v0 v1 v2 v3:Value){j:Value}(D:cs=[e,f,i,j])(hn:(cS (some e)&&(cS (some f)&&(cS (some i)&&cS (some j))))=true):
  ∃a,(((W.setCell ⟨b,0,none⟩ v0).setCell ⟨b,1,none⟩ v1).setCell ⟨b,2,none⟩ v2).setCell ⟨b,3,none⟩ v3=a∧Bx a b [v0,v1,v2,v3] t∧Below B w a∧Keep W a∧∀{g:Nat} {cs:List Value} {t:TypeId},Bx W g cs t->b≠g->Bx a g cs t:=by
 subst D;simp only[az7] at hn;obtain⟨I,rfl,x,l,E,q⟩:=h.put1 C c 0 v0 hn.1;obtain⟨J,rfl,y,m,F,r⟩:=x.put1 l c 1 v1 hn.2.1;obtain⟨K,rfl,z,n,G,s⟩:=y.put1 m c 2 v2 hn.2.2.1;obtain⟨L,rfl,A,p,H,v⟩:=z.put1 n c 3 v3 hn.2.2.2;exact⟨_,rfl,A,p,((E.trans F).trans G).trans H,fun k d=>v (s (r (q k d) d) d) d⟩
end
def OJ(x y:Int)(E F:Value)(w:World)(d:IntAt w E x)(e:IntAt w F y)(N:nl x.natAbs<=17592186044414)(H:nl y.natAbs<=17592186044414):
  Calls prog 128 #[E,F] w (dW w (x-y)):=by
 rw[Int.sub_eq_add_neg];have M:nl (-y).natAbs<=17592186044414:=by rw[azJ];exact H
 obtain⟨C,m,z,p,rfl⟩:=d.form;obtain⟨D,n,A,q,rfl⟩:=e.form;obtain⟨W,r,c,a,b,R⟩:=gE w [.bool C,.slice m z p] 77 [.bool D,.slice n A q] 77 [.bool false,.slice none 0 0] 77;have j:=aa a.g2 (aa b.g2 R.g2);go_enter func128,ntmps128;go_wp2_with fail;(try rw[r]);clear r;have d:=d.be c;have e:=e.be c;replace d:=d.drew;replace e:=e.drew;replace a:=a.drew;replace b:=b.drew;replace R:=R.drew;replace c:=c.drew;replace j:=aa a.k2 (aa b.k2 R.g2);have I:w.1.size+1+1≠w.1.size:=by omega
 have J:w.1.size+1+1≠w.1.size+1:=by omega
 go_region_held3 (fun G=>C2 G w.1.size (.bool C) (.slice m z p)∧C2 G (w.1.size+1) (.bool D) (.slice n A q))
  (first|(with_reducible exact⟨a.k2,b.k2⟩)|(refine⟨?_,?_⟩<;>(repeat (first|with_reducible exact a.k2|with_reducible exact b.k2|with_reducible refine fQ I ?_|with_reducible refine fQ J ?_))))
  (first
   |(go_at_call 96;refine(sQ y _ _ e (by omega)).mono ?_;rintro P X ⟨U,rfl,k,h⟩;obtain⟨T,K,S,O,rfl⟩:=k.form;replace a:=a.be h;replace b:=b.be h;replace R:=R.be h;replace j:=aa a.k2 (aa b.k2 R.g2);replace f:=Keep.be h;replace d:=d.ke f;replace e:=e.ke f;(try replace g:=g.ke f);replace c:=aC c h)
   |(go_at_call 63;refine(rJ x (-y) _ _ _ d k (by omega) (by omega)).mono ?_;rintro Q Y ⟨V,rfl,g,i⟩;obtain⟨B,l,u,o,rfl⟩:=g.form;replace a:=a.be i;replace b:=b.be i;replace R:=R.be i;replace j:=aa a.k2 (aa b.k2 R.g2);replace f:=Keep.be i;replace d:=d.ke f;replace e:=e.ke f;(try replace k:=k.ke f);replace c:=aC c i))
 go_wp2_with fail;obtain⟨L,s,R,c,f,t⟩:=R.put2 c (by omega) (.bool B) (.slice l u o) rfl rfl;replace a:=t a (by omega);replace b:=t b (by omega);replace g:=g.ke f;rw[s];clear s;replace j:=aa a.k2 (aa b.k2 R.k2);exact aM (v:= .agg #[.bool B,.slice l u o]) (by simp[results,results128,go_sem,R.k2]) rfl ⟨_,rfl,g,c⟩
def FA(x y:Int):x.tdiv y=if (!(decide (x<0)==decide (y<0))) then -((x.natAbs/y.natAbs:Nat):Int) else ((x.natAbs/y.natAbs:Nat):Int):=by
 have f:∀a b:Nat,(a:Int).tdiv b=((a/b:Nat):Int):=fun a b=>rfl;by_cases c:x<0<;>by_cases d:y<0
 ·have e:x.tdiv y=(x.natAbs:Int).tdiv y.natAbs:=by
   conv=>lhs;rw[show x= -(x.natAbs:Int) by omega,show y= -(y.natAbs:Int) by omega,Int.neg_tdiv,Int.tdiv_neg,Int.neg_neg]
  rw[e,f];simp[c,d]
 ·have e:x.tdiv y= -(x.natAbs:Int).tdiv y.natAbs:=by
   conv=>lhs;rw[show x= -(x.natAbs:Int) by omega,show y=(y.natAbs:Int) by omega,Int.neg_tdiv]
  rw[e,f];simp[c,d]
 ·have e:x.tdiv y= -(x.natAbs:Int).tdiv y.natAbs:=by
   conv=>lhs;rw[show x=(x.natAbs:Int) by omega,show y= -(y.natAbs:Int) by omega,Int.tdiv_neg]
  rw[e,f];simp[c,d]
 ·have e:x.tdiv y=(x.natAbs:Int).tdiv y.natAbs:=by
   conv=>lhs;rw[show x=(x.natAbs:Int) by omega,show y=(y.natAbs:Int) by omega]
  rw[e,f];simp[c,d]
def FC(x y:Int):x.tmod y=if decide (x<0) then -((x.natAbs%y.natAbs:Nat):Int) else ((x.natAbs%y.natAbs:Nat):Int):=by
 have d:∀a b:Nat,(a:Int).tmod b=((a%b:Nat):Int):=fun a b=>rfl;have f:∀z:Int,z.tmod y=z.tmod y.natAbs:=fun z=>by
  rcases Int.natAbs_eq y with h|h
  ·rw[<-h]
  ·conv=>lhs;rw[h,Int.tmod_neg]
 rw[f];by_cases c:x<0
 ·have e:x.tmod y.natAbs= -(x.natAbs:Int).tmod y.natAbs:=by
   conv=>lhs;rw[show x= -(x.natAbs:Int) by omega,Int.neg_tmod]
  rw[e,d];simp[c]
 ·have e:x.tmod y.natAbs=(x.natAbs:Int).tmod y.natAbs:=by
   conv=>lhs;rw[show x=(x.natAbs:Int) by omega]
  rw[e,d];simp[c]
def FD(w:World)(m n:Int)(e:Ending)(w':World):Prop:=∃u v,e= .returned (.tuple #[u,v])∧IntAt w' u m∧IntAt w' v n∧Below w.1.size w w'
def fq8(x y:Int)(V X:Value)(w:World)(g:IntAt w V x)(f:IntAt w X y)(aj:y≠0)(hl:nl x.natAbs+4*nl y.natAbs+4<=17592186044416):
  Calls prog 155 #[V,X] w (FD w (x.tdiv y) (x.tmod y)):=by
 obtain⟨T,u,E,A,rfl⟩:=g.form;obtain⟨U,z,s,B,rfl⟩:=f.form;have t:=FA x y;have D:=FC x y;rw[<-g.neg] at t D;rw[<-f.neg] at t;have Z:=aB t;have HR:=aB D;have ah:nl (x.natAbs/y.natAbs)<=nl x.natAbs:=cK (azK _ _);have ai:nl (x.natAbs%y.natAbs)<=nl x.natAbs:=cK (bxP _ _);have ab:s=nl y.natAbs:=by
  obtain⟨A',c',e, -⟩:=f.words;simp only[Value.slice.injEq] at e;exact e.2.1
 have ag:((s:Int)==0)=false:=by
  have:=gS (show y.natAbs≠0 by omega);simp;omega
 have C:=fun W (h1:NatAt W (.slice u E A) x.natAbs) (h2:NatAt W (.slice z s B) y.natAbs)=>eqD x.natAbs y.natAbs _ _ W h1 h2 (by omega) (by unfold aJ;omega);unfold pE at C;generalize x.natAbs/y.natAbs=q at *;generalize x.natAbs%y.natAbs=r at *;generalize x.tdiv y=Q at *;generalize x.tmod y=R' at *;clear t D ab;obtain⟨W,K,d,a,b,R,S⟩:=BL w [.bool T,.slice u E A] 77 [.bool U,.slice z s B] 77 [.bool false,.slice none 0 0] 77 [.bool false,.slice none 0 0] 77;have p:=aa a.g2 (aa b.g2 (aa R.g2 S.g2));go_enter func155,ntmps155;go_wp2_with fail;(try rw[K]);clear K;have g:=g.be d;have f:=f.be d;refine(C _ g.words f.words).mono ?_;rintro e3 w3 ⟨v3,u3,rfl,h,k, -, -,m⟩;obtain⟨A3,c3,rfl, -, -, -⟩:=id h;obtain⟨D3,d3,rfl, -, -, -⟩:=id k;replace a:=a.be m;replace b:=b.be m;replace R:=R.be m;replace S:=S.be m;replace p:=aa a.k2 (aa b.k2 (aa R.g2 S.g2));replace c:=Keep.be m;replace g:=g.ke c;replace f:=f.ke c;replace d:=aC d m;clear C;go_wp2_with fail;replace g:=g.drew;replace f:=f.drew;replace h:=h.drew;replace k:=k.drew;replace a:=a.drew;replace b:=b.drew;replace R:=R.drew;replace S:=S.drew;replace d:=d.drew;replace p:=aa a.k2 (aa b.k2 (aa R.g2 S.g2));have ac:w.1.size+1+1≠w.1.size:=by omega
 have ad:w.1.size+1+1≠w.1.size+1:=by omega
 have ae:w.1.size+1+1+1≠w.1.size:=by omega
 have af:w.1.size+1+1+1≠w.1.size+1:=by omega
 go_region_held3 (fun Y=>C2 Y w.1.size (.bool T) (.slice u E A)∧C2 Y (w.1.size+1) (.bool U) (.slice z s B))
  (first|(with_reducible exact⟨a.k2,b.k2⟩)|(refine⟨?_,?_⟩<;>(repeat (first|with_reducible exact a.k2|with_reducible exact b.k2|with_reducible refine fQ ac ?_|with_reducible refine fQ ad ?_|with_reducible refine fQ ae ?_|with_reducible refine fQ af ?_))))
  (first
   |(go_at_call 68;(with_reducible refine(vQ _ _ q Q _ h (by omega) Z.out).mono ?_);rintro e4 w4 ⟨v4,rfl,i,n⟩;obtain⟨O,F,M,H,rfl⟩:=i.form;replace a:=a.be n;replace b:=b.be n;replace R:=R.be n;replace S:=S.be n;replace p:=aa a.k2 (aa b.k2 (aa R.g2 S.g2));replace c:=Keep.be n;replace g:=g.ke c;replace f:=f.ke c;replace h:=h.ke c;replace k:=k.ke c;(try replace j:=j.ke c);replace d:=aC d n)
   |(go_at_call 68;(with_reducible refine(vQ _ _ r R' _ k (by omega) HR.out).mono ?_);rintro e5 w5 ⟨v5,rfl,j,o⟩;obtain⟨P,G,N,I,rfl⟩:=j.form;replace a:=a.be o;replace b:=b.be o;replace R:=R.be o;replace S:=S.be o;replace p:=aa a.k2 (aa b.k2 (aa R.g2 S.g2));replace c:=Keep.be o;replace g:=g.ke c;replace f:=f.ke c;replace h:=h.ke c;replace k:=k.ke c;(try replace i:=i.ke c);replace d:=aC d o))
 go_wp2_with fail;obtain⟨U0,J,R,d,c,l⟩:=R.put2 d (by omega) (.bool O) (.slice F M H) rfl rfl;replace a:=l a (by omega);replace b:=l b (by omega);replace S:=l S (by omega);replace i:=i.ke c;replace j:=j.ke c;obtain⟨W6,L,S,d,c,l⟩:=S.put2 d (by omega) (.bool P) (.slice G N I) rfl rfl;replace a:=l a (by omega);replace b:=l b (by omega);replace R:=l R (by omega);replace i:=i.ke c;replace j:=j.ke c;rw[J,L];clear J L;replace p:=aa a.k2 (aa b.k2 (aa R.k2 S.k2));exact aM (v:= .tuple #[.agg #[.bool O,.slice F M H],.agg #[.bool P,.slice G N I]]) (by simp[results,results155,go_sem,R.k2,S.k2]) rfl ⟨_,_,rfl,i,j,d⟩
def mZ(x y:Int)(O P:Value)(w:World)(g:IntAt w O x)(i:IntAt w P y)(N:y≠0)(Z:nl x.natAbs+4*nl y.natAbs+4<=17592186044416):
  Calls prog 120 #[O,P] w (dW w (x.tdiv y)):=by
 obtain⟨H,u,F,D,rfl⟩:=g.form;obtain⟨sy,T,ky,X,rfl⟩:=i.form;have K:y=1->x.tdiv y=x:=fun h=>by rw[h,Int.tdiv_one]
 have B:=aB K;clear K;obtain⟨W,J,a,b,c,R⟩:=gE w [.bool H,.slice u F D] 77 [.bool sy,.slice T ky X] 77 [.bool false,.slice none 0 0] 77;have r:=aa b.g2 (aa c.g2 R.g2);go_enter func120,ntmps120;go_wp2_with fail;(try rw[J]);clear J;have g:=g.be a;have i:=i.be a;refine(S3 y _ _ i (by omega)).mono ?_;rintro e3 w3 ⟨rfl,n⟩;replace b:=b.be n;replace c:=c.be n;replace R:=R.be n;replace r:=aa b.k2 (aa c.k2 R.g2);replace f:=Keep.be n;replace g:=g.ke f;replace i:=i.ke f;replace a:=aC a n;by_cases s:y=1
 ·have p:decide (y=1)=true:=by simpa using s
  rw[p];have hq:=B.out s;clear p s B N;go_wp2_with fail;rw[hq];obtain⟨U,l,R,a,f,j⟩:=R.put2 a (by omega) (.bool H) (.slice u F D) rfl rfl;replace b:=j b (by omega);replace c:=j c (by omega);replace g:=g.ke f;rw[l];clear l;replace r:=aa b.k2 (aa c.k2 R.k2);exact aM (v:= .agg #[.bool H,.slice u F D]) (by simp[results,results120,go_sem,R.k2]) rfl ⟨_,rfl,g,a⟩
 ·have p:decide (y=1)=false:=by simpa using s
  rw[p];clear p B;go_wp2_with fail;have L:=fq8 x y _ _ _ g i N Z;unfold FD at L;generalize x.tdiv y=Q at *;generalize x.tmod y=M at *;refine L.mono ?_;rintro e4 q ⟨v4,v5,rfl,k,Y,o⟩;obtain⟨G,t,E,C,rfl⟩:=k.form;obtain⟨s5,S,k5,V,rfl⟩:=Y.form;replace b:=b.be o;replace c:=c.be o;replace R:=R.be o;replace r:=aa b.k2 (aa c.k2 R.g2);replace f:=Keep.be o;replace g:=g.ke f;replace i:=i.ke f;replace a:=aC a o;have ad:∀d e:Obj,((q.alloc d).alloc e).cell? ⟨w.1.size+1+1,0,none⟩=some (.bool false):=fun d e=>((R.alloc d).alloc e).cell 0 rfl;have af:∀d e:Obj,((q.alloc d).alloc e).frozen? ⟨w.1.size+1+1,0,none⟩=false:=fun d e=>((R.alloc d).alloc e).free 0;have ae:∀d e:Obj,((q.alloc d).alloc e).cell? ⟨w.1.size+1+1,1,none⟩=some (.slice none 0 0):=fun d e=>((R.alloc d).alloc e).cell 1 rfl;have ag:∀d e:Obj,((q.alloc d).alloc e).frozen? ⟨w.1.size+1+1,1,none⟩=false:=fun d e=>((R.alloc d).alloc e).free 1;go_wp2_with fail;have ab:=b.lt;have ac:=c.lt;have ah:=R.lt;have ai:=a.size;obtain⟨U0,I,m,z,A⟩:=DA q [.bool G,.slice t E C] 77 [.bool s5,.slice S k5 V] 77;replace b:=b.be m;replace c:=c.be m;replace R:=R.be m;replace f:=Keep.be m;replace a:=aC a m;replace k:=k.ke f;obtain⟨U,l,R,a,f,j⟩:=R.put2 a (by omega) (.bool G) (.slice t E C) rfl rfl;replace b:=j b (by omega);replace c:=j c (by omega);replace z:=j z (by omega);replace A:=j A (by omega);replace k:=k.ke f;rw[I,l];clear I l;replace r:=aa b.k2 (aa c.k2 (aa R.k2 (aa z.k2 A.k2)));exact aM (v:= .agg #[.bool G,.slice t E C]) (by simp[results,results120,go_sem,R.k2]) rfl ⟨_,rfl,k,a⟩
def Glob.drew(h:Glob w):Glob w.drew:=h.be (aG _ _).drew
def OH(x y:Int)(v z:Value)(w:World)(b:IntAt w v x)(c:IntAt w z y)(F:nl x.natAbs<=17592186044414)(E:nl y.natAbs<=17592186044414):
  Calls prog 149 #[v,z] w fun e w'=>e= .returned (.bool (decide (x=y)))∧Below w.1.size w w':=by
 obtain⟨d,n,t,p,rfl⟩:=b.form;obtain⟨f,o,u,q,rfl⟩:=c.form;have j:=b.neg;have k:=c.neg;by_cases i:(d==f)=true
 ·have D:=kJ (x.natAbs:Int) (y.natAbs:Int);have a:decide (x=y)=(bZ (x.natAbs:Int) (y.natAbs:Int)==0):=by
   have e:d=f:=by simpa using i
   rw[j,k] at e;rw[bxH,iQ,beq_iff_eq];by_cases l:x<0<;>by_cases m:y<0<;>simp[l,m] at e<;>omega
  rw[a];have s:=fun W (l:NatAt W (.slice n t p) x.natAbs) (m:NatAt W (.slice o u q) y.natAbs)=>QF x.natAbs y.natAbs _ _ W l m (by omega) (by omega);generalize bZ (x.natAbs:Int) (y.natAbs:Int)=H at *;clear D a j k;obtain⟨W,r,g,A,B⟩:=DA w [.bool d,.slice n t p] 77 [.bool f,.slice o u q] 77;have G:=aa A.g2 B.g2;go_enter func149,ntmps149;go_wp2_with fail;(try rw[r]);clear r;have b:=b.be g;have c:=c.be g;refine(s _ b.words c.words).mono ?_;rintro I K ⟨rfl,C⟩;clear s;go_wp2;go_ret;exact⟨rfl,aC g C⟩
 ·have J:(d==f)=false:=by simpa using i
  have a:decide (x=y)=false:=by
   have e:d≠f:=by simpa using i
   rw[jA];intro h;subst h;exact e (j.trans k.symm)
  rw[a];clear a j k i;go_enter func149,ntmps149;go_wp2;go_ret;exact⟨rfl,((aG _ _).alloc aE _).alloc (by simp) _⟩
def OI(x y:Int)(U V:Value)(w:World)(s:Glob w)(f:IntAt w U x)(g:IntAt w V y)(ah:x≠0)(ai:y≠0)(K:Nat)(bx:nl x.natAbs<=K)(Z:nl y.natAbs<=K)(hK:5*K+4<=aJ):
  Calls prog 150 #[U,V] w (dW w ((Nat.lcm x.natAbs y.natAbs:Nat):Int)):=by
 obtain⟨S,z,k,B,rfl⟩:=f.form;obtain⟨T,A,m,C,rfl⟩:=g.form;have ac:m=nl y.natAbs:=by
  obtain⟨Y,c',e, -⟩:=g.words;simp only[Value.slice.injEq] at e;exact e.2.1
 have ab:k=nl x.natAbs:=by
  obtain⟨Y,c',e, -⟩:=f.words;simp only[Value.slice.injEq] at e;exact e.2.1
 have ae:((m:Int)==0)=false:=by
  have:=gS (show y.natAbs≠0 by omega);simp;omega
 have af:((k:Int)==0)=false:=by
  have:=gS (show x.natAbs≠0 by omega);simp;omega
 have ad:nl (Nat.gcd x.natAbs y.natAbs)<=nl y.natAbs:=cK (aqY (by omega) (azU _ _));have P:Nat.gcd x.natAbs y.natAbs≠0:=fun h=>by have:=Nat.eq_zero_of_gcd_eq_zero_left h;omega
 have ag:nl (y.natAbs/Nat.gcd x.natAbs y.natAbs)<=nl y.natAbs:=cK (azK _ _);have Q:x.natAbs*(y.natAbs/Nat.gcd x.natAbs y.natAbs)=Nat.lcm x.natAbs y.natAbs:=by
  rw[Nat.lcm,Nat.mul_div_assoc _ (azU _ _)]
 have L:=fun W (s:Glob W) o p=>FJ x.natAbs y.natAbs K (.slice z k B) (.slice A m C) W s o p bx Z hK;have J:=fun W v (o:NatAt W (.slice A m C) y.natAbs) (p:NatAt W v (Nat.gcd x.natAbs y.natAbs))=>eqD y.natAbs _ _ _ W o p P (by omega);have G:=fun W v (o:NatAt W (.slice z k B) x.natAbs) (p:NatAt W v (y.natAbs/Nat.gcd x.natAbs y.natAbs))=>qN x.natAbs _ _ _ W o p (by omega);rw[Q] at G;unfold pE at J;unfold jK at L G;generalize y.natAbs%Nat.gcd x.natAbs y.natAbs=r at *;generalize y.natAbs/Nat.gcd x.natAbs y.natAbs=q at *;generalize Nat.gcd x.natAbs y.natAbs=d at *;generalize Nat.lcm x.natAbs y.natAbs=l at *;clear Q ab ac P;obtain⟨W,M,c,a,b,R⟩:=gE w [.bool S,.slice z k B] 77 [.bool T,.slice A m C] 77 [.bool false,.slice none 0 0] 77;have n:=aa a.g2 (aa b.g2 R.g2);go_enter func150,ntmps150;go_wp2_with fail;(try rw[M]);clear M;have f:=f.be c;have g:=g.be c;have s:=(s.be c).drew;replace f:=f.drew;replace g:=g.drew;replace a:=a.drew;replace b:=b.drew;replace R:=R.drew;replace c:=c.drew;replace n:=aa a.k2 (aa b.k2 R.g2)
 go_region_held3 (fun X=>C2 X w.1.size (.bool S) (.slice z k B)∧C2 X (w.1.size+1) (.bool T) (.slice A m C))
  (with_reducible exact⟨a.k2,b.k2⟩)
  (first
   |(go_at_call 136;refine(L _ s f.words g.words).mono ?_;rintro e4 w4 ⟨v4,rfl,D, -,t⟩;obtain⟨A4,c4,rfl, -, -, -⟩:=id D;replace a:=a.be t;replace b:=b.be t;replace R:=R.be t;replace n:=aa a.k2 (aa b.k2 R.g2);replace i:=Keep.be t;replace f:=f.ke i;replace g:=g.ke i;(try replace E:=E.ke i);replace c:=aC c t)
   |(go_at_call 164;refine(J _ _ g.words D).mono ?_;rintro e5 w5 ⟨v5,u5,rfl,E, -, -, -,u⟩;obtain⟨A5,c5,rfl, -, -, -⟩:=id E;replace a:=a.be u;replace b:=b.be u;replace R:=R.be u;replace n:=aa a.k2 (aa b.k2 R.g2);replace i:=Keep.be u;replace f:=f.ke i;replace g:=g.ke i;(try replace D:=D.ke i);replace c:=aC c u))
 go_wp2_with fail;refine(G _ _ f.words E).mono ?_;rintro e6 w6 ⟨v6,rfl,j, -,F⟩;obtain⟨H,I,rfl, -, -, -⟩:=id j;replace a:=a.be F;replace b:=b.be F;replace R:=R.be F;replace n:=aa a.k2 (aa b.k2 R.g2);replace c:=aC c F;clear L J G;go_wp2_with fail;have j:IntAt w6 (.agg #[.bool false,.slice H (nl l) I]) (l:Int):=IntAt.of j (by simp);obtain⟨W6,N,R,c,i,O⟩:=R.put2 c (by omega) (.bool false) (.slice H (nl l) I) rfl rfl;replace a:=O a (by omega);replace b:=O b (by omega);replace j:=j.ke i;rw[N];clear N;replace n:=aa a.k2 (aa b.k2 R.k2);exact aM (v:= .agg #[.bool false,.slice H (nl l) I]) (by simp[results,results150,go_sem,R.k2]) rfl ⟨_,rfl,j,c⟩
def kF(x:Int):Bool:=decide (-9223372036854775808<=x∧x<=9223372036854775807)
def IntAt.len{c:Nat}(h:IntAt w (.agg #[.bool s,.slice A k c]) x):k=nl x.natAbs:=by
 obtain⟨a,b,e, -⟩:=h.words;simp only[Value.slice.injEq] at e;exact e.2.1
def OG(x:Int)(D:Value)(w:World)(q:IntAt w D x)(E:nl x.natAbs<=17592186044414):
  Calls prog 80 #[D] w fun e w'=>e= .returned (.tuple #[.int .i64 (if kF x then x else 0),.bool (kF x)])∧Below w.1.size w w':=by
 obtain⟨y,L,d,F,rfl⟩:=q.form;have c:=q.len;by_cases l:x=0
 ·have I:((d:Int)==0)=true:=by rw[c,l,show(0:Int).natAbs=0 from rfl,dO];rfl
  have a:kF x=true:=by rw[l];decide
  rw[a,l];clear c l a q E;go_enter func80,ntmps80;go_wp2;go_ret2;exact⟨rfl,(aG _ _).alloc aE _⟩
 ·have v:=gS (show x.natAbs≠0 by omega);have I:((d:Int)==0)=false:=by simp;omega
  have j:=q.words;obtain⟨K,M,e,N,g, -⟩:=id j;simp only[Value.slice.injEq] at e;obtain⟨rfl, -,rfl⟩:=e;obtain⟨b,s,rfl,A,f⟩:=g.at_ (by rw[aK];exact v);have r:=f 0 (by rw[aK];exact v);have P:(0:Int)<(d:Int):=by omega
  by_cases z:d=1
  ·have J:¬(1:Int)<(d:Int):=by omega
   have k:x.natAbs<BN:=by have:=cyD x.natAbs;rw[<-c,z,bxG] at this;exact this
   rw[pC (by omega) k] at r;simp only[gQ,byM] at r;have B:(w.alloc (.cells #[.bool y,.slice (some ⟨b,s,none⟩) d F] 77)).cell? ⟨b,s,none⟩=some (.int .u64 (x.natAbs:Int)):=(((aG _ _).alloc aE _).cell (p:=⟨b,s,none⟩) A).trans r;have i:=q.neg;unfold BN at k;by_cases C:x<0
   ·have m:y=true:=by rw[i];simpa using C
    by_cases G:x.natAbs<=9223372036854775808
    ·have a:kF x=true:=by unfold kF;rw[iQ];omega
     have u:(x.natAbs:Int)<=9223372036854775808:=by omega
     have O:IntKind.u64.wrap (-(x.natAbs:Int))=18446744073709551616+x:=by rw[IntKind.wrap_u64];omega
     have H:IntKind.i64.wrap (18446744073709551616+x)=x:=by rw[IntKind.wrap_i64];omega
     rw[a,if_pos rfl];clear f a i k c j g;generalize (x.natAbs:Int)=t at *;subst m;go_enter func80,ntmps80;go_wp2;go_ret2;exact⟨rfl,(aG _ _).alloc aE _⟩
    ·have a:kF x=false:=by unfold kF;rw[jA];omega
     have u:¬(x.natAbs:Int)<=9223372036854775808:=by omega
     rw[a];clear f a i k c j g;generalize (x.natAbs:Int)=t at *;subst m;go_enter func80,ntmps80;go_wp2;go_ret2;exact⟨rfl,(aG _ _).alloc aE _⟩
   ·have m:y=false:=by rw[i];simpa using C
    by_cases G:x.natAbs<=9223372036854775807
    ·have a:kF x=true:=by unfold kF;rw[iQ];omega
     have u:(x.natAbs:Int)<=9223372036854775807:=by omega
     have H:IntKind.i64.wrap (x.natAbs:Int)=x:=by rw[IntKind.wrap_i64];omega
     rw[a,if_pos rfl];clear f a i k c j g;generalize (x.natAbs:Int)=t at *;subst m;go_enter func80,ntmps80;go_wp2;go_ret2;exact⟨rfl,(aG _ _).alloc aE _⟩
    ·have a:kF x=false:=by unfold kF;rw[jA];omega
     have u:¬(x.natAbs:Int)<=9223372036854775807:=by omega
     rw[a];clear f a i k c j g;generalize (x.natAbs:Int)=t at *;subst m;go_enter func80,ntmps80;go_wp2;go_ret2;exact⟨rfl,(aG _ _).alloc aE _⟩
  ·have J:(1:Int)<(d:Int):=by omega
   have a:kF x=false:=by
    unfold kF;rw[jA];intro h;have:=mJ (n:=x.natAbs) (by omega) (by unfold BN;omega);omega
   have B:=fun o=>(((aG w.1.size w).alloc aE o).cell (p:=⟨b,s+0,none⟩) A).trans r;simp only[gQ] at B;rw[a];generalize List.getD (dg x.natAbs) 0 0=t at *;clear f a c j g z l v;go_enter func80,ntmps80;go_wp2;go_ret2;exact⟨rfl,(aG _ _).alloc aE _⟩
def H5{c s c':Int}(d:k<zs.length)(f:Split (zs.getD k 0+c) s c')(h:aF aA zs+c*aA^k=T):aF aA (zs.set k s)+c'*aA^(k+1)=T:=by
 have e:=f.1;rw[nY _ _ _ _ d,<-h,gR];generalize zs.getD k 0=z at *;generalize aA^k=p at *;generalize aF aA zs=v at *;generalize aA=b at *;have a:s=z+c-b*c':=by omega
 rw[a];grind
def OwnN.more{l:List Int}(j:w'.ownsRow B 143 1 b (zs.length+l.length) (zs.map (Value.int .u64)++l.map (Value.int .u64)))(a:(w.alloc o).grownBy w' v.ownBlock)(c:b.ownBlock=v.ownBlock∨b.ownBlock=some (w.alloc o).1.size):
  OwnN w' B b (zs++l)∧TxtTo w v w' b:=by
 refine⟨by unfold OwnN;rw[aq7,bN];exact j,⟨a.os,a.tape,a.output,aH (by simp) a.size,fun i d f=>(a.block i (by simp;omega) f).trans (Below.heap_alloc w o i d)⟩,fun g e=> ?_⟩;rcases c with h|h
 ·left;rw[<-h];exact e
 ·right;rw[h] at e;simp at e;omega
def SR{us:List Int}{c:Int}(d:InR aA us)(b:1<=c)(hn:us.length=n)(h:aF aA us+c*aA^n=T)(i:T<aA^L):n<L:=by
 rcases dE n L with a|a
 ·exact a
 ·exfalso;have e:=y9 aQ d;have f:aA^L<=aA^n:=vZ (by decide) a;have g:1*aA^n<=c*aA^n:=eH b (fP (nW aQ n));omega
def H7(e:World)(d:Value)(x y L:Nat)(a b:Value)(c:World):Prop:=∃X Y,NatAt c a X∧NatAt c b Y∧Hid (X*Y=x*y)∧X≠0∧Y≠0∧nl X+nl Y<=L∧Apart d a∧Apart d b∧Below e.1.size e c
def H8(B:Nat)(p:Value)(zs:List Int)(x y L:Nat)(vx vy:Value)(w:World)(hB:B<=w.1.size)(ht:OwnN w B p zs)(hz:InR aA zs)(hx:NatAt w vx x)(hy:NatAt w vy y)(ax:x≠0)(ay:y≠0)
  (aj:Apart p vx)(ak:Apart p vy)(db:zs.length<=L)(da:nl x+nl y+1<=L)(hL:L+2<=aJ)(b2:aF aA zs+(x*y:Nat)<aA^L):
  Calls prog 113 #[p,vx,vy] w fun e w'=>∃v d,e= .returned v∧OwnN w' B v d∧InR aA d∧aF aA d=aF aA zs+(x*y:Nat)∧d.length<=L∧TxtTo w p w' v:=by
 unfold aJ at hL;have cb:=aB b2;have J:=ht.lt;clear b2;obtain⟨Ax,cx,ac,_,_,_⟩:=id hx;obtain⟨Ay,cy,A,_,_,_⟩:=id hy;subst ac A;go_enter func113,ntmps113;go_upto_if 15 with fail;go_cut [1,2] (fun a b M=>H7 w p x y (L-1) a b M)
 case first=>
  by_cases bh:nl x<nl y
  ·go_wp2;go_meet;exact⟨y,x,hy,hx,dN _ _,ay,ax,by omega,ak,aj,aG _ _⟩
  ·go_wp2;go_meet;exact⟨x,y,hx,hy,rfl,ax,ay,by omega,aj,ak,aG _ _⟩
 case rest=>
  obtain⟨X,Y,u,F,E,S,ae,hl,G,U,t⟩:=hcut;clear hx hy aj ak ax ay;obtain⟨Bx,dx,ac,_,_,_⟩:=id u;obtain⟨By,dy,A,_,_,_⟩:=id F;subst ac A;go_upto_if 20 with fail;go_cut [1,2] (fun a b M=>H7 w p x y L a b M)
  case first=>
   by_cases c8:40<=nl Y
   ·have ce:(40:Int)<=(nl Y:Int):=by omega
    go_wp2_with fail;refine(qN X Y _ _ _ u F (by unfold aJ;omega)).mono ?_;rintro e w2 ⟨v2,rfl,ah,cl,ch⟩;have al:=aC t ch;have r:=fI X Y;have R:nl 1=1:=mJ (by decide) (by decide);have H1:=aB R;clear R;go_wp2;go_meet;refine⟨X*Y,1,ah.be (oI _ _),eqE w2 1 (by decide) (by decide) 143,by unfold Hid;rw[az9];exact E.out,Nat.mul_ne_zero S ae,by decide,by rw[H1.out];omega,?_,?_,al.trans ((oI w2 _).mono al.size)⟩
    ·exact fun g W=>cl.ne2 (aZ (J g W).2 t.size) (G g W) (U g W)
    ·intro g W e;have k1:=(J g W).2;have k2:=al.size;simp[Value.ownBlock] at e;omega
   ·have ce:¬(40:Int)<=(nl Y:Int):=by omega
    go_wp2;go_meet;exact⟨X,Y,u,F,E,S,ae,by omega,G,U,t⟩
  case rest=>
   clear u F E S ae hl G U t;obtain⟨X,Y,u,F,E,S,ae,hl,G,U,t⟩:=hcut;obtain⟨Ax,cx,ac,dl,cs,dv⟩:=id u;obtain⟨Ay,cy,A,dm,ct,dw⟩:=id F;subst ac A;have cw:=ht.be t;have a4:B<=wc.1.size:=aH hB t.size;have c0:TxtTo w p wc p:=TxtTo.be t;go_wp2_with fail;go_loopg [0] (max zs.length (nl X+nl Y)-zs.length) (fun k q wr=>∃j,Hid (zs.length+j+k=max zs.length (nl X+nl Y))∧OwnN wr B q (zs++List.replicate j 0)∧TxtTo wc p wr q)
   case atStart=>exact⟨0,by unfold Hid;omega,by simpa using cw,TxtTo.refl _ _⟩
   case round=>
    obtain⟨j,N,z,f⟩:=hrel;have ap:(zs++List.replicate j (0:Int)).length=zs.length+j:=by rw[bN,dB]
    obtain⟨Aq,cq,bp⟩:=z.slice;rw[ap] at bp;subst bp;have a5:B<=wr.1.size:=aH a4 f.1.size;have ad:=aB ap;clear ap;cases gk with
    |succ k=>
     have bh:(zs.length:Int)+j<(nl X:Int)+nl Y:=by have:=N.out;omega
     have cp:wr.ownsRow B 143 1 (.slice Aq (zs.length+j) cq) (zs.length+j) ((zs++List.replicate j (0:Int)).map (Value.int .u64)):=by
      have:=z;unfold OwnN at this;rw[ad.out] at this;exact this
     go_wp2_with (at_builtin;refine gM rfl rfl 143 _ 1 8 underlying75 gZ rfl (by decide) B (.slice Aq (zs.length+j) cq) (zs.length+j) _ rfl (cp.alloc _) [Value.int .u64 0] rfl (by simp) (F9 _ _ _) (by simp[Value.oneCell']) (by omega) (by omega) (by simp;omega) ?_;intro q1 w1 ar ao ai);have r:=OwnN.more (zs:=zs++List.replicate j 0) (l:=[0]) (by rw[ad.out];exact ar) ao ai;go_wp2;go_roundg k
     case measure=>omega
     case rel=>
      refine⟨j+1,by have:=N.out;unfold Hid;omega,?_,f.trans r.2⟩;rw[aqW,<-eK];exact r.1
    |zero=>
     have bh:¬(zs.length:Int)+j<(nl X:Int)+nl Y:=by have:=N.out;omega
     have bf:nl X+nl Y<=zs.length+j:=by omega
     have bg:zs.length+j<=L:=by have:=N.out;omega
     have b1:aF aA (zs++List.replicate j (0:Int))=aF aA zs:=by rw[kV,mL];simp
     have b3:InR aA (zs++List.replicate j (0:Int)):=hz.append (InR.replicate aQ _);have b9:=aB b1;clear b1 N;have dc:=u;go_wp2_with fail;go_loopg [0,38] (nl Y) (fun k q i wr=>∃(m:Nat) (d:List Int),Hid (m+k=nl Y)∧i= .int .i64 m∧OwnN wr B q d∧InR aA d∧Hid (aF aA d=aF aA zs+X*aF aA ((dg Y).take m))∧nl X+nl Y<=d.length∧d.length<=L∧TxtTo wc p wr q)
     case atStart=>exact⟨0,_,by unfold Hid;omega,rfl,z,b3,by unfold Hid;rw[b9.out];simp,by rw[ad.out];exact bf,by rw[ad.out];exact bg,f⟩
     case round=>
      clear z f a5 bf bg b3;obtain⟨m,d,HM,rfl,z,hw,HV,dr,bc,f⟩:=hrel;have dt:=gS S;cases gk with
      |zero=>
       obtain rfl:m=nl Y:=by have:=HM.out;omega
       have hv:=HV.out;rw[cZ (by rw[aK];exact aE),cU] at hv;have ah:aF aA d=aF aA zs+((x*y:Nat):Int):=by rw[hv,<-E.out];push_cast;rfl
       have ca:=aB ah;clear hv ah;go_wp2;go_ret;exact⟨_,d,rfl,z,hw,ca.out,bc,c0.trans f⟩
      |succ k=>
       have r:m<nl Y:=by have:=HM.out;omega
       obtain⟨g,C,rfl,cm,df,ck,aw,am⟩:=z.at_ (by omega);have br:Rd .u64 wr Ay (dg Y):=ct.grown f.1 (.inr (fun b c2 e V=>U b V.symm (by rw[e];rfl)));have bq:Rd .u64 wr Ax (dg X):=cs.grown f.1 (.inr (fun b c2 e V=>G b V.symm (by rw[e];rfl)));have cg:=f.apart G (fun g e=>u.block e);obtain⟨c6,oy,rfl,de,a9⟩:=br.at_ (by rw[aK];omega);have Q:=a9 m (by rw[aK];exact r);have c1:=(cI Y).getD aQ m;have bw:=jV aA (dg Y) m (by rw[aK];exact r);generalize A:(dg Y).getD m 0=yv at *;have bu:((d.drop m).take (nl X)).length=nl X:=by rw[bK,gG];omega
       have ba:Cells .u64 wr g m ((d.drop m).take (nl X)):=by have:=(am.drop m).take (nl X);rwa [bA] at this
       have b4:=aB bu;have b8:=aB bw;have c5:=aB A;have az:=aB am;have co:∀b o,Ax=some ⟨b,o,none⟩->0<nl X->b≠g:=fun b o e _ V=>cg g rfl (by rw[e,V];rfl);have i1:(0:Int)<=(m:Int):=by omega
       have i2:(m:Int)<=(m:Int)+(nl X:Int):=by omega
       have i3:(m:Int)+(nl X:Int)<=(C:Int):=by omega
       have i5:¬C=m:=by omega
       have i7:m<=C:=by omega
       have i8:m+nl X<=C:=by omega
       clear bu bw A a9 am;go_wp2_with fail;refine(G0 g m ((d.drop m).take (nl X)) (C-m) Ax (dg X) cx (nl X) yv wr b4.out (aK X) ba aw.soft (by omega) bq co ((hw.drop m).take _) (cI X) c1).mono ?_;rintro e w3 ⟨K,c,rfl,H,a8,J,cz,bz,bb,au⟩;have bk:=au.patch az.out J bb (by omega);have av:(patch d K m).length=d.length:=RB (by omega);have bn:=qL hw cz m;have af:OwnN w3 B (.slice (some ⟨g,0,none⟩) (patch d K m).length C) (patch d K m):=OwnN.of (au.shape _ _ aw) bk cm (by omega) ck;rw[av] at af;have bv:TxtTo wc p w3 (.slice (some ⟨g,0,none⟩) d.length C):=f.trans ⟨au.grown,fun _ h=> .inl h⟩;obtain⟨T,HT⟩:∃T:Int,Hid (T=aF aA zs+X*aF aA ((dg Y).take (m+1))):=⟨_,rfl⟩;have bo:aF aA (patch d K m)+c*aA^(m+nl X)=T:=by
        rw[rN (by omega),J,HT.out,b8.out,HV.out,aqS];have e1:=bz;rw[cU] at e1;generalize aF aA ((d.drop m).take (nl X))=sg at *;generalize aF aA K=tt at *;generalize aF aA ((dg Y).take m)=yt at *;generalize aA^m=bm at *;generalize aA^nl X=bx at *;have e2:tt=sg+X*yv-c*bx:=by omega
        rw[e2];grind
       have a7:T<aA^L:=by
        have R:=cb.out;have h2:aF aA ((dg Y).take (m+1))<=Y:=by
         rw[qJ];exact Int.ofNat_le.2 (bxP _ _)
        have h3:(X:Int)*aF aA ((dg Y).take (m+1))<=X*Y:=gK h2 (by omega);have h4:((x*y:Nat):Int)=X*Y:=by rw[<-E.out];push_cast;rfl
        rw[HT.out];omega
       have a1:=aB bo;have b7:=aB a7;have O:=aB av;clear bo a7 av bz bk bb az z aw ba Q bq br J HV f;generalize patch d K m=c3 at *;go_wp2_with fail;go_loopg [0,9,10] (d.length-(m+nl X)+(if c=0 then 0 else 1)) (fun k' q cc i M=>∃(n:Nat) (us:List Int) (c:Int),Hid (us.length-n+(if c=0 then 0 else 1)=k')∧i= .int .i64 n∧cc= .int .u64 c∧(0<=c∧c<aA)∧n<=us.length∧InR aA us∧Hid (aF aA us+c*aA^n=T)∧OwnN M B q us∧d.length<=us.length∧us.length<=L∧TxtTo wc p M q)
       case atStart=>exact⟨m+nl X,c3,c,by unfold Hid;rw[O.out],by go_num,rfl,⟨H,a8⟩,by rw[O.out];omega,bn,a1,by rw[<-O.out] at af⊢;exact af,by rw[O.out];exact aE,by rw[O.out];exact bc,bv⟩
       case round=>
        clear af bn bv a1 H a8;obtain⟨n,us,c,HK,rfl,rfl,I,du,ab,P,D,bi,bj,f⟩:=hrel;by_cases H:c=0
        ·subst H;have hv:=P.out;rw[bxB,byE] at hv;have cd:Hid (aF aA us=aF aA zs+X*aF aA ((dg Y).take (m+1))):=by unfold Hid;rw[hv];exact HT.out
         clear hv P;go_wp2;go_roundg k
         case measure=>omega
         case rel=>exact⟨m+1,us,by have:=HM.out;unfold Hid;omega,by go_num,D,ab,cd,by omega,bj,f⟩
        ·have dn:(c != 0)=true:=by simpa using H
         have ds:=bi;obtain⟨g',a3,rfl,dp,dh,dj,cu,an⟩:=D.at_ (by omega);have a6:us.length-n+1=us.length-n+(if c=0 then 0 else 1):=by rw[if_neg H]
         have a0:=aB a6;clear a6;by_cases aq:n<us.length
         ·have cn:((n:Int)==(us.length:Int))=false:=by simp;omega
          have Q:=an n aq;rw[bA] at Q;have f1:=cu.soft.free n;have ub:=ab.getD aQ n;obtain⟨sm,c',Z⟩:=iT (us.getD n 0+c);have ag:=H5 aq Z P.out;have ci:=Z.hi_bd (by omega) (m:=2) (by omega);have bt:=Z.2;generalize b0:us.getD n 0=uv at *;have b6:=aB ag;have b5:=aB Z;have c4:=aB b0;have a2:=aB D;clear ag Z b0 D an;go_wp2_with (simp only[rO uv c sm c' ub I b5.out]);go_roundg (us.length-(n+1)+(if c'=0 then 0 else 1))
          case measure=>
           have R:=HK.out;have h2:=a0.out;split<;>omega
          case rel=>
           refine⟨n+1,us.set n sm,c',by unfold Hid;rw[eM],by go_num,rfl,⟨ci.1,?_⟩,by rw[eM];omega,ab.set bt.1 bt.2 n,b6,a2.out.set aq sm,by rw[eM];exact bi,by rw[eM];exact bj,?_⟩
           ·have:(2:Int)<=aA:=by decide
            omega
           ·exact f.trans ⟨nV (w:=wr) ⟨g',n,none⟩ _,fun _ h=> .inl h⟩
         ·obtain rfl:n=us.length:=by omega
          have cn:((us.length:Int)==(us.length:Int))=true:=by simp
          have c9:us.length<L:=SR ab (by omega) rfl P.out b7.out;have a5:B<=wr.1.size:=aH a4 f.1.size;have a2:=aB D;have cr:wr.ownsRow B 143 1 (.slice (some ⟨g',0,none⟩) us.length a3) us.length (us.map (Value.int .u64)):=D;have bs:Split (0+c) c 0:=⟨by omega,I.1,I.2⟩;have z0:(0:Int)<=0∧(0:Int)<aA:=⟨by decide,by decide⟩;clear D an
          go_wp2_with (first
           |(at_builtin;refine gM rfl rfl 143 _ 1 8 underlying75 gZ rfl (by decide) B (.slice (some ⟨g',0,none⟩) us.length a3) us.length _ rfl (cr.alloc _) [Value.int .u64 0] rfl (by simp) (F9 _ _ _) (by simp[Value.oneCell']) (by omega) (by omega) (by simp;omega) ?_;intro q1 w1 ar ao ai;have r:=OwnN.more (zs:=us) (l:=[0]) ar ao ai;obtain⟨Q,c7,rfl,dq,di,dk,cv,cj⟩:=r.1.at_ (by simp);have gg:=cj us.length (by simp);rw[bA] at gg;simp only[eF,fK aE,azV,List.getElem?_cons_zero,Option.getD_some] at gg;have ff:=cv.soft.free us.length;simp only[bN,iJ] at r⊢)
           |simp only[rO 0 c c 0 z0 I bs])
          go_roundg 0
          case measure=>
           have R:=HK.out;have h2:=a0.out;omega
          case rel=>
           have ag:=H5 (zs:=us++[0]) (k:=us.length) (c:=c) (s:=c) (c':=0) (T:=T) (by simp) (by simpa [fK] using bs) (by have:=P.out;rw[kV,vY];simpa using this);refine⟨us.length+1,(us++[0]).set us.length c,0,by unfold Hid;simp,by go_num,rfl,⟨by decide,by decide⟩,by simp,(ab.append (InR.cons (by decide) (by decide) InR.nil)).set I.1 I.2 us.length,(by unfold Hid;exact ag),r.1.set (by simp) c,by simp;omega,by simp;omega,?_⟩;exact(f.trans r.2).trans ⟨nV (w:=w1) ⟨Q,us.length,none⟩ _,fun _ h=> .inl h⟩
def Bx.txt{b:Nat}(h:Bx w b cs t)(d:TxtTo w a w' v)(c:a.ownBlock≠some b):Bx w' b cs t:=(d.1.block b h.lt (fun e=>c e.symm)).trans h
def SumAt(w:World)(p Z L M:Nat)(s:Int):Prop:=
 ∃c nv b a,(p<Z∧(∀g,c.ownBlock=some g->g<Z)∧∀g,nv.ownBlock=some g->g<Z)∧Bx w p [c,nv] 121∧OwnN w (p+1) c b∧OwnN w (p+1) nv a∧InR aA b∧InR aA a∧Apart c nv∧b.length<=L∧a.length<=L∧s=aF aA b-aF aA a∧aF aA b+aF aA a<=M
def SumAt.be{p:Nat}{s:Int}(h:SumAt w p Z L M s)(a:Below w.1.size w w'):SumAt w' p Z L M s:=by
 obtain⟨f,nv,i,g,b,c,d,e,h⟩:=h;exact⟨f,nv,i,g,b,c.be a,d.be a,e.be a,h⟩
def SumAt.lt{p:Nat}{s:Int}(h:SumAt w p Z L M s):p<w.1.size:=by
 obtain⟨c,nv,e,d,b,a,h⟩:=h;exact a.lt
def SumAt.now{p:Nat}{s:Int}(h:SumAt w p Z L M s):SumAt w p w.1.size L M s:=by
 obtain⟨d,nv,i,f,j,a,b,c,h⟩:=h;exact⟨d,nv,i,f,⟨a.lt,fun g e=>(b.lt g e).2,fun g e=>(c.lt g e).2⟩,a,b,c,h⟩
def SumAt.new(w:World)(L:Nat):SumAt (w.alloc (.cells #[.slice none 0 0,.slice none 0 0] 121)) w.1.size (w.1.size+1) L 0 0:=
 ⟨_,_,[],[],⟨aqC _,(fun g e=>by simp[Value.ownBlock] at e),(fun g e=>by simp[Value.ownBlock] at e)⟩,Bx.new w _ _,OwnN.nil _ _,OwnN.nil _ _,InR.nil,InR.nil,fun g e=>by simp[Value.ownBlock] at e,dC _,dC _,by simp[aF],by simp[aF]⟩
def eq7{p:Nat}(h:OwnN w B v zs)(a:p<B):v.ownBlock≠some p:=fun e=>by
 have:=(h.lt p e).1;omega
def vM{p:Nat}(h:OwnN w B v zs)(a:w.1.size<=p):v.ownBlock≠some p:=fun e=>by
 have:=(h.lt p e).2;omega
def eq8(h:OwnN w B v zs)(b:∀g,u.ownBlock=some g->g<B):Apart v u:=fun g e a=>by
 have c:=(h.lt g e).1;have d:=b g a;omega
def vO(Z:Nat)(w w':World):Prop:=∀g,Z<=g->g<w.1.size->w'.heap[g]? =w.heap[g]?
def fy1(p Z L M:Nat)(s x y:Int)(A:Bool)(c:Option Addr)(a i:Nat)(B:Bool)(d:Option Addr)(b j:Nat)(w:World)(h:SumAt w p Z L M s)
  (hx:IntAt w (.agg #[.bool A,.slice c a i]) x)(hy:IntAt w (.agg #[.bool B,.slice d b j]) y)(a7:∀g,(Value.slice c a i).ownBlock=some g->g<p)(ba:∀g,(Value.slice d b j).ownBlock=some g->g<p)
  (hL:nl x.natAbs+nl y.natAbs+1<=L)(az:L+2<=aJ)(V:M+x.natAbs*y.natAbs<BN^L):
  Calls prog 64 #[.pointer (some ⟨p,0,none⟩),.agg #[.bool A,.slice c a i],.agg #[.bool B,.slice d b j]] w
   fun e w'=>e= .returned (.tuple #[])∧SumAt w' p w'.1.size L (M+x.natAbs*y.natAbs) (s+x*y)∧Below p w w'∧vO Z w w':=by
 have ac:=hx.len;have ad:=hy.len;have af:=hx.neg;have ag:=hy.neg;have bq:=hx.words;have br:=hy.words;have o:Bx ((w.alloc (.cells #[.bool A,.slice c a i] 77)).alloc (.cells #[.bool B,.slice d b j] 77)) (w.1.size) [.bool A,.slice c a i] 77:=(Bx.newAt w [.bool A,.slice c a i] 77 (w.1.size) (by simp)).alloc (.cells #[.bool B,.slice d b j] 77);have q:Bx ((w.alloc (.cells #[.bool A,.slice c a i] 77)).alloc (.cells #[.bool B,.slice d b j] 77)) (w.1.size+1) [.bool B,.slice d b j] 77:=Bx.newAt (w.alloc (.cells #[.bool A,.slice c a i] 77)) [.bool B,.slice d b j] 77 (w.1.size+1) (by simp);have k:Below w.1.size w ((w.alloc (.cells #[.bool A,.slice c a i] 77)).alloc (.cells #[.bool B,.slice d b j] 77)):=((aG _ _).alloc (by simp) _).alloc (by simp<;>omega) _;by_cases ah:x=0
 ·have hk:((a:Int)==0)=true:=by rw[ac,ah,show(0:Int).natAbs=0 from rfl,dO];rfl
  have h':=(h.be k).now;have D:=k.mono (show p<=w.1.size from iE h.lt);have E:x.natAbs*y.natAbs=0:=by rw[ah];simp
  have J:s+x*y=s:=by rw[ah];simp
  rw[E,J,gQ];clear ac ad af ag V ah E J o q;go_enter func64,ntmps64;go_wp2;exact aM (v:= .tuple #[]) (by simp[results,results64,go_sem]) rfl ⟨rfl,h',D,fun g _ hg=>k.block g hg⟩
 ·have hk:((a:Int)==0)=false:=by
   have:=gS (show x.natAbs≠0 by omega);simp;omega
  by_cases am:y=0
  ·have bo:((b:Int)==0)=true:=by rw[ad,am,show(0:Int).natAbs=0 from rfl,dO];rfl
   have h':=(h.be k).now;have D:=k.mono (show p<=w.1.size from iE h.lt);have E:x.natAbs*y.natAbs=0:=by rw[am];simp
   have J:s+x*y=s:=by rw[am];simp
   rw[E,J,gQ];clear ac ad af ag V ah am E J o q;go_enter func64,ntmps64;go_wp2;exact aM (v:= .tuple #[]) (by simp[results,results64,go_sem]) rfl ⟨rfl,h',D,fun g _ hg=>k.block g hg⟩
  ·have bo:((b:Int)==0)=false:=by
    have:=gS (show y.natAbs≠0 by omega);simp;omega
   have ak:=AC x y;rw[<-af,<-ag] at ak;have HM:=aB ak;obtain⟨pv,nv,t,r,⟨bw,bh,bi⟩,P,K,N,ap,aq,hA,a5,a6,hs,a0⟩:=h;have bc:=y9 aQ ap;have a9:=y9 aQ aq;have bp:=P.lt;have b0:(((w.alloc (.cells #[.bool A,.slice c a i] 77)).alloc (.cells #[.bool B,.slice d b j] 77))).1.size=w.1.size+2:=by simp
   have bx:p+1<=w.1.size:=bp;have a3:(M:Int)+(x.natAbs*y.natAbs:Nat)<aA^L:=by rw[<-iX];exact_mod_cast V
   have f:=P.be k;have a8:=bq.be k;have bb:=br.be k;have H:=K.be k;have I:=N.be k;have bj:=eq8 K (fun g e=>bzG (a7 g e));have bm:=eq8 K (fun g e=>bzG (ba g e));have bk:=eq8 N (fun g e=>bzG (a7 g e));have bn:=eq8 N (fun g e=>bzG (ba g e));have bs:=vM K aE;have bt:=vM K (show w.1.size<=w.1.size+1 by omega);have bf:=eq7 K (show p<p+1 by omega);have bu:=vM N aE;have bv:=vM N (show w.1.size<=w.1.size+1 by omega);have bg:=eq7 N (show p<p+1 by omega);obtain⟨Q,S,rfl⟩:=K.slice;obtain⟨R,T,rfl⟩:=N.slice;have D:=k.mono (show p<=w.1.size by omega);have aj:=aB hs;by_cases al:(!(A==B))=true
   ·have av:=fun W (U:OwnN W (p+1) (.slice R r.length T) r) (F:NatAt W (.slice c a i) x.natAbs) (h3:NatAt W (.slice d b j) y.natAbs) (h4:p+1<=W.1.size)=>H8 (p+1) (.slice R r.length T) r x.natAbs y.natAbs L (.slice c a i) (.slice d b j) W h4 U aq F h3 (by omega) (by omega) bk bn a6 hL az (by omega);have ae:s+x*y=aF aA t-(aF aA r+(x.natAbs*y.natAbs:Nat)):=by
     have:=HM.out;rw[if_pos al] at this;rw[this,aj.out];omega
    have HR:=aB ae;have X:aF aA t+(aF aA r+(x.natAbs*y.natAbs:Nat))<=((M+x.natAbs*y.natAbs:Nat):Int):=by omega
    have an:=aB X;generalize x.natAbs*y.natAbs=m at *;clear ae ac ad ak hs a3 V af ag HM aj X bc a9 a0;go_enter func64,ntmps64;go_wp2_with fail;generalize (w.alloc (.cells #[.bool A,.slice c a i] 77)).alloc (.cells #[.bool B,.slice d b j] 77)=W at *;have o:=o.drew;have q:=q.drew;have f:=f.drew;have b1:=o.cell 1 rfl;have b2:=q.cell 1 rfl;have p1:=f.cell 1 rfl;have D:=D.drew;have I:OwnN W.drew (p+1) (.slice R r.length T) r:=I.be (aG _ _).drew;have H:OwnN W.drew (p+1) (.slice Q t.length S) t:=H.be (aG _ _).drew;have ab:p+1<=W.drew.1.size:=by show p+1<=W.1.size;omega
    have O:=aB k;clear k;go_region_with (first|(go_at_call 113;refine(av _ I a8.drew bb.drew ab).mono ?_;rintro e4 C ⟨v4,n,rfl,G,ar,Y,au,l⟩;obtain⟨u,z,rfl⟩:=G.slice;have o:=o.txt l bu;have q:=q.txt l bv;have f:=f.txt l bg;have b1:=o.cell 1 rfl;have b2:=q.cell 1 rfl;have p1:=f.cell 1 rfl;have f1:=f.free 1));all_goals (go_wp2_with fail)
    all_goals have ao:Apart (.slice Q t.length S) (.slice u n.length z):=fun g e e'=>l.apart (fun g E J=>hA g J E) (fun g e=>(H.lt g e).2) g e' e
    all_goals have ai:=(H.grown l.1 (fun g e E=>hA g E e)).grown (nV (w:=C) ⟨p,1,none⟩ (.slice u n.length z)) (fun g e=>by injection e with e;subst e;exact bf)
    all_goals have ay:=G.grown (nV (w:=C) ⟨p,1,none⟩ (.slice u n.length z)) (fun g e=>by injection e with e;subst e;exact eq7 G (aqC _))
    all_goals have ax:vO Z w (C.setCell ⟨p,1,none⟩ (.slice u n.length z)):=fun g U F=>(Below.heap_setCell C ⟨p,1,none⟩ _ g (by show g≠p;omega)).trans ((l.1.block g (aZ F O.out.size) (fun e=>by have:=bi g e.symm;omega)).trans (O.out.block g F))
    all_goals have P2:=f.set 1 (.slice u n.length z)
    all_goals have aw:=(D.trans ((l.belowB ab (fun g e=>(I.lt g e).1)).mono (Nat.le_succ p))).setCell (p:=⟨p,1,none⟩) (mC p) (.slice u n.length z)
    all_goals exact bodyPost_end (v:= .tuple #[]) (by simp[results,results64,go_sem]) rfl ⟨rfl,SumAt.now (Z:=C.1.size+p+1) ⟨_,_,t,n,⟨by omega,fun g e=>by have:=(ai.lt g e).2;simp at this;omega,fun g e=>by have:=(G.lt g e).2;omega⟩,P2,ai,ay,ap,ar,ao,a5,au,by rw[Y];exact HR.out,by rw[Y];exact an.out⟩,aw,ax⟩
   ·have av:=fun W (U:OwnN W (p+1) (.slice Q t.length S) t) (F:NatAt W (.slice c a i) x.natAbs) (h3:NatAt W (.slice d b j) y.natAbs) (h4:p+1<=W.1.size)=>H8 (p+1) (.slice Q t.length S) t x.natAbs y.natAbs L (.slice c a i) (.slice d b j) W h4 U ap F h3 (by omega) (by omega) bj bm a5 hL az (by omega);have ae:s+x*y=(aF aA t+(x.natAbs*y.natAbs:Nat))-aF aA r:=by
     have:=HM.out;rw[if_neg al] at this;rw[this,aj.out];omega
    have HR:=aB ae;have X:(aF aA t+(x.natAbs*y.natAbs:Nat))+aF aA r<=((M+x.natAbs*y.natAbs:Nat):Int):=by omega
    have an:=aB X;generalize x.natAbs*y.natAbs=m at *;have bz:(!(A==B))=false:=by simpa using al
    clear ae ac ad ak hs a3 V af ag HM aj X bc a9 a0 al;go_enter func64,ntmps64;go_wp2_with fail;generalize (w.alloc (.cells #[.bool A,.slice c a i] 77)).alloc (.cells #[.bool B,.slice d b j] 77)=W at *;have o:=o.drew;have q:=q.drew;have f:=f.drew;have b1:=o.cell 1 rfl;have b2:=q.cell 1 rfl;have p1:=f.cell 0 rfl;have D:=D.drew;have I:OwnN W.drew (p+1) (.slice R r.length T) r:=I.be (aG _ _).drew;have H:OwnN W.drew (p+1) (.slice Q t.length S) t:=H.be (aG _ _).drew;have ab:p+1<=W.drew.1.size:=by show p+1<=W.1.size;omega
    have O:=aB k;clear k;go_region_with (first|(go_at_call 113;refine(av _ H a8.drew bb.drew ab).mono ?_;rintro e4 C ⟨v4,n,rfl,G,ar,Y,au,l⟩;obtain⟨u,z,rfl⟩:=G.slice;have o:=o.txt l bs;have q:=q.txt l bt;have f:=f.txt l bf;have b1:=o.cell 1 rfl;have b2:=q.cell 1 rfl;have p1:=f.cell 0 rfl;have f1:=f.free 0));all_goals (go_wp2_with fail)
    all_goals have ao:Apart (.slice u n.length z) (.slice R r.length T):=l.apart hA (fun g e=>(I.lt g e).2)
    all_goals have ai:=(I.grown l.1 hA).grown (nV (w:=C) ⟨p,0,none⟩ (.slice u n.length z)) (fun g e=>by injection e with e;subst e;exact bg)
    all_goals have ay:=G.grown (nV (w:=C) ⟨p,0,none⟩ (.slice u n.length z)) (fun g e=>by injection e with e;subst e;exact eq7 G (aqC _))
    all_goals have ax:vO Z w (C.setCell ⟨p,0,none⟩ (.slice u n.length z)):=fun g U F=>(Below.heap_setCell C ⟨p,0,none⟩ _ g (by show g≠p;omega)).trans ((l.1.block g (aZ F O.out.size) (fun e=>by have:=bh g e.symm;omega)).trans (O.out.block g F))
    all_goals have P2:=f.set 0 (.slice u n.length z)
    all_goals have aw:=(D.trans ((l.belowB ab (fun g e=>(H.lt g e).1)).mono (Nat.le_succ p))).setCell (p:=⟨p,0,none⟩) (mC p) (.slice u n.length z)
    all_goals exact bodyPost_end (v:= .tuple #[]) (by simp[results,results64,go_sem]) rfl ⟨rfl,SumAt.now (Z:=C.1.size+p+1) ⟨_,_,n,r,⟨by omega,fun g e=>by have:=(G.lt g e).2;omega,fun g e=>by have:=(ai.lt g e).2;simp at this;omega⟩,P2,ay,ai,ar,aq,ao,au,a6,by rw[Y];exact HR.out,by rw[Y];exact an.out⟩,aw,ax⟩
def Bx.from{b:Nat}(h:Bx w b cs t)(a:vO Z w w')(c:Z<=b):Bx w' b cs t:=(a b c h.lt).trans h
def SumAt.drew{p:Nat}{s:Int}(h:SumAt w p Z L M s):SumAt w.drew p Z L M s:=h.be (aG _ _).drew
def OF(p Z L M:Nat)(s x y:Int)(n:Bool)(a:Option Addr)(c b:Nat)(l:Bool)(d:Option Addr)(i f:Nat)(w:World)(h:SumAt w p Z L M s)(G:Z<=w.1.size)
  (D:IntAt w (.agg #[.bool n,.slice a c b]) x)(u:IntAt w (.agg #[.bool l,.slice d i f]) y)(X:∀g,(Value.slice a c b).ownBlock=some g->g<p)(Y:∀g,(Value.slice d i f).ownBlock=some g->g<p)
  (R:nl x.natAbs+nl y.natAbs+1<=L)(F:L+2<=aJ)(S:M+x.natAbs*y.natAbs<BN^L):
  Calls prog 65 #[.pointer (some ⟨p,0,none⟩),.agg #[.bool n,.slice a c b],.agg #[.bool l,.slice d i f]] w
   fun e w'=>e= .returned (.tuple #[])∧SumAt w' p w'.1.size L (M+x.natAbs*y.natAbs) (s-x*y)∧Below p w w':=by
 have J:=h.lt;have V:nl x.natAbs<=17592186044416:=by unfold aJ at F;omega
 have H:=fun W E (K:SumAt W p Z L M s) (N:IntAt W (.agg #[.bool E,.slice a c b]) (-x)) (O:IntAt W (.agg #[.bool l,.slice d i f]) y)=>fy1 p Z L M s (-x) y E a c b l d i f W K N O X Y (by rw[azJ];exact R) F (by rw[azJ];exact S);rw[azJ,Int.neg_mul,<-Int.sub_eq_add_neg] at H;generalize x.natAbs*y.natAbs=m at *;generalize s-x*y=r at *;have j:Bx ((w.alloc (.cells #[.bool n,.slice a c b] 77)).alloc (.cells #[.bool l,.slice d i f] 77)) (w.1.size) [.bool n,.slice a c b] 77:=(Bx.newAt w [.bool n,.slice a c b] 77 (w.1.size) (by simp)).alloc (.cells #[.bool l,.slice d i f] 77);have k:Bx ((w.alloc (.cells #[.bool n,.slice a c b] 77)).alloc (.cells #[.bool l,.slice d i f] 77)) (w.1.size+1) [.bool l,.slice d i f] 77:=Bx.newAt (w.alloc (.cells #[.bool n,.slice a c b] 77)) [.bool l,.slice d i f] 77 (w.1.size+1) (by simp);have o:Below w.1.size w ((w.alloc (.cells #[.bool n,.slice a c b] 77)).alloc (.cells #[.bool l,.slice d i f] 77)):=((aG _ _).alloc (by simp) _).alloc (by simp<;>omega) _;go_enter func65,ntmps65;go_wp2_with fail;generalize (w.alloc (.cells #[.bool n,.slice a c b] 77)).alloc (.cells #[.bool l,.slice d i f] 77)=W at *;have D:=(D.be o).drew;have u:=(u.be o).drew;have h:=(h.be o).drew;have t:=(o.mono (iE J)).drew;have o:=o.drew;have U:p<=W.drew.1.size:=aH (iE J) o.size;have j:=j.drew;have k:=k.drew;replace z:=j.cell 0 rfl;replace A:=j.cell 1 rfl;replace B:=k.cell 0 rfl;replace C:=k.cell 1 rfl
 go_region_held3 (fun w'=>w'.cell? ⟨w.1.size,0,none⟩=some (.bool n)∧w'.cell? ⟨w.1.size,1,none⟩=some (.slice a c b)∧w'.cell? ⟨w.1.size+1,0,none⟩=some (.bool l)∧w'.cell? ⟨w.1.size+1,1,none⟩=some (.slice d i f))
  (first|(with_reducible exact⟨z,A,B,C⟩))
  (first
   |(go_at_call 96;refine(OM x n a c b _ D V).mono ?_;rintro e4 w4 ⟨E,rfl,P,q⟩;have j:=j.be q;have k:=k.be q;have z:=j.cell 0 rfl;have A:=j.cell 1 rfl;have B:=k.cell 0 rfl;have C:=k.cell 1 rfl;have h:=h.be q;have u:=u.be q;have t:=t.trans (q.mono U))
   |(go_at_call 64;refine(H _ _ h P u).mono ?_;rintro e5 w5 ⟨rfl,Q,T,I⟩;have j:=j.from I G;have k:=k.from I (Nat.le_succ_of_le G);have z:=j.cell 0 rfl;have A:=j.cell 1 rfl;have B:=k.cell 0 rfl;have C:=k.cell 1 rfl;have t:=t.trans T))
 go_wp2_with fail;exact bodyPost_end (v:= .tuple #[]) (by simp[results,results65,go_sem]) rfl ⟨rfl,Q,t⟩
def OwnN.rd{c:Nat}(h:OwnN w B (.slice A n c) zs):Rd .u64 w A zs∧Old w A∧n=zs.length∧zs.length<=c:=by
 rcases id h.2 with ⟨e,d⟩|⟨g,k,l,e,_⟩
 ·have a:zs=[]:=bX d;subst a;simp only[Value.slice.injEq] at e;obtain⟨rfl,rfl,rfl⟩:=e;exact⟨Rd.nil,Old.none,rfl,aE⟩
 ·simp only[Value.slice.injEq] at e;obtain⟨rfl,rfl,rfl⟩:=e;by_cases a:0<zs.length
  ·obtain⟨m,e,o,i,p,b,j⟩:=h.parts a;simp only[Option.some.injEq,Addr.mk.injEq] at e;obtain⟨rfl, -, -⟩:=e;exact⟨Rd.mk b.lt j,Old.mk b.lt,rfl,i⟩
  ·have f:zs=[]:=bX (by omega);subst f;exact⟨Rd.nil,Old.mk (h.lt g (by simp[Value.ownBlock])).2,rfl,dC _⟩
def AB(p Z L M:Nat)(s:Int)(w:World)(h:SumAt w p Z L M s)(af:L+2<=aJ):
  Calls prog 66 #[.pointer (some ⟨p,0,none⟩)] w (dW w s):=by
 unfold aJ at af;obtain⟨pv,nv,t,r, -,P,N,O,J,K, -,ak,al,hs, -⟩:=h;obtain⟨a1,c1,rfl⟩:=N.slice;obtain⟨a2,c2,rfl⟩:=O.slice;have aj:=y9 aQ J;have ai:=y9 aQ K;obtain⟨m,G⟩:∃m:Nat,aF aA t=m:=⟨(aF aA t).toNat,by omega⟩;obtain⟨n,hn⟩:∃n:Nat,aF aA r=n:=⟨(aF aA r).toNat,by omega⟩;have am:nl m<=t.length:=by
  rw[<-aK,<-oE J G];exact oF t
 have an:nl n<=r.length:=by
  rw[<-aK,<-oE K hn];exact oF r
 have ae:s=(m:Int)-n:=by rw[hs,G,hn]
 have B:=aB ae;have R:Bx (w.alloc (.cells #[.bool false,.slice none 0 0] 77)) (w.1.size) [.bool false,.slice none 0 0] 77:=Bx.newAt w [.bool false,.slice none 0 0] 77 (w.1.size) (by simp);have a:Below w.1.size w (w.alloc (.cells #[.bool false,.slice none 0 0] 77)):=(aG _ _).alloc (by simp) _;obtain⟨U,o1, -,e1⟩:=(N.be a).rd;obtain⟨V,o2, -,I⟩:=(O.be a).rd;have P:=P.be a;have p0:=P.cell 0 rfl;have p1:=P.cell 1 rfl;have c:=NatAt.trim U J G e1 o1;have f:=NatAt.trim V K hn I o2;have X:=fun k=>gC a1 t t.length c1 _ rfl (U.drewN k) e1 (by omega);have Y:=fun k=>gC a2 r r.length c2 _ rfl (V.drewN k) I (by omega);obtain⟨A1,C1,e, -⟩:=id c;simp only[Value.slice.injEq] at e;obtain⟨-,ac, -⟩:=e;obtain⟨A2,C2,e, -⟩:=id f;simp only[Value.slice.injEq] at e;obtain⟨-,ad, -⟩:=e;rw[ac] at c X;rw[ad] at f Y;clear hs G hn ae aj ai ac ad;go_enter func66,ntmps66;go_wp2_with fail;generalize w.alloc (.cells #[.bool false,.slice none 0 0] 77)=W at *;go_quiet (first|(go_at_call_of 114 (Value.slice a1 t.length c1);exact vX (X _))|(go_at_call_of 114 (Value.slice a2 r.length c2);exact vX (Y _)));go_wp2_with fail;have a:=kI a nq;have c:=c.drewN nq;have f:=f.drewN nq;have R:Bx (W.drewN nq) w.1.size [.bool false,.slice none 0 0] 77:=R;clear X Y P p0 p1 U V o1 o2 N O;have ab:=kJ (m:Int) (n:Int);generalize W.drewN nq=W1 at *;refine(QF m n _ _ _ c f (by omega) (by omega)).mono ?_;rintro I w2 ⟨rfl,Q⟩;replace R:=R.be Q;replace C:=R.cell 0 rfl;replace E:=R.free 0;replace D:=R.cell 1 rfl;replace F:=R.free 1;replace b:=Keep.be Q;replace c:=c.ke b;replace f:=f.ke b;replace a:=aC a Q;by_cases ah:n<=m
 ·have ag:0<=bZ (m:Int) (n:Int):=by omega
  have z:s.natAbs=m-n:=by have:=B.out;omega
  have hl:nl (m-n)<=nl m:=cK (bxR _ _);have HN:=aB z;have A:s=if false=true then -((m-n:Nat):Int) else ((m-n:Nat):Int):=by have:=B.out;simp;omega
  have H:=aB A;generalize bZ (m:Int) (n:Int)=cc at *;clear ab z A;go_wp2_with fail;refine(FF m n _ _ _ c f (by omega) ah).mono ?_;rintro e3 w3 ⟨v3,rfl,x, -,j⟩;obtain⟨A3,c3,rfl, -, -, -⟩:=id x;replace R:=R.be j;replace C:=R.cell 0 rfl;replace E:=R.free 0;replace D:=R.cell 1 rfl;replace F:=R.free 1;replace b:=Keep.be j;replace a:=aC a j;generalize m-n=d at *;go_wp2_with fail;refine(vQ false _ d s _ x (by omega) H.out).mono ?_;rintro e4 w4 ⟨v4,rfl,y,l⟩;obtain⟨q,g,o,i,rfl⟩:=y.form;replace R:=R.be l;replace C:=R.cell 0 rfl;replace E:=R.free 0;replace D:=R.cell 1 rfl;replace F:=R.free 1;replace b:=Keep.be l;replace a:=aC a l;go_wp2_with fail;obtain⟨z0,z1, -,S,b⟩:=jU (s:=q) (u:= .slice g o i) a (by omega) R;have T:=y.ke b;generalize (w4.setCell ⟨w.1.size,0,none⟩ (.bool q)).setCell ⟨w.1.size,1,none⟩ (.slice g o i)=W6 at *;exact aM (v:= .agg #[.bool q,.slice g o i]) (by simp[results,results66,go_sem,z0,z1]) rfl ⟨_,rfl,T,S⟩
 ·have ag:¬0<=bZ (m:Int) (n:Int):=by omega
  have z:s.natAbs=n-m:=by have:=B.out;omega
  have hl:nl (n-m)<=nl n:=cK (bxR _ _);have HN:=aB z;have A:s=if true=true then -((n-m:Nat):Int) else ((n-m:Nat):Int):=by have:=B.out;simp;omega
  have H:=aB A;generalize bZ (m:Int) (n:Int)=cc at *;clear ab z A;go_wp2_with fail;refine(FF n m _ _ _ f c (by omega) (by omega)).mono ?_;rintro e3 w3 ⟨v3,rfl,x, -,j⟩;obtain⟨A3,c3,rfl, -, -, -⟩:=id x;replace R:=R.be j;replace C:=R.cell 0 rfl;replace E:=R.free 0;replace D:=R.cell 1 rfl;replace F:=R.free 1;replace b:=Keep.be j;replace a:=aC a j;generalize n-m=d at *;go_wp2_with fail;refine(vQ true _ d s _ x (by omega) (H.out.trans (by simp))).mono ?_;rintro e4 w4 ⟨v4,rfl,y,l⟩;obtain⟨q,g,o,i,rfl⟩:=y.form;replace R:=R.be l;replace C:=R.cell 0 rfl;replace E:=R.free 0;replace D:=R.cell 1 rfl;replace F:=R.free 1;replace b:=Keep.be l;replace a:=aC a l;go_wp2_with fail;obtain⟨z0,z1, -,S,b⟩:=jU (s:=q) (u:= .slice g o i) a (by omega) R;have T:=y.ke b;generalize (w4.setCell ⟨w.1.size,0,none⟩ (.bool q)).setCell ⟨w.1.size,1,none⟩ (.slice g o i)=W6 at *;exact aM (v:= .agg #[.bool q,.slice g o i]) (by simp[results,results66,go_sem,z0,z1]) rfl ⟨_,rfl,T,S⟩
def bS(q:Rat):Int:=if q.den=1 then 0 else q.den
def RatAt(w:World)(v:Value)(q:Rat):Prop:=∃s u a b,v= .agg #[.bool s,u,.bool a,b]∧IntAt w (.agg #[.bool s,u]) q.num∧IntAt w (.agg #[.bool a,b]) (bS q)
def iF(w:World)(q:Rat)(e:Ending)(w':World):Prop:=∃v,e= .returned v∧RatAt w' v q∧Below w.1.size w w'
def RL(K:Nat)(q:Rat):Prop:=nl q.num.natAbs<=K∧nl q.den<=K
def RatAt.be(h:RatAt w v q)(a:Below w.1.size w w'):RatAt w' v q:=by
 obtain⟨s,u,d,f,e,b,c⟩:=h;exact⟨s,u,d,f,e,b.be a,c.be a⟩
def RatAt.ke(h:RatAt w v q)(a:Keep w w'):RatAt w' v q:=by
 obtain⟨s,u,d,f,e,b,c⟩:=h;exact⟨s,u,d,f,e,b.ke a,c.ke a⟩
def RatAt.drew(h:RatAt w v q):RatAt w.drew v q:=h
def RatAt.form(h:RatAt w v q):∃s A k c f a d c',v= .agg #[.bool s,.slice A k c,.bool f,.slice a d c']:=by
 obtain⟨s,u,f,j,rfl,g,i⟩:=h;obtain⟨_,A,k,c,e⟩:=g.form;obtain⟨_,a,d,c',b⟩:=i.form;simp at e b;rw[e.2,b.2];exact⟨_,_,_,_,_,_,_,_,rfl⟩
def RatAt.num{b:Bool}(h:RatAt w (.agg #[.bool s,u,.bool b,c]) q):IntAt w (.agg #[.bool s,u]) q.num:=by
 obtain⟨_,_,_,_,e,a,d⟩:=h;simp at e;rw[e.1,e.2.1];exact a
def RatAt.den{a:Bool}(h:RatAt w (.agg #[.bool s,u,.bool a,b]) q):IntAt w (.agg #[.bool a,b]) (bS q):=by
 obtain⟨_,_,_,_,e,d,c⟩:=h;simp at e;rw[e.2.2.1,e.2.2.2];exact c
def RatAt.of{a:Bool}{n d:Int}(f:IntAt w (.agg #[.bool s,u]) n)(g:IntAt w (.agg #[.bool a,b]) d)(c:q.num=n)(e:bS q=d):RatAt w (.agg #[.bool s,u,.bool a,b]) q:=
 ⟨s,u,a,b,rfl,by rw[c];exact f,by rw[e];exact g⟩
def mY(q:Rat):nl (bS q).natAbs<=nl q.den:=by
 refine cK ?_;unfold bS;split<;>omega
def fV:bS q=0↔q.den=1:=by
 have:=q.den_nz;unfold bS;split<;>omega
def mI(h:q.den≠1):bS q=q.den:=by unfold bS;rw[if_neg h]
def vK(q:Rat)(n d:Int)(B A:Value)(w:World)(hn:IntAt w B n)(e:IntAt w A d)(z:q.num=n)(D:(q.den:Int)=d)(E:nl d.natAbs<=17592186044416):
  Calls prog 121 #[B,A] w (iF w q):=by
 obtain⟨m,g,l,h,rfl⟩:=hn.form;obtain⟨u,o,t,r,rfl⟩:=e.form;obtain⟨W,x,a,b,c,R⟩:=gE w [.bool m,.slice g l h] 77 [.bool u,.slice o t r] 77 [.bool false,.slice none 0 0,.bool false,.slice none 0 0] 86;have p:=aa b.g2 (aa c.g2 R.g4);go_enter func121,ntmps121;go_wp2_with fail;(try rw[x]);clear x;have hn:=hn.be a;have e:=e.be a;refine(S3 d _ _ e (by omega)).mono ?_;rintro F G ⟨rfl,k⟩;replace b:=b.be k;replace c:=c.be k;replace R:=R.be k;replace p:=aa b.k2 (aa c.k2 R.g4);replace f:=Keep.be k;replace hn:=hn.ke f;replace e:=e.ke f;replace a:=aC a k;by_cases y:d=1
 ·have s:decide (d=1)=true:=by simpa using y
  rw[s];go_wp2_with fail;obtain⟨C,i,R,a,f,j⟩:=R.put4 a (by omega) (.bool m) (.slice g l h) (.bool false) (.slice none 0 0) rfl rfl;replace b:=j b (by omega);replace c:=j c (by omega);replace hn:=hn.ke f;rw[i];clear i;replace p:=aa b.k2 (aa c.k2 R.k4);exact aM (v:= .agg #[.bool m,.slice g l h,.bool false,.slice none 0 0]) (by simp[results,results121,go_sem,R.k4]) rfl ⟨_,rfl,RatAt.of hn (IntAt.zero _) z (fV.2 (by omega)),a⟩
 ·have s:decide (d=1)=false:=by simpa using y
  rw[s];go_wp2_with fail;obtain⟨C,i,R,a,f,j⟩:=R.put4 a (by omega) (.bool m) (.slice g l h) (.bool u) (.slice o t r) rfl rfl;replace b:=j b (by omega);replace c:=j c (by omega);replace hn:=hn.ke f;replace e:=e.ke f;rw[i];clear i;replace p:=aa b.k2 (aa c.k2 R.k4);exact aM (v:= .agg #[.bool m,.slice g l h,.bool u,.slice o t r]) (by simp[results,results121,go_sem,R.k4]) rfl ⟨_,rfl,RatAt.of hn e z ((mI (by omega)).trans D),a⟩
def F4{n d:Int}(c:0<d):((n:Rat)/d).num=n.tdiv (Nat.gcd n.natAbs d.natAbs:Nat)∧((((n:Rat)/d).den:Nat):Int)=d.tdiv (Nat.gcd n.natAbs d.natAbs:Nat):=by
 have e:d.gcd n=Nat.gcd n.natAbs d.natAbs:=by rw[Int.gcd_comm];rfl
 have a:((Nat.gcd n.natAbs d.natAbs:Nat):Int)∣n:=Int.ofNat_dvd_left.2 (aqX _ _);have b:((Nat.gcd n.natAbs d.natAbs:Nat):Int)∣d:=Int.ofNat_dvd_left.2 (azU _ _);rw[<-Rat.divInt_eq_div,Rat.num_divInt,Rat.den_divInt,if_neg (by omega),e,aqI c,az5,bzN a,bzN b];refine⟨rfl,?_⟩;rw[azR];congr 1;omega
def F5(n d:Int):((-n:Int):Rat)/((-d:Int):Rat)=(n:Rat)/d:=by
 rw[bx4,bx4];grind
def F7(d:Int):((0:Int):Rat)/(d:Rat)=0:=by
 rw[aq4];grind
end Go.Proofs.YtmiaanioldpfgaaGreatDoor
namespace Go.Proofs.YtmiaanioldpfgaaGreatDoor
variable{i m n:Nat}
class CR(R:Type)[Add R][Mul R][Sub R][OfNat R 0]:Prop where
 add_comm:∀a b:R,a+b=b+a
 add_assoc:∀a b c:R,a+b+c=a+(b+c)
 add_zero:∀a:R,a+0=a
 mul_comm:∀a b:R,a*b=b*a
 mul_assoc:∀a b c:R,a*b*c=a*(b*c)
 mul_zero:∀a:R,a*0=0
 mul_add:∀a b c:R,a*(b+c)=a*b+a*c
 add_sub:∀a b:R,a+(b-a)=b
instance:CR Int:=⟨Int.add_comm,Int.add_assoc,Int.add_zero,Int.mul_comm,Int.mul_assoc,Int.mul_zero,Int.mul_add,fun a b=>by omega⟩
instance:CR Rat:=⟨Rat.add_comm,Rat.add_assoc,Rat.add_zero,Rat.mul_comm,Rat.mul_assoc,Rat.mul_zero,Rat.mul_add,fun a b=>by grind⟩
section
variable {R:Type}[Add R][OfNat R 0]
def bW(f:Nat->R):Nat->R
 |0=>0
 |n+1=>bW f n+f n
def mH{f g:Nat->R}(h:∀k,k<n->f k=g k):bW f n=bW g n:=by
 induction n with
 |zero=>rfl
 |succ n a=>rw[bW,bW,a (fun k b=>h k (by omega)),h n (by omega)]
variable [Mul R]
def conv(p q:Nat->R):Nat->R:=fun i=>bW (fun k=>p k*q (i-k)) (i+1)
def gL{p a q b:Nat->R}(h:∀i,p i=a i)(c:∀i,q i=b i)(i:Nat):conv p q i=conv a b i:=
 mH (fun k _=>by rw[h,c])
variable [Sub R][CR R]
def fy3(a:R):0+a=a:=by rw[CR.add_comm,CR.add_zero]
def rE(a:R):0*a=0:=by rw[CR.mul_comm,CR.mul_zero]
def O1(a b c:R):(a+b)*c=a*c+b*c:=by rw[CR.mul_comm,CR.mul_add,CR.mul_comm c a,CR.mul_comm c b]
def O2(a b c d:R):a+b+(c+d)=a+c+(b+d):=by
 rw[CR.add_assoc,<-CR.add_assoc b c d,CR.add_comm b c,CR.add_assoc c b d,<-CR.add_assoc]
def F2(f g:Nat->R)(n:Nat):bW (fun k=>f k+g k) n=bW f n+bW g n:=by
 induction n with
 |zero=>simp only[bW];exact(CR.add_zero 0).symm
 |succ n a=>simp only[bW,a];exact O2 _ _ _ _
def zZ(c:R)(f:Nat->R)(n:Nat):bW (fun k=>c*f k) n=c*bW f n:=by
 induction n with
 |zero=>simp only[bW];exact(CR.mul_zero c).symm
 |succ n a=>simp only[bW,a];exact(CR.mul_add _ _ _).symm
def qC{f:Nat->R}(h:∀k,k<n->f k=0):bW f n=0:=by
 induction n with
 |zero=>rfl
 |succ n a=>rw[bW,a (fun k b=>h k (by omega)),h n (by omega)];exact CR.add_zero 0
def AA(f:Nat->R)(m n:Nat):bW f (m+n)=bW f m+bW (fun k=>f (m+k)) n:=by
 induction n with
 |zero=>simp only[bW,Nat.add_zero];exact(CR.add_zero _).symm
 |succ n a=>rw[<-Nat.add_assoc,bW,bW,a];exact CR.add_assoc _ _ _
def cyP{f:Nat->R}{j:Nat}(g:j<n)(h:∀k,k<n->k≠j->f k=0):bW f n=f j:=by
 induction n with
 |zero=>omega
 |succ n d=>
  rw[bW];by_cases e:j=n
  ·subst e;rw[qC (fun k b=>h k (by omega) (by omega))];exact fy3 _
  ·rw[d (by omega) (fun k b c=>h k (by omega) c),h n (by omega) (fun a=>e a.symm)];exact CR.add_zero _
def O3(f:Nat->R)(n:Nat):bW f (n+1)=f 0+bW (fun k=>f (k+1)) n:=by
 rw[Nat.add_comm n 1,AA];simp only[bW,Nat.add_comm 1];rw[fy3]
def fqE(f:Nat->R)(n:Nat):bW f n=bW (fun k=>f (n-1-k)) n:=by
 induction n with
 |zero=>rfl
 |succ n a=>
  rw[O3 (fun k=>f (n+1-1-k)),bW,a];have:bW (fun k=>f (n+1-1-(k+1))) n=bW (fun k=>f (n-1-k)) n:=mH (fun k b=>by congr 1;omega);rw[this];simp only[Nat.add_sub_cancel,Nat.sub_zero];exact CR.add_comm _ _
def qD(p a q:Nat->R)(i:Nat):conv (fun k=>p k+a k) q i=conv p q i+conv a q i:=by
 unfold conv
 rw[<-F2];exact mH (fun k _=>O1 _ _ _)
def eI(c:R)(p q:Nat->R)(i:Nat):conv (fun k=>c*p k) q i=c*conv p q i:=by
 unfold conv
 rw[<-zZ];exact mH (fun k _=>CR.mul_assoc _ _ _)
def sO(p q:Nat->R)(i:Nat):conv p q i=conv q p i:=by
 unfold conv
 rw[fqE];refine mH (fun k a=> ?_);rw[show i+1-1-k=i-k by omega,show i-(i-k)=k by omega];exact CR.mul_comm _ _
def rF(c:R)(p q:Nat->R)(i:Nat):conv p (fun k=>c*q k) i=c*conv p q i:=by
 rw[sO,eI,sO q]
def lK{p q:Nat->R}(h:∀i,p i=0)(i:Nat):conv p q i=0:=
 qC (fun k _=>by rw[h];exact rE _)
def qE(c:R)(j:Nat)(q:Nat->R)(i:Nat):conv (fun k=>if k=j then c else 0) q i=if j<=i then c*q (i-j) else 0:=by
 unfold conv
 by_cases h:j<=i
 ·rw[if_pos h,cyP (j:=j) (by omega) (fun k _ a=>by simp only[if_neg a];exact rE _)];simp only[if_true]
 ·rw[if_neg h];exact qC (fun k b=>by simp only[if_neg (show¬k=j by omega)];exact rE _)
def rG{p q:Nat->R}(a:∀i,m<=i->p i=0)(b:∀i,n<=i->q i=0)(hi:m+n<=i+1):conv p q i=0:=by
 refine qC (fun k c=> ?_);by_cases h:m<=k
 ·rw[a k h];exact rE _
 ·rw[b (i-k) (by omega)];exact CR.mul_zero _
def p5{p q:Nat->R}(a:∀i,m<i->p i=0)(b:∀i,n<i->q i=0):conv p q (m+n)=p m*q n:=by
 unfold conv
 rw[cyP (j:=m) (by omega) (fun k c d=> ?_),show m+n-m=n by omega];by_cases h:m<k
 ·rw[a k h];exact rE _
 ·rw[b (m+n-k) (by omega)];exact CR.mul_zero _
def fqF(m:R)(w q v rest:Nat->R)(n k:Nat)(hn:0<n)(hv:∀i,n<=i->v i=0)(g:∀i,n+k<=i->rest i=0)
  (f:∀i,m*w i=conv q v i+rest i)(i:Nat):
  (m*v (n-1))*w i=conv (fun j=>q j*v (n-1)+(if j=k then rest (n-1+k) else 0)) v i+(if i<n-1+k then rest i*v (n-1)-(if k<=i then rest (n-1+k)*v (i-k) else 0) else 0):=by
 have b:conv (fun j=>q j*v (n-1)+(if j=k then rest (n-1+k) else 0)) v i=v (n-1)*conv q v i+(if k<=i then rest (n-1+k)*v (i-k) else 0):=by
  rw[qD,qE];congr 1;rw[<-eI];exact gL (fun j=>CR.mul_comm _ _) (fun _=>rfl) i
 rw[b];have c:=f i;have d:m*v (n-1)*w i=v (n-1)*conv q v i+v (n-1)*rest i:=by
  rw[CR.mul_comm m,CR.mul_assoc,c,CR.mul_add]
 rw[d];by_cases a:i<n-1+k
 ·rw[if_pos a,CR.add_assoc,CR.add_sub,CR.mul_comm (rest i)]
 ·rw[if_neg a,if_pos (by omega),CR.add_zero];by_cases e:i=n-1+k
  ·subst e;rw[show n-1+k-k=n-1 by omega,CR.mul_comm (rest _)]
  ·rw[hv (i-k) (by omega),g i (by omega),CR.mul_zero,CR.mul_zero]
end
section
variable {α:Type}
def aW(z:α->Bool):List α->List α
 |[]=>[]
 |a :: l=>match aW z l with
  |[]=>if z a then [] else [a]
  |b :: m=>a :: b :: m
def zU(z:α->Bool)(l:List α)(a:α):aW z (l++[a])=if z a then aW z l else l++[a]:=by
 induction l with
 |nil=>simp[aW]
 |cons b l d=>
  rw[List.cons_append,aW,d];by_cases h:z a=true
  ·simp only[if_pos h];rfl
  ·simp only[if_neg h];cases l with
   |nil=>rfl
   |cons c m=>rfl
def pZ(z:α->Bool)(l:List α):∃m,l=aW z l++m∧(∀a∈m,z a=true)∧∀a,(aW z l).getLast?=some a->z a=false:=by
 induction l with
 |nil=>exact⟨[],rfl,(fun _ h=>by cases h),(fun a h=>by simp[aW] at h)⟩
 |cons b l i=>
  obtain⟨m,e,f,g⟩:=i;rw[aW];cases ht:aW z l with
  |nil=>
   rw[ht,List.nil_append] at e;by_cases h:z b=true
   ·refine⟨b :: m,by simp[h,e],fun a d=> ?_,fun a d=>by simp[h] at d⟩;rcases List.mem_cons.1 d with rfl|d
    ·exact h
    ·exact f a d
   ·refine⟨m,by simp[h,e],f,fun a d=> ?_⟩;simp[h] at d;subst d;simpa using h
  |cons c k=>
   refine⟨m,by rw[ht] at e;simp[e],f,fun a d=>g a ?_⟩;rw[ht];rw[List.getLast?_cons_cons] at d;exact d
def oY(z:α->Bool)(l:List α):(aW z l).length<=l.length:=by
 obtain⟨m,h,_⟩:=pZ z l;have:=congrArg List.length h;rw[List.length_append] at this;omega
def F1(z:α->Bool)(l:List α):aW z l=l.take (aW z l).length:=by
 obtain⟨m,h,_⟩:=pZ z l;have:(aW z l++m).take (aW z l).length=aW z l:=by simp
 rw[<-h] at this;exact this.symm
def NY{z:α->Bool}{l:List α}(h:∀a,l.getLast?=some a->z a=false):aW z l=l:=by
 obtain⟨m,c,d,_⟩:=pZ z l;by_cases b:m=[]
 ·rw[b,List.append_nil] at c;exact c.symm
 ·exfalso;have f:=List.getLast?_eq_some_getLast b;have:l.getLast?=some (m.getLast b):=by
   rw[c,List.getLast?_append,f];rfl
  have e:=h _ this;rw[d _ (List.getLast_mem b)] at e;cases e
def zV(z:α->Bool)(l:List α){a:α}(h:l[n]? =some a)(b:z a=true):aW z (l.take (n+1))=aW z (l.take n):=by
 rw[List.take_add_one,h,Option.toList_some,zU,if_pos b]
def zW(z:α->Bool)(l:List α){a:α}(h:l[n]? =some a)(b:z a=false):aW z (l.take (n+1))=l.take (n+1):=by
 rw[List.take_add_one,h,Option.toList_some,zU,if_neg (by rw[b];simp)]
def rC{z:α->Bool}{l:List α}{a:α}(h:a∈aW z l):a∈l:=by
 rw[F1] at h;exact List.mem_of_mem_take h
end
section
variable {α:Type}[OfNat α 0]
def cf(l:List α)(i:Nat):α:=l.getD i 0
def aN(l:List α):Prop:=∀a,l.getLast?=some a->a≠0
def eR(i:Nat):cf ([]:List α) i=0:=by simp[cf]
def rD{l:List α}{a:α}(h:l[i]? =some a):cf l i=a:=by simp[cf,h]
def fZ{l:List α}(h:i<l.length):cf l i=l[i]:=by simp[cf,h]
def bV{l:List α}(h:l.length<=i):cf l i=0:=by simp[cf,h]
def mG{β:Type}[OfNat β 0](f:β->α)(h:f 0=0)(l:List β)(i:Nat):cf (l.map f) i=f (cf l i):=by
 unfold cf;rw[List.getD_eq_getElem?_getD,List.getD_eq_getElem?_getD,List.getElem?_map];cases l[i]? <;>simp[h]
def qA(f:Nat->α)(n i:Nat):cf ((List.range n).map f) i=if i<n then f i else 0:=by
 unfold cf;rw[List.getD_eq_getElem?_getD,List.getElem?_map];by_cases h:i<n
 ·rw[if_pos h,List.getElem?_range h];rfl
 ·rw[if_neg h,List.getElem?_eq_none (by simpa using h)];rfl
def vJ{l:List α}{a:α}(h:l.getLast?=some a):cf l (l.length-1)=a:=by
 rw[List.getLast?_eq_getElem?] at h;exact rD h
def oZ{a b:List α}(g:aN a)(k:aN b)(h:∀i,cf a i=cf b i):a=b:=by
 have j:∀{a b:List α},aN a->(∀i,cf a i=cf b i)->a.length<=b.length:=by
  intro a b g h;rcases Nat.lt_or_ge b.length a.length with c|c
  ·exfalso;have l:a≠[]:=by intro e;rw[e] at c;simp at c
   have d:=List.getLast?_eq_some_getLast l;have f:=vJ d;rw[h,bV (by omega)] at f;exact g _ d f.symm
  ·exact c
 have c:a.length=b.length:=Nat.le_antisymm (j g h) (j k (fun i=>(h i).symm));refine List.ext_getElem c (fun i d f=> ?_);have:=h i;rw[fZ d,fZ f] at this;exact this
variable [DecidableEq α]
def aV(a:α):Bool:=decide (a=0)
def jS(l:List α):aN (aW aV l):=by
 intro a b;obtain⟨m,_,_,h⟩:=pZ aV l;have:=h a b;simpa [aV] using this
def qB{l:List α}(h:aN l):aW aV l=l:=NY (fun a b=>by simpa [aV] using h a b)
def iS(l:List α)(i:Nat):cf (aW aV l) i=cf l i:=by
 obtain⟨m,a,c,_⟩:=pZ aV l;by_cases h:i<(aW aV l).length
 ·unfold cf;conv=>rhs;rw[a]
  simp[List.getElem?_append_left h]
 ·rw[bV (by omega)];by_cases b:i<l.length
  ·rw[fZ b];have d:l[i]∈m:=by
    have e:l[i]? =m[i-(aW aV l).length]? :=by
     conv=>lhs;rw[a]
     rw[List.getElem?_append_right (by omega)]
    rw[List.getElem?_eq_getElem b] at e;exact List.mem_of_getElem? e.symm
   have:=c _ d;exact(by simpa [aV] using this:l[i]=0).symm
  ·rw[bV (by omega)]
end
def O0(f:Nat->Int)(n:Nat):((bW f n:Int):Rat)=bW (fun k=>(f k:Rat)) n:=by
 induction n with
 |zero=>rfl
 |succ n a=>rw[bW,bW,Rat.intCast_add,a]
def oD(p q:Nat->Int)(i:Nat):((conv p q i:Int):Rat)=conv (fun k=>(p k:Rat)) (fun k=>(q k:Rat)) i:=by
 unfold conv
 rw[O0];exact mH (fun k _=>by rw[Rat.intCast_mul])
def fqD{A B:Nat->Rat}{x y q r:Nat->Int}{xd yd m:Int}(f:∀i,(x i:Rat)=A i*xd)(l:∀i,(y i:Rat)=B i*yd)(g:xd≠0)(n:yd≠0)(d:m≠0)
  (h:∀i,m*x i=conv q y i+r i)(i:Nat):
  conv (fun k=>(q k*yd:Rat)/(xd*m)) B i+(r i:Rat)/(xd*m)=A i:=by
 have p:(xd:Rat)≠0:=fun e=>g (Rat.intCast_inj.1 e);have s:(yd:Rat)≠0:=fun e=>n (Rat.intCast_inj.1 e);have o:(m:Rat)≠0:=fun e=>d (Rat.intCast_inj.1 e);have a:=congrArg (fun z:Int=>(z:Rat)) (h i);simp only[Rat.intCast_mul,Rat.intCast_add,oD] at a;have b:conv (fun k=>(q k:Rat)) (fun k=>(y k:Rat)) i=yd*conv (fun k=>(q k:Rat)) B i:=by
  rw[<-rF];exact gL (fun _=>rfl) (fun j=>by rw[l];grind) i
 have c:conv (fun k=>(q k*yd:Rat)/(xd*m)) B i=(yd/(xd*m))*conv (fun k=>(q k:Rat)) B i:=by
  rw[<-eI];exact gL (fun j=>by grind) (fun _=>rfl) i
 rw[c];rw[b,f] at a;grind
