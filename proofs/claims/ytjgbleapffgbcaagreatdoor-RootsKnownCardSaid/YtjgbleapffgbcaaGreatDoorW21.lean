/- Laws. -/
import Derived.Test.YtjgbleapffgbcaaGreatDoorW20
set_option linter.all false
set_option maxHeartbeats 8000000
set_option maxRecDepth 99999
namespace Go.Proofs.YtjgbleapffgbcaaGreatDoor
open Sos
variable{e:Int}{B K d n:Nat}{s w:List Int}{b:Rat}{A:List Rat}
def Sn(e:Int):Prop:=e=1∨e= -1
def Sn.mul{d:Int}(h:Sn e)(k:Sn d):Sn (e*d):=by
 rcases h with rfl|rfl<;>rcases k with rfl|rfl<;>first|exact .inl rfl|exact .inr rfl
def Sn.pow(h:Sn e)(n:Nat):Sn (e^n):=by
 induction n with
 |zero=>exact .inl (Int.pow_zero e)
 |succ n a=>rw[gR];exact a.mul h
def Sn.ne(h:Sn e):e≠0:=by rcases h with rfl|rfl<;>decide
def Sn.sq(h:Sn e):e*e=1:=by rcases h with rfl|rfl<;>rfl
def Sn.abs(h:Sn e)(n:Int):(n*e).natAbs=n.natAbs:=by rcases h with rfl|rfl<;>simp
def czV{l:List Int}(h:∀n∈l,(d:Int)∣n):d∣bC l:=by
 induction l with
 |nil=>exact Nat.dvd_zero d
 |cons n l b=>exact Nat.dvd_gcd (b fun m a=>h m (j8 _ a)) (Int.ofNat_dvd_left.1 (h n iC))
def cqS(h:Sqp B w s)(e:bC w=1):bC s=1:=by
 obtain⟨g, -, -, -, -, -,c⟩:=h.out;have d:=fun i=>lW s i
 have a:bC s∣bC w:=czV (fun n hn=>by
  obtain⟨i,b,rfl⟩:=List.getElem_of_mem hn;rw[<-fZ b,c,gL (fun j=>(d j).symm.trans (fD _ _)) (fun _=>rfl),eI];exact Int.dvd_mul_right _ _)
 rw[e] at a;exact Nat.dvd_one.1 a
def ExQ.congr{V e:Rat->Nat}{s i:Rat->Int}{a:Rat}{l:List (Rat×Rat)}(h:ExQ K V s a b l)(d:∀x y,((e x:Nat):Int)-(e y:Nat)=(V x:Nat)-(V y:Nat))(c:∀x,i x=0↔s x=0):ExQ K e i a b l:=by
 induction h with
 | @none a b h=>exact .none (by have:=d a b;omega)
 | @hit a b h f=>exact .hit (by have:=d a b;omega) ((c _).2 f)
 | @one a b h f j=>exact .one (by have:=d a b;omega) (fun k=>f ((c _).1 k)) (fun k=>j ((c _).1 k))
 | @split a b l m h g n _ _ o p=>
  have:=d a b;exact .split (by omega) (fun k=>⟨fun q=>(g (by omega)).1 ((c _).1 q),(c _).2 (g (by omega)).2⟩) n o p
def ax2:∀N:Nat,b<=p2 N->∃n,n<=N∧Pw b n:=by
 intro N;induction N with
 |zero=>exact fun h=>⟨0,mC 0,h,fun m d=>by omega⟩
 |succ N e=>
  intro h;by_cases a:b<=p2 N
  ·obtain⟨n,f,c⟩:=e a;exact⟨n,by omega,c⟩
  ·refine⟨N+1,aE,h,fun m d=> ?_⟩;have:=DH (show m<=N by omega);show p2 m<b
   grind
def ax3(h:RL K b):b<=p2 (64*K):=by
 have c:=(yJ h.1).2;rw[DJ] at c;have d:=jZ (64*K);by_cases f:b<=0
 ·grind
 ·have g:(1:Rat)<=((b.den:Int):Rat):=pP (by have:=b.den_pos;omega);have e:b*((b.den:Int):Rat)=(b.num:Rat):=by
   have c:(b.num:Rat)/((b.den:Int):Rat)=b:=by rw[<-Rat.divInt_eq_div];exact Rat.num_divInt_den b
   have:=gW (a:=(b.num:Rat)) (b:=((b.den:Int):Rat)) (by grind);rwa [c] at this
  have:=cA (show 0<=b by grind) (show 0<=((b.den:Int):Rat)-1 by grind);grind
def yF(A:List Rat)(n:Nat)(l:List (Rat×Rat)):Prop:=∃w s c,Prp A w∧CnZ w s c∧ExQ 1000000000 (fun x=>aY 0 ((s :: c).map (fun a=>aP a 0 x))) (fun x=>aP s 0 x) (((-((2:Int)^n):Int)):Rat) ((((2:Int)^n:Int)):Rat) l∧(∀p∈l,RL 1500000 p.1∧RL 1500000 p.2)∧l.length<=8
def ax4{c:List (List Int)}(d:Prp A w)(e:CnZ w s c)(hn:n<=40000):∃l,ExK 1000000000 (fun _ _=>True) (fun x=>aY 0 ((s :: c).map (fun a=>aP a 0 x))) (fun x=>aP s 0 x) (((-((2:Int)^n):Int)):Rat) ((((2:Int)^n:Int)):Rat) l∧yF A n l:=by
 obtain⟨l,b,f,g⟩:=ax7 e d.2.1 hn;exact⟨l,b.exk,w,s,c,d,e,b,f,g⟩
def sG(d:Prp A w)(f:Sqp B w s)(x:Rat):(aI A x).num.sign=0↔aP s 0 x=0:=by
 obtain⟨l,k,c,g,j⟩:=d;have e:aI A x=c*aX w x:=by
  unfold aX;rw[<-iI];exact oT (fun i=>by rw[j,mG (fun q=>c*q) (dU _),dS,azF]) x
 have b:=ay4 f k x;have a:∀q:Rat,q.num.sign=0↔q=0:=fun q=>by rw[Int.sign_eq_zero_iff_zero];exact Rat.num_eq_zero
 rw[<-yI];unfold sF;rw[a,a,<-b,e];exact⟨fun h=>(Rat.mul_eq_zero.1 h).resolve_left g,fun h=>by rw[h,dU]⟩
end Go.Proofs.YtjgbleapffgbcaaGreatDoor
namespace Go.Proofs.YtjgbleapffgbcaaGreatDoor
open Go.RowKit Sos Tryz
variable{a w w':World}{B:Nat}{u v:Value}{b p:List (List Int)}{K i:List Value}
def dM(a:List (List UInt8)):Int:=if vl a=true then (if a=[] then 5 else 0) else 1
def uL(a:List (List UInt8)):dM a=0∧vl a=true∧a≠[]∨dM a=1∧vl a=false∨dM a=5∧vl a=true∧a=[]:=by
 unfold dM;cases vl a with
 |false=>exact .inr (.inl ⟨rfl,rfl⟩)
 |true=>
  by_cases h:a=[]
  ·exact .inr (.inr ⟨by rw[if_pos rfl,if_pos h],rfl,h⟩)
  ·exact .inl ⟨by rw[if_pos rfl,if_neg h],rfl,h⟩
def jH(n:Nat)(a:List (List UInt8)):Bool:=a.all (fun l=>decide (l.length<=n))
def LX(n:Nat)(a:List (List UInt8))(v:Value)(w:World)(hv:StrsAt w v a)(hn:n<=1073741824)(G:a.length<=1073741824)(y:∀l∈a,l.length<=9223372036854775807):
  Calls prog 5 #[.int .i64 n,v] w fun e w'=>e= .returned (.bool (jH n a))∧w=w':=by
 obtain⟨A,c,rfl,C⟩:=hv.form;go_enter func5,ntmps5;go_wp2_with fail;go_loopg [5] a.length (fun k i wr=>∃j,Hid (j+k=a.length)∧i= .int .i64 j∧Hid (jH n (a.take j)=true)∧w=wr)
 case atStart=>exact⟨0,by unfold Hid;omega,rfl,rfl,rfl⟩
 case round=>
  obtain⟨j,f,rfl,g,rfl⟩:=hrel;have E:(0:Int)<=(j:Int):=by omega
  cases gk with
  |zero=>
   have m:j=a.length:=f.out;have r:Hid (jH n a=true):=by
    have:=g.out;rwa [m,aq9] at this
   subst m;go_wp2;go_ret;rw[r.out];exact⟨rfl,rfl⟩
  |succ k=>
   have x:j<a.length:=by have:=f.out;omega
   have F:(j:Int)<(a.length:Int):=by omega
   obtain⟨t,d⟩:∃t,a[j]? =some t:=⟨_,aR x⟩;have p:jH n (a.take (j+1))=decide (t.length<=n):=by
    unfold jH;rw[Q9,d,aqO,byJ];have:=g.out;unfold jH at this;rw[this];simp
   have o:¬t.length<=n->jH n a=false:=fun h=>by
    unfold jH;rw[List.all_eq_false];exact⟨t,dG d,by simpa using h⟩
   have u:=aB p;have s:=aB o;have I:=y t (dG d);obtain⟨b,J,rfl,B,D⟩:=hv.at_ d;have H:(⟨t.toArray⟩:ByteArray).size=t.length:=by simp[ByteArray.size]
   clear p o d g;by_cases q:t.length<=n
   ·have z:¬(n:Int)<(t.length:Int):=by omega
    go_wp2;go_roundg k
    case rel=>exact⟨j+1,by have:=f.out;unfold Hid;omega,by go_num,by unfold Hid;rw[u.out];exact decide_eq_true q,rfl⟩
    case measure=>omega
   ·have z:(n:Int)<(t.length:Int):=by omega
    go_wp2;go_ret;rw[s.out q];exact⟨rfl,rfl⟩
structure QuoOf(x c Q:List Int):Prop where
 trim:aN Q
 ne:c≠[]
 tc:aN c
 id_:∀i,cf x i=conv (cf Q) (cf c) i
inductive Sqf(B:Nat):List Int->List Int->List (List Int)->Prop
 |done {p r:List Int} (h:p.length<=1):Sqf B p r []
 |step {p r c Qp Qr:List Int} {l:List (List Int)} (h:1<p.length) (hg:pO B p r c) (hp:QuoOf p c Qp) (hr:QuoOf r c Qr) (t:Sqf B c Qr l):Sqf B p r (Qp :: l)
structure GcdFit(K B:Nat)(xs ys:List Int):Prop where
 tx:aN xs
 ty:aN ys
 kx:∀n∈xs,nl n.natAbs<=K
 ky:∀n∈ys,nl n.natAbs<=K
 b1:xs.length<ys.length->(K+1)*(ys.length-xs.length+2)*3^xs.length<=B
 b2:¬xs.length<ys.length->(K+1)*(xs.length-ys.length+2)*3^ys.length<=B
 lx:xs.length<=1073741824
 ly:ys.length<=1073741824
structure SqfInv(K B:Nat)(Inv:Nat->List Int->List Int->Prop):Prop where
 fit:∀n p r,Inv n p r->GcdFit K B p r
 go:∀n p r c,Inv n p r->1<p.length->pO B p r c->∃Qp Qr n',n'<n∧QuoOf p c Qp∧QuoOf r c Qr∧(∀x∈c,nl x.natAbs<=K)∧(∀x∈Qp,nl x.natAbs<=K)∧(∀x∈Qr,nl x.natAbs<=K)∧c.length<=1073741824∧Inv n' c Qr
def WsAt.mono{a:Nat}(h:WsAt w B 64 v b)(j:a<=B):WsAt w a 64 v b:=by
 obtain⟨l,e,f,i⟩:=h;refine⟨l,?_,f,i⟩;rcases e with h|⟨g,c,d,hv,k,h⟩
 ·exact .inl h
 ·exact .inr ⟨g,c,d,hv,aH j k,h⟩
def WsAt.grown{k:Nat}(h:WsAt w k 64 u p)(G:PRow w B 22 v K)(E:Keep w w')(C:w.grownBy w' v.ownBlock):WsAt w' k 64 u p:=by
 have o:∀(b:Nat) (n:Array Value) (t:TypeId),w.heap[b]? =some (Obj.cells n t (0,0))->t≠22->w'.heap[b]? =w.heap[b]? :=fun b n t a H=>by
  refine C.block b (Array.getElem?_eq_some_iff.1 a).1 (fun e=> ?_);rcases G with ⟨rfl,_⟩|⟨g,m,f,rfl,_,d,_⟩
  ·simp[Value.ownBlock] at e
  ·simp[Value.ownBlock] at e;subst e;rw[d] at a;injection a with a;injection a with _ a;exact H a.symm
 obtain⟨us,r,s,y⟩:=h;refine⟨us,?_,s,fun i x l I F=> ?_⟩
 ·rcases r with h|⟨g,m,f,hv,a,d,h⟩
  ·exact .inl h
  ·exact .inr ⟨g,m,f,hv,a,(o g f 64 d (by decide)).trans d,h⟩
 ·obtain⟨A,c,e,z,h⟩:=y i x l I F;refine⟨A,c,e,z,?_⟩;rcases h with h|⟨b,J,q,j,D⟩
  ·exact .inl h
  ·exact .inr ⟨b,J,q,⟨(o b _ 60 j.1 (by decide)).trans j.1,j.2⟩,D.ke E⟩
def TsAt.up{b:World}[u:Up a b]{c:List (List (List UInt8))}(h:TsAt a B 22 v c):TsAt b B 22 v c:=h.be u.out
def PRow.km{e:TypeId}(h:PRow w B e v i)(c:w.grownBy w' v.ownBlock):KM w w':=⟨c.size,fun p k x a=>by
 refine(World.cell?_of_block (c.block p.block (block_lt_of_cell a) (fun b=> ?_))).trans a;rcases h with ⟨rfl,_⟩|⟨g,l,cur,rfl,_,f,_,_,_,_,hn⟩
 ·simp[Value.ownBlock] at b
 ·simp[Value.ownBlock] at b;unfold World.cell? at a;rw[b,f] at a;simp only at a;split at a
  ·cases a
  ·rw[<-Array.getElem?_toList] at a;obtain⟨j,n',c',d⟩:=hn _ (dG a);cases d⟩
end Go.Proofs.YtjgbleapffgbcaaGreatDoor
namespace Go.Proofs.YtjgbleapffgbcaaGreatDoor
open Sos
def rY:RL 1 (1:Rat):=⟨cJ (m:=1) (by unfold BN;decide),cJ (m:=1) (by unfold BN;decide)⟩
end Go.Proofs.YtjgbleapffgbcaaGreatDoor
namespace Go.Proofs.YtjgbleapffgbcaaGreatDoor
open Go.RowKit Sos Tryz
variable{A a:Option Addr}{c i:Int}{d u v:Value}{c' k n:Nat}{p:Addr}{e f s:Bool}{W b w:World}{q x:Rat}
abbrev C5(w:World)(b:Nat)(v0 v1 v2 v3 v4:Value):Prop:=w.cell? ⟨b,0,none⟩=some v0∧w.cell? ⟨b,1,none⟩=some v1∧w.cell? ⟨b,2,none⟩=some v2∧w.cell? ⟨b,3,none⟩=some v3∧w.cell? ⟨b,4,none⟩=some v4
abbrev C6(w:World)(b:Nat)(v0 v1 v2 v3 v4 a:Value):Prop:=w.cell? ⟨b,0,none⟩=some v0∧w.cell? ⟨b,1,none⟩=some v1∧w.cell? ⟨b,2,none⟩=some v2∧w.cell? ⟨b,3,none⟩=some v3∧w.cell? ⟨b,4,none⟩=some v4∧w.cell? ⟨b,5,none⟩=some a
abbrev C8(w:World)(b:Nat)(v0 v1 v2 v3 v4 a c d:Value):Prop:=w.cell? ⟨b,0,none⟩=some v0∧w.cell? ⟨b,1,none⟩=some v1∧w.cell? ⟨b,2,none⟩=some v2∧w.cell? ⟨b,3,none⟩=some v3∧w.cell? ⟨b,4,none⟩=some v4∧w.cell? ⟨b,5,none⟩=some a∧w.cell? ⟨b,6,none⟩=some c∧w.cell? ⟨b,7,none⟩=some d
section
variable {w W:World}{b g o B:Nat}{t:TypeId}{v0 v1 v2 v3 v4 u:Value}{cs:List Value}
def Bx.k5(h:Bx w b [v0,v1,v2,v3,v4] t):C5 w b v0 v1 v2 v3 v4:=⟨h.cell 0 rfl,h.cell 1 rfl,h.cell 2 rfl,h.cell 3 rfl,h.cell 4 rfl⟩
def Bx.g5(h:Bx w b [v0,v1,v2,v3,v4] t):C5 w b v0 v1 v2 v3 v4∧Fz w b:=⟨h.k5,h.free⟩
def Bx.k6{v0 v1 v2 v3 v4 a:Value}(h:Bx w b [v0,v1,v2,v3,v4,a] t):C6 w b v0 v1 v2 v3 v4 a:=⟨h.cell 0 rfl,h.cell 1 rfl,h.cell 2 rfl,h.cell 3 rfl,h.cell 4 rfl,h.cell 5 rfl⟩
def Bx.g6{v0 v1 v2 v3 v4 a:Value}(h:Bx w b [v0,v1,v2,v3,v4,a] t):C6 w b v0 v1 v2 v3 v4 a∧Fz w b:=⟨h.k6,h.free⟩
def Bx.k8{v0 v1 v2 v3 v4 a c:Value}(h:Bx w b [v0,v1,v2,v3,v4,a,c,d] t):C8 w b v0 v1 v2 v3 v4 a c d:=⟨h.cell 0 rfl,h.cell 1 rfl,h.cell 2 rfl,h.cell 3 rfl,h.cell 4 rfl,h.cell 5 rfl,h.cell 6 rfl,h.cell 7 rfl⟩
def Bx.g8{v0 v1 v2 v3 v4 a c:Value}(h:Bx w b [v0,v1,v2,v3,v4,a,c,d] t):C8 w b v0 v1 v2 v3 v4 a c d∧Fz w b:=⟨h.k8,h.free⟩
def NatAt.puti(h:NatAt w u n)(a:w.cell? p=some (.int .i64 c))(v:Value):NatAt (w.setCell p v) u n:=by
 obtain⟨A,f,hv,j,d,q⟩:=h;refine⟨A,f,hv,j,?_,q.mono (by simp)⟩;rcases d with d|⟨b,r,rfl,m,k⟩
 ·exact .inl d
 ·refine .inr ⟨b,r,rfl,by simpa using m,fun i l=> ?_⟩;have e:=k i l;rw[World.cell?_setCell_other _ _ _ _ ?_,e];rintro rfl;rw[e] at a;injection a with a;injection a with a;cases a
def Keep.puti(a:w.cell? p=some (.int .i64 c))(v:Value):Keep w (w.setCell p v):=fun _ _ h=>h.puti a v
def Bx.put5(h:Bx W b cs t)(D:Below B w W)(c:B<=b)(v0 v1 v2 v3 v4:Value){e f i j:Value}{k:Int}(E:cs=[e,f,i,j,.int .i64 k])(hn:(cS (some e)&&(cS (some f)&&(cS (some i)&&cS (some j))))=true):
  ∃a,((((W.setCell ⟨b,0,none⟩ v0).setCell ⟨b,1,none⟩ v1).setCell ⟨b,2,none⟩ v2).setCell ⟨b,3,none⟩ v3).setCell ⟨b,4,none⟩ v4=a∧Bx a b [v0,v1,v2,v3,v4] t∧Below B w a∧Keep W a∧∀{g:Nat} {cs:List Value} {t:TypeId},Bx W g cs t->b≠g->Bx a g cs t:=by
 subst E;simp only[az7] at hn;obtain⟨J,rfl,z,m,F,s⟩:=h.put1 D c 0 v0 hn.1;obtain⟨K,rfl,A,n,G,v⟩:=z.put1 m c 1 v1 hn.2.1;obtain⟨L,rfl,C,q,H,x⟩:=A.put1 n c 2 v2 hn.2.2.1;obtain⟨M,rfl,l,r,I,y⟩:=C.put1 q c 3 v3 hn.2.2.2;exact⟨_,rfl,l.set 4 v4,r.setCell (p:=⟨b,4,none⟩) c v4,(((F.trans G).trans H).trans I).trans (Keep.puti (l.cell 4 rfl) v4),fun k d=>(y (x (v (s k d) d) d) d).far 4 v4 d⟩
end
def EndAt(w:World)(v:Value)(i:Int)(x:Rat):Prop:=∃s A k c e a d c',v= .agg #[.bool s,.slice A k c,.bool e,.slice a d c',.int .i64 i]∧RatAt w (.agg #[.bool s,.slice A k c,.bool e,.slice a d c']) x
def EndAt.be(h:EndAt w v i x)(f:Below w.1.size w W):EndAt W v i x:=by
 obtain⟨s,A,k,c,l,a,j,d,e,h⟩:=h;exact⟨s,A,k,c,l,a,j,d,e,h.be f⟩
def EndAt.up{a:World}[u:Up a b](h:EndAt a v i x):EndAt b v i x:=h.be u.out
def EndAt.form(h:EndAt w v i x):∃s A k c f a d c',v= .agg #[.bool s,.slice A k c,.bool f,.slice a d c',.int .i64 i]:=by
 obtain⟨s,A,k,c,f,a,d,c',e,h⟩:=h;exact⟨s,A,k,c,f,a,d,c',e⟩
def EndAt.rat{c:Nat}{d:Nat}(h:EndAt w (.agg #[.bool s,.slice A k c,.bool f,.slice a d c',.int .i64 i]) i x):RatAt w (.agg #[.bool s,.slice A k c,.bool f,.slice a d c']) x:=by
 obtain⟨s,A,k,c,f,a,d,c',e,h⟩:=h;simp only[Value.agg.injEq,Array.mk.injEq,List.cons.injEq,Value.bool.injEq,Value.slice.injEq] at e;obtain⟨rfl,⟨rfl,rfl,rfl⟩,rfl,⟨rfl,rfl,rfl⟩, -⟩:=e;exact h
def EndAt.of{c:Nat}{d:Nat}(h:RatAt w (.agg #[.bool s,.slice A k c,.bool e,.slice a d c']) x):EndAt w (.agg #[.bool s,.slice A k c,.bool e,.slice a d c',.int .i64 i]) i x:=⟨_,_,_,_,_,_,_,_,rfl,h⟩
def nG(a b:World)[u:Up (a.alloc Z0) b]:Bx b a.1.size [.bool false,.slice none 0 0] 60∧(C2 b a.1.size (.bool false) (.slice none 0 0)∧Fz b a.1.size)∧(∀o:Obj,C2 (b.alloc o) a.1.size (.bool false) (.slice none 0 0)∧Fz (b.alloc o) a.1.size)∧a.1.size≠b.1.size∧b.1.size≠a.1.size:=by
 have D:Bx b a.1.size [.bool false,.slice none 0 0] 60:=(Bx.newAt a [.bool false,.slice none 0 0] 60 a.1.size rfl).be u.out;exact⟨D,dd D⟩
def pH(a b:World)[u:Up ((a.alloc Z0).alloc Z0) b]:Bx b (a.1.size+1) [.bool false,.slice none 0 0] 60∧(C2 b (a.1.size+1) (.bool false) (.slice none 0 0)∧Fz b (a.1.size+1))∧(∀o:Obj,C2 (b.alloc o) (a.1.size+1) (.bool false) (.slice none 0 0)∧Fz (b.alloc o) (a.1.size+1))∧a.1.size+1≠b.1.size∧b.1.size≠a.1.size+1:=by
 have D:Bx b (a.1.size+1) [.bool false,.slice none 0 0] 60:=(Bx.newAt (a.alloc Z0) [.bool false,.slice none 0 0] 60 (a.1.size+1) (World.size_alloc _ _)).be u.out;exact⟨D,dd D⟩
def Bx.far4{g b:Nat}{cs:List Value}{t:TypeId}(h:Bx w g cs t)(a:b≠g){c e f:Value}:Bx ((((w.setCell ⟨b,0,none⟩ c).setCell ⟨b,1,none⟩ d).setCell ⟨b,2,none⟩ e).setCell ⟨b,3,none⟩ f) g cs t:=(((h.far 0 c a).far 1 d a).far 2 e a).far 3 f a
def UU(x:Rat)(v:Value)(w:World)(hv:RatAt w v x):Calls prog 102 #[v] w (dW w x.num):=by
 obtain⟨d,a,c,b,i,f,h,g,rfl⟩:=hv.form;have e:=((aG w.1.size w).alloc aE (.cells #[.bool d,.slice a c b,.bool i,.slice f h g] 76)).alloc (by simp) (.cells #[.bool d,.slice a c b] 60);go_enter func102,ntmps102;go_wp2_with fail;exact aM (v:= .agg #[.bool d,.slice a c b]) (by simp[results,results102,go_sem]) rfl ⟨_,rfl,hv.num.be e,e⟩
def pD(x:Rat)(v:Value)(w:World)(hv:RatAt w v x)(D:nl x.den<=17592186044416):Calls prog 54 #[v] w (dW w (x.den:Int)):=by
 obtain⟨E,y,C,B,s,j,q,l,rfl⟩:=hv.form;have p:=aH (mY x) D;obtain⟨W,u,a,X,R⟩:=eL w [.bool E,.slice y C B,.bool s,.slice j q l] 76 [.bool false,.slice none 0 0] 60;have h:=aa X.g4 R.g2;go_enter func54,ntmps54;go_wp2_with fail;(try rw[u]);clear u;have b:=(hv.be a).den;refine(g9 (bS x) _ _ b p).mono ?_;rintro G J ⟨rfl,i⟩;replace X:=X.be i;replace R:=R.be i;replace h:=aa X.k4 R.g2;replace g:=Keep.be i;replace b:=b.ke g;replace a:=aC a i;by_cases e:x.den=1
 ·have f:decide (bS x=0)=true:=by rw[iQ,fV];exact e
  have z:Hid ((x.den:Int)=1):=by unfold Hid;omega
  rw[f];clear f e p;go_wp2_with fail;refine(lL 1 _ (by decide) (by decide)).mono ?_;rintro H F ⟨I,rfl,c,o⟩;obtain⟨t,k,r,m,rfl⟩:=c.form;replace X:=X.be o;replace R:=R.be o;replace h:=aa X.k4 R.g2;replace a:=aC a o;go_wp2_with fail;replace c:IntAt F (.agg #[.bool t,.slice k r m]) (x.den:Int):=by rw[z.out];exact c
  obtain⟨A,d,R,a,g,n⟩:=R.put2 a (by omega) (.bool t) (.slice k r m) rfl rfl;replace X:=n X (by omega);replace c:=c.ke g;rw[d];clear d;replace h:=aa X.k4 R.k2;exact aM (v:= .agg #[.bool t,.slice k r m]) (by simp[results,results54,go_sem,R.k2]) rfl ⟨_,rfl,c,a⟩
 ·have f:decide (bS x=0)=false:=by rw[jA,fV];exact e
  rw[f];rw[mI e] at b;clear f e p;go_wp2_with fail;obtain⟨A,d,R,a,g,n⟩:=R.put2 a (by omega) (.bool s) (.slice j q l) rfl rfl;replace X:=n X (by omega);replace b:=b.ke g;rw[d];clear d;replace h:=aa X.k4 R.k2;exact aM (v:= .agg #[.bool s,.slice j q l]) (by simp[results,results54,go_sem,R.k2]) rfl ⟨_,rfl,b,a⟩
def RatAt.denN{a:Bool}{b:Value}(h:RatAt w (.agg #[.bool s,u,.bool a,b]) q)(c:q.den≠1):IntAt w (.agg #[.bool a,b]) (q.den:Int):=by
 have:=h.den;rwa [mI c] at this
def J7(x y:Rat)(vx vy:Value)(w:World)(u:RatAt w vx x)(B:RatAt w vy y)(z:x.den=1)(D:y.den=1)(K:Nat)(bx:RL K x)(bY:RL K y)(hK:10*K+40<=aJ):
  Calls prog 63 #[vx,vy] w (iF w (x+y)):=by
 obtain⟨s,A,k,c,V,E,S,I,rfl⟩:=u.form;obtain⟨t,C,l,e,t',G,U,N,rfl⟩:=B.form;unfold aJ at hK;have⟨ac,ad⟩:=bx;have⟨ae,af⟩:=bY;obtain⟨o,p⟩:=BT (y:=y) z;rw[D] at o p;have H:Hid ((x+y).num=x.num+y.num∧bS (x+y)=0):=⟨by rw[o];simp,fV.2 p⟩;have L:bS x=0:=fV.2 z;have M:bS y=0:=fV.2 D;clear o p;obtain⟨W,O,a,X,Y,R⟩:=gE w [.bool s,.slice A k c,.bool V,.slice E S I] 76 [.bool t,.slice C l e,.bool t',.slice G U N] 76 [.bool false,.slice none 0 0,.bool false,.slice none 0 0] 76;have n:=aa X.g4 (aa Y.g4 R.g4);go_enter func63,ntmps63;go_wp2_with fail;(try rw[O]);clear O;have i:IntAt W (.agg #[.bool s,.slice A k c]) x.num:=(u.be a).num;have h:IntAt W (.agg #[.bool V,.slice E S I]) 0:=by have:=(u.be a).den;rwa [L] at this
 have m:IntAt W (.agg #[.bool t,.slice C l e]) y.num:=(B.be a).num;have j:IntAt W (.agg #[.bool t',.slice G U N]) 0:=by have:=(B.be a).den;rwa [M] at this
 clear L M z D;generalize x.num=xn at *;generalize y.num=yn at *;refine(g9 0 _ _ h tO).mono ?_;rintro o w1 ⟨rfl,d⟩;replace X:=X.be d;replace Y:=Y.be d;replace R:=R.be d;replace n:=aa X.k4 (aa Y.k4 R.g4);replace b:=Keep.be d;replace i:=i.ke b;replace h:=h.ke b;replace m:=m.ke b;replace j:=j.ke b;replace a:=aC a d;have g:decide ((0:Int)=0)=true:=rfl;rw[g];clear g;go_wp2_with fail;refine(g9 0 _ _ j tO).mono ?_;rintro p w2 ⟨rfl,f⟩;replace X:=X.be f;replace Y:=Y.be f;replace R:=R.be f;replace n:=aa X.k4 (aa Y.k4 R.g4);replace b:=Keep.be f;replace i:=i.ke b;replace h:=h.ke b;replace m:=m.ke b;replace j:=j.ke b;replace a:=aC a f;have g:decide ((0:Int)=0)=true:=rfl;rw[g];clear g;go_wp2_with fail;refine(rJ xn yn _ _ _ i m (by omega) (by omega)).mono ?_;rintro e5 w5 ⟨v5,rfl,q,r⟩;obtain⟨Z,F,T,J,rfl⟩:=q.form;replace X:=X.be r;replace Y:=Y.be r;replace R:=R.be r;replace n:=aa X.k4 (aa Y.k4 R.g4);replace a:=aC a r;go_wp2_with fail;obtain⟨W6,P,R,a,b,Q⟩:=R.put4 a (by omega) (.bool Z) (.slice F T J) (.bool false) (.slice none 0 0) rfl rfl;replace X:=Q X (by omega);replace Y:=Q Y (by omega);replace q:=q.ke b;rw[P];clear P;replace n:=aa X.k4 (aa Y.k4 R.k4);exact aM (v:= .agg #[.bool Z,.slice F T J,.bool false,.slice none 0 0]) (by simp[results,results63,go_sem,R.k4]) rfl ⟨_,rfl,RatAt.of q (IntAt.zero _) H.out.1 H.out.2,a⟩
def UZ(x y:Rat)(vx vy:Value)(w:World)(L:RatAt w vx x)(N:RatAt w vy y)(M:x.den=1)(O:y.den≠1)(K:Nat)(Z:RL K x)(V:RL K y)(hK:10*K+40<=aJ):
  Calls prog 63 #[vx,vy] w (iF w (x+y)):=by
 obtain⟨s,A,k,c,Q,H,P,I,rfl⟩:=L.form;obtain⟨t,C,l,e,D,m,B,n,rfl⟩:=N.form;unfold aJ at hK;have⟨af,ag⟩:=Z;have⟨ak,ac⟩:=V;obtain⟨J,E⟩:=BT (y:=y) M;have U:Hid ((x+y).num=x.num*y.den+y.num∧bS (x+y)=y.den):=⟨J,by rw[mI (by rw[E];exact O),E]⟩;have dx:bS x=0:=fV.2 M;clear J E;obtain⟨W,eW,b,X,Y,R⟩:=gE w [.bool s,.slice A k c,.bool Q,.slice H P I] 76 [.bool t,.slice C l e,.bool D,.slice m B n] 76 [.bool false,.slice none 0 0,.bool false,.slice none 0 0] 76;have i:=aa X.g4 (aa Y.g4 R.g4);go_enter func63,ntmps63;go_wp2_with fail;(try rw[eW]);clear eW;have f:IntAt W (.agg #[.bool s,.slice A k c]) x.num:=(L.be b).num;have h:IntAt W (.agg #[.bool Q,.slice H P I]) 0:=by have:=(L.be b).den;rwa [dx] at this
 have g:IntAt W (.agg #[.bool t,.slice C l e]) y.num:=(N.be b).num;have d:IntAt W (.agg #[.bool D,.slice m B n]) (y.den:Int):=(N.be b).denN O;have ae:decide ((y.den:Int)=0)=false:=by have:=y.den_nz;simpa using this
 have ah:nl (y.den:Int).natAbs<=K:=ac;clear dx M O ac V Z ag;generalize x.num=S at *;generalize y.num=yn at *;generalize (y.den:Int)=G at *;have al:=gT S G K K af ah;refine(g9 0 _ _ h tO).mono ?_;rintro J w1 ⟨rfl,o⟩;replace X:=X.be o;replace Y:=Y.be o;replace R:=R.be o;replace i:=aa X.k4 (aa Y.k4 R.g4);replace a:=Keep.be o;replace f:=f.ke a;replace h:=h.ke a;replace g:=g.ke a;replace d:=d.ke a;replace b:=aC b o;have z:decide ((0:Int)=0)=true:=rfl;rw[z];clear z;go_wp2_with fail;refine(g9 G _ _ d (by omega)).mono ?_;rintro E w2 ⟨rfl,p⟩;replace X:=X.be p;replace Y:=Y.be p;replace R:=R.be p;replace i:=aa X.k4 (aa Y.k4 R.g4);replace a:=Keep.be p;replace f:=f.ke a;replace h:=h.ke a;replace g:=g.ke a;replace d:=d.ke a;replace b:=aC b p;rw[ae];clear ae;go_wp2_with fail;refine(g9 0 _ _ h tO).mono ?_;rintro e3 w3 ⟨rfl,q⟩;replace X:=X.be q;replace Y:=Y.be q;replace R:=R.be q;replace i:=aa X.k4 (aa Y.k4 R.g4);replace a:=Keep.be q;replace f:=f.ke a;replace h:=h.ke a;replace g:=g.ke a;replace d:=d.ke a;replace b:=aC b q;have z:decide ((0:Int)=0)=true:=rfl;rw[z];clear z;go_wp2_with fail;replace f:=f.drew;replace g:=g.drew;replace d:=d.drew;replace X:=X.drew;replace Y:=Y.drew;replace R:=R.drew;replace b:=b.drew;replace i:=aa X.k4 (aa Y.k4 R.g4);have ai:w.1.size+1+1≠w.1.size:=by omega
 have aj:w.1.size+1+1≠w.1.size+1:=by omega
 go_region_held3 (fun w'=>C4 w' w.1.size (.bool s) (.slice A k c) (.bool Q) (.slice H P I)∧C4 w' (w.1.size+1) (.bool t) (.slice C l e) (.bool D) (.slice m B n))
  (first|(with_reducible exact⟨X.k4,Y.k4⟩)|(refine⟨?_,?_⟩<;>(repeat (first|with_reducible exact X.k4|with_reducible exact Y.k4|with_reducible refine kK ai ?_|with_reducible refine kK aj ?_))))
  (first
   |(go_at_call 34;refine(jB S G _ _ _ f d (by omega)).mono ?_;rintro e4 w4 ⟨v4,rfl,F,r⟩;obtain⟨s4,A4,k4,c4,rfl⟩:=F.form;replace X:=X.be r;replace Y:=Y.be r;replace R:=R.be r;replace i:=aa X.k4 (aa Y.k4 R.g4);replace a:=Keep.be r;replace f:=f.ke a;replace g:=g.ke a;replace d:=d.ke a;(try replace j:=j.ke a);replace b:=aC b r)
   |(go_at_call 109;refine(rJ (S*G) yn _ _ _ F g (by omega) (by omega)).mono ?_;rintro e5 w5 ⟨v5,rfl,j,u⟩;obtain⟨s5,T,k5,c5,rfl⟩:=j.form;replace X:=X.be u;replace Y:=Y.be u;replace R:=R.be u;replace i:=aa X.k4 (aa Y.k4 R.g4);replace a:=Keep.be u;replace f:=f.ke a;replace g:=g.ke a;replace d:=d.ke a;(try replace F:=F.ke a);replace b:=aC b u))
 all_goals (
  go_wp2_with fail;obtain⟨W6,ad,R,b,a,ff⟩:=R.put4 b (by omega) (.bool s5) (.slice T k5 c5) (.bool D) (.slice m B n) rfl rfl;replace X:=ff X (by omega);replace Y:=ff Y (by omega);replace j:=j.ke a;replace d:=d.ke a;rw[ad];clear ad;replace i:=aa X.k4 (aa Y.k4 R.k4);exact aM (v:= .agg #[.bool s5,.slice T k5 c5,.bool D,.slice m B n]) (by simp[results,results63,go_sem,R.k4]) rfl ⟨_,rfl,RatAt.of j d U.out.1 U.out.2,b⟩;)
def J8(x y:Rat)(vx vy:Value)(w:World)(J:RatAt w vx x)(M:RatAt w vy y)(L:x.den≠1)(N:y.den=1)(K:Nat)(Z:RL K x)(V:RL K y)(hK:10*K+40<=aJ):
  Calls prog 63 #[vx,vy] w (iF w (x+y)):=by
 obtain⟨s,A,k,c,B,m,z,n,rfl⟩:=J.form;obtain⟨t,C,l,e,P,G,O,H,rfl⟩:=M.form;unfold aJ at hK;have⟨al,ac⟩:=Z;have⟨ag,ah⟩:=V;obtain⟨I,E⟩:=UD (x:=x) N;have U:Hid ((x+y).num=y.num*x.den+x.num∧bS (x+y)=x.den):=⟨I,by rw[mI (by rw[E];exact L),E]⟩;have dy:bS y=0:=fV.2 N;clear I E;obtain⟨W,eW,b,X,Y,R⟩:=gE w [.bool s,.slice A k c,.bool B,.slice m z n] 76 [.bool t,.slice C l e,.bool P,.slice G O H] 76 [.bool false,.slice none 0 0,.bool false,.slice none 0 0] 76;have h:=aa X.g4 (aa Y.g4 R.g4);go_enter func63,ntmps63;go_wp2_with fail;(try rw[eW]);clear eW;have f:IntAt W (.agg #[.bool s,.slice A k c]) x.num:=(J.be b).num;have i:IntAt W (.agg #[.bool P,.slice G O H]) 0:=by have:=(M.be b).den;rwa [dy] at this
 have g:IntAt W (.agg #[.bool t,.slice C l e]) y.num:=(M.be b).num;have d:IntAt W (.agg #[.bool B,.slice m z n]) (x.den:Int):=(J.be b).denN L;have af:decide ((x.den:Int)=0)=false:=by have:=x.den_nz;simpa using this
 have ai:nl (x.den:Int).natAbs<=K:=ac;clear dy L N ah V Z ac;generalize x.num=xn at *;generalize y.num=Q at *;generalize (x.den:Int)=D at *;have T:=aB af;clear af;have am:=gT Q D K K ag ai;refine(g9 D _ _ d (by omega)).mono ?_;rintro I w1 ⟨rfl,o⟩;replace X:=X.be o;replace Y:=Y.be o;replace R:=R.be o;replace h:=aa X.k4 (aa Y.k4 R.g4);replace a:=Keep.be o;replace f:=f.ke a;replace d:=d.ke a;replace g:=g.ke a;replace i:=i.ke a;replace b:=aC b o;rw[T.out];go_wp2_with fail;refine(g9 D _ _ d (by omega)).mono ?_;rintro E w2 ⟨rfl,p⟩;replace X:=X.be p;replace Y:=Y.be p;replace R:=R.be p;replace h:=aa X.k4 (aa Y.k4 R.g4);replace a:=Keep.be p;replace f:=f.ke a;replace d:=d.ke a;replace g:=g.ke a;replace i:=i.ke a;replace b:=aC b p;rw[T.out];go_wp2_with fail;refine(g9 0 _ _ i tO).mono ?_;rintro e3 w3 ⟨rfl,q⟩;replace X:=X.be q;replace Y:=Y.be q;replace R:=R.be q;replace h:=aa X.k4 (aa Y.k4 R.g4);replace a:=Keep.be q;replace f:=f.ke a;replace d:=d.ke a;replace g:=g.ke a;replace i:=i.ke a;replace b:=aC b q;have ae:decide ((0:Int)=0)=true:=rfl;rw[ae];clear ae;go_wp2_with fail;replace f:=f.drew;replace g:=g.drew;replace d:=d.drew;replace X:=X.drew;replace Y:=Y.drew;replace R:=R.drew;replace b:=b.drew;replace h:=aa X.k4 (aa Y.k4 R.g4);have aj:w.1.size+1+1≠w.1.size:=by omega
 have ak:w.1.size+1+1≠w.1.size+1:=by omega
 go_region_held3 (fun w'=>C4 w' w.1.size (.bool s) (.slice A k c) (.bool B) (.slice m z n)∧C4 w' (w.1.size+1) (.bool t) (.slice C l e) (.bool P) (.slice G O H))
  (first|(with_reducible exact⟨X.k4,Y.k4⟩)|(refine⟨?_,?_⟩<;>(repeat (first|with_reducible exact X.k4|with_reducible exact Y.k4|with_reducible refine kK aj ?_|with_reducible refine kK ak ?_))))
  (first
   |(go_at_call 34;refine(jB Q D _ _ _ g d (by omega)).mono ?_;rintro e4 w4 ⟨v4,rfl,F,r⟩;obtain⟨s4,A4,k4,c4,rfl⟩:=F.form;replace X:=X.be r;replace Y:=Y.be r;replace R:=R.be r;replace h:=aa X.k4 (aa Y.k4 R.g4);replace a:=Keep.be r;replace f:=f.ke a;replace g:=g.ke a;replace d:=d.ke a;(try replace j:=j.ke a);replace b:=aC b r)
   |(go_at_call 109;refine(rJ (Q*D) xn _ _ _ F f (by omega) (by omega)).mono ?_;rintro e5 w5 ⟨v5,rfl,j,u⟩;obtain⟨s5,S,k5,c5,rfl⟩:=j.form;replace X:=X.be u;replace Y:=Y.be u;replace R:=R.be u;replace h:=aa X.k4 (aa Y.k4 R.g4);replace a:=Keep.be u;replace f:=f.ke a;replace g:=g.ke a;replace d:=d.ke a;(try replace F:=F.ke a);replace b:=aC b u))
 all_goals (
  go_wp2_with fail;obtain⟨W6,ad,R,b,a,ff⟩:=R.put4 b (by omega) (.bool s5) (.slice S k5 c5) (.bool B) (.slice m z n) rfl rfl;replace X:=ff X (by omega);replace Y:=ff Y (by omega);replace j:=j.ke a;replace d:=d.ke a;rw[ad];clear ad;replace h:=aa X.k4 (aa Y.k4 R.k4);exact aM (v:= .agg #[.bool s5,.slice S k5 c5,.bool B,.slice m z n]) (by simp[results,results63,go_sem,R.k4]) rfl ⟨_,rfl,RatAt.of j d U.out.1 U.out.2,b⟩;)
