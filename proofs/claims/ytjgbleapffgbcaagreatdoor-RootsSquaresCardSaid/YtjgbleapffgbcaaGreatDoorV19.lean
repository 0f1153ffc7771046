/- Laws. -/
import Derived.Test.YtjgbleapffgbcaaGreatDoorV17
set_option linter.all false
set_option maxHeartbeats 8000000
set_option maxRecDepth 99999
namespace Go.Proofs.YtjgbleapffgbcaaGreatDoor
open Go.RowKit Sos
variable{w w':World}{c e f i:Value}{g o:Nat}
abbrev R4(w:World)(b o:Nat)(c d e f:Value):Prop:=w.cell? ⟨b,o,none⟩=some c∧w.cell? ⟨b,o+1,none⟩=some d∧w.cell? ⟨b,o+2,none⟩=some e∧w.cell? ⟨b,o+3,none⟩=some f
def QRow(w:World)(rows:List (List Value))(qs:List Rat):Prop:=∀(i:Nat) (q:Rat),qs[i]? =some q->∃s A l c f d e c',rows[i]? =some [Value.bool s,Value.slice A l c,Value.bool f,Value.slice d e c']∧NQ w (.agg #[.bool s,.slice A l c,.bool f,.slice d e c']) q
def KM.put{p:Addr}(f:w.cell? p=some c)(e:NoInt c)(v:Value):KM w (w.setCell p v):=
 ⟨by simp,fun q k x d=>by
  rw[World.cell?_setCell_other _ _ _ _ ?_,d];rintro rfl;rw[f] at d;injection d with d;exact absurd d (e _ _)⟩
section
variable {w w':World}{b:Nat}{qs:List Rat}{v:Value}{rows:List (List Value)}
def QRow.ke(h:QRow w rows qs)(g:KM w w'):QRow w' rows qs:=fun i q hi=>by
 obtain⟨s,A,l,c,k,d,j,c',e,f⟩:=h i q hi;exact⟨s,A,l,c,k,d,j,c',e,f.ke g⟩
def QRow.take(h:QRow w rows qs)(m:Nat):QRow w rows (qs.take m):=fun i q hi=>by
 rw[fC] at hi;split at hi
 ·exact h i q hi
 ·cases hi
def Rw.src{k n:Nat}{t:TypeId}(i:Rw w b k rows t)(d:0<k)(hn:n<=rows.length):Src w (some ⟨b,0,none⟩) (rows.take n).flatten:=by
 have g:∀r∈rows.take n,r.length=k:=fun r h=>i.2 r (lH h);refine .inr ⟨b,0,rfl,fun j u l=> ?_⟩;have p:j<n*k:=by
  have:=(List.getElem?_eq_some_iff.1 l).1;rw[mX g,bK,y8 hn] at this;exact this
 have m:j/k<n:=by rw[Nat.div_lt_iff_lt_mul d];exact p
 obtain⟨r,c⟩:∃r,(rows.take n)[j/k]? =some r:=⟨_,aR (by rw[bK];omega)⟩;have f:=mW g c (dI j d);have e:j/k*k+j%k=j:=by rw[dN];exact iD j k
 rw[e,l] at f;rw[fC,if_pos m] at c;have:=i.cell (j%k) c f.symm;rw[e] at this;rw[bA];exact this
end
section
variable {w:World}{ops:Array Oper}{rest:List Oper}{o:Oper}{a:Act}{Q:Exit->Act->World->Prop}
end
section
variable {a b:World}[u:Up a b]
def R4.up{d:Value}(h:R4 a g o d e f i)(c:g<a.1.size):R4 b g o d e f i:=
 ⟨(u.out.cell (p:=⟨g,o,none⟩) c).trans h.1,(u.out.cell (p:=⟨g,o+1,none⟩) c).trans h.2.1,(u.out.cell (p:=⟨g,o+2,none⟩) c).trans h.2.2.1,(u.out.cell (p:=⟨g,o+3,none⟩) c).trans h.2.2.2⟩
end
def R4.old{B:Nat}{j:Value}(h:R4 w g o e f i j)(c:Below B w w')(d:g<B):R4 w' g o e f i j:=
 ⟨(c.cell (p:=⟨g,o,none⟩) d).trans h.1,(c.cell (p:=⟨g,o+1,none⟩) d).trans h.2.1,(c.cell (p:=⟨g,o+2,none⟩) d).trans h.2.2.1,(c.cell (p:=⟨g,o+3,none⟩) d).trans h.2.2.2⟩
end Go.Proofs.YtjgbleapffgbcaaGreatDoor
namespace Go.Proofs.YtjgbleapffgbcaaGreatDoor
open Sos Lib
variable{K a b i:Nat}{q x y:Rat}{l p:List Rat}
def WN(m n:Nat):nl (m+n)<=max (nl m) (nl n)+1:=by
 have a:=cyD m;have b:=cyD n;refine cJ ?_;have c:BN^nl m<=BN^max (nl m) (nl n):=cO (by decide) (Nat.le_max_left _ _);have d:BN^nl n<=BN^max (nl m) (nl n):=cO (by decide) (Nat.le_max_right _ _);rw[dH];have e:2*BN^max (nl m) (nl n)<=BN^max (nl m) (nl n)*BN:=by rw[dN];exact eV _ (by decide)
 omega
def pM{n d:Int}(hn:nl n.natAbs<=K)(b:nl d.natAbs<=K)(a:1<=K):RL K ((n:Rat)/d):=CA n d K hn b a
def xR(h:RL K q):1<=K:=by
 have b:=h.2;rcases iB K with a|a
 ·subst a;have:=cyD q.den;rw[show nl q.den=0 by omega] at this;have:=q.den_pos;simp at *;omega
 ·exact a
def o6(c:RL a x)(d:RL b y):RL (a+b) (x*y):=by
 rw[<-yV];refine pM ?_ ?_ (by have:=xR c;omega)
 ·rw[fL];exact aH (fI _ _) (by5 c.1 d.1)
 ·rw[fL];exact aH (fI _ _) (by5 c.2 d.2)
def CI(c:RL a x)(d:RL b y):RL (a+b+1) (x+y):=by
 rw[<-EB];refine pM ?_ ?_ (by omega)
 ·refine aH (cK (bz2 _ _)) (aH (WN _ _) ?_);have g:=fI x.num.natAbs y.den;have h:=fI y.num.natAbs x.den;have e:(x.num*y.den).natAbs=x.num.natAbs*y.den:=by rw[fL,dD]
  have f:(y.num*x.den).natAbs=y.num.natAbs*x.den:=by rw[fL,dD]
  rw[e,f];have:=c.1;have:=c.2;have:=d.1;have:=d.2;omega
 ·rw[fL];exact aH (fI _ _) (by have:=c.2;have:=d.2;simp only[dD];omega)
def JM(c:RL a x)(d:RL b y):RL (a+b+1) (x-y):=by
 rw[Rat.sub_eq_add_neg];exact CI c (C7 d)
def lV(h:∀q∈l,RL K q)(b:RL K 0)(i:Nat):RL K (cf l i):=by
 by_cases a:i<l.length
 ·rw[fZ a];exact h _ (aq0 a)
 ·rw[bV (by omega)];exact b
def aI(p:List Rat)(x:Rat):Rat:=p.foldr (fun a s=>s*x+a) 0
def CJ(b:∀q∈p,RL K q)(f:RL K x):RL (1+p.length*(2*K+1)) (aI p x):=by
 induction p with
 |nil=>exact iG (by omega)
 |cons a p g=>
  have c:=g (fun q e=>b q (j8 _ e));have d:=CI (o6 c f) (b a (iC ..));refine bU d ?_;rw[eG,aq2 p.length];generalize p.length*(2*K+1)=z;omega
def fE(ns:List Int)(a b:Int):Int:=(ns.foldr (fun c v=>(v.1*a+c*v.2,v.2*b)) ((0:Int),(1:Int))).1
def iZ(ns:List Int)(a b:Int):Int:=(ns.foldr (fun c v=>(v.1*a+c*v.2,v.2*b)) ((0:Int),(1:Int))).2
def WP{ns:List Int}{n:Int}(a b:Int)(h:ns[i]? =some n):fE (ns.drop i) a b=fE (ns.drop (i+1)) a b*a+n*iZ (ns.drop (i+1)) a b∧iZ (ns.drop i) a b=iZ (ns.drop (i+1)) a b*b:=by
 obtain⟨c,rfl⟩:=List.getElem?_eq_some_iff.1 h;rw[j5 c];exact⟨rfl,rfl⟩
def WQ(ns:List Int)(a b:Int):iZ ns a b=b^ns.length:=by
 induction ns with
 |nil=>simp[iZ]
 |cons c ns d=>show iZ ns a b*b=_;rw[d,eG,gR]
def WR(ns:List Int)(a b:Int)(i:b≠0):(fE ns a b:Rat)*b=iZ ns a b*aI (ns.map (fun n:Int=>(n:Rat))) (a/b):=by
 have j:(b:Rat)≠0:=by exact_mod_cast i
 induction ns with
 |nil=>show((0:Int):Rat)*b=((1:Int):Rat)*0;simp
 |cons c ns k=>
  have d:fE (c :: ns) a b=fE ns a b*a+c*iZ ns a b:=rfl;have e:iZ (c :: ns) a b=iZ ns a b*b:=rfl;have f:aI ((c :: ns).map (fun n:Int=>(n:Rat))) (a/b)=aI (ns.map (fun n:Int=>(n:Rat))) (a/b)*(a/b)+c:=rfl;rw[d,e,f];push_cast;generalize (fE ns a b:Rat)=v at *;generalize (iZ ns a b:Rat)=p at *;generalize aI (ns.map (fun n:Int=>(n:Rat))) (a/b)=s at *;have g:(v*a+c*p)*b=(v*b)*a+c*p*b:=by grind
  rw[g,k];have h:(a:Rat)=(a/b)*b:=by rw[gW j]
  generalize (a:Rat)/b=t at *;rw[h];grind
def dq2{f:Nat->Rat}(h:∀k,RL (2*K) (f k))(n:Nat):RL (1+n*(2*K+1)) (bW f n):=by
 induction n with
 |zero=>exact iG (by omega)
 |succ n a=>exact bU (CI a (h n)) (by rw[aq2 n];omega)
def dq3{x y:List Rat}(c:∀q∈x,RL K q)(d:∀q∈y,RL K q)(b:1<=K):∀q∈dX x y,RL (1+(x.length+y.length)*(2*K+1)) q:=fun q a=>by
 unfold dX at a;split at a
 ·cases a
 ·obtain⟨i,hi,rfl⟩:=List.mem_map.1 a;have e:=List.mem_range.1 hi;refine bU (dq2 (K:=K) (fun k=>bU (o6 (lV c (iG b) _) (lV d (iG b) _)) (by omega)) (i+1)) ?_;have:=dK (2*K+1) (show i+1<=x.length+y.length by omega);omega
end Go.Proofs.YtjgbleapffgbcaaGreatDoor
namespace Go.Proofs.YtjgbleapffgbcaaGreatDoor
open Go.RowKit Sos Tryz
variable{l ns:List Int}{n x:Int}{K T d i:Nat}
def fW(p:List Rat):List Rat:=(List.range (p.length-1)).map (fun i=>cf p (i+1)*((i+1:Nat):Rat))
def qO(p:List Rat):(fW p).length=p.length-1:=by unfold fW;rw[cH,bxZ]
def pQ(w:World)(a:List (List UInt8))(x:List UInt8)(e:Ending)(w':World):Prop:=
 (if vl a=true∧rd x=true then e= .returned (.tuple #[.string ⟨(cW (aI (aU a) ((cL x).getD 0))).toArray⟩,.int .i64 0]) else e= .returned (.tuple #[.string ⟨#[]⟩,.int .i64 1]))∧Below w.1.size w w'
def JO(n c:Nat)(A:Option Addr)(w:World)(hn:n<=1099511627776):Calls prog 56 #[.slice A n c] w fun e w'=>e= .returned (.int .i64 ((n:Int)-1))∧w'=w:=by
 go_enter func56,ntmps56;go_wp2;go_ret;exact⟨rfl,rfl⟩
def bC(l:List Int):Nat:=l.foldr (fun n g=>Nat.gcd g n.natAbs) 0
def JP:bC []=0:=rfl
def CK(n:Int)(l:List Int):bC (n :: l)=Nat.gcd (bC l) n.natAbs:=rfl
def WV(l:List Int)(i:Nat):bC l∣bC (l.drop i):=by
 induction l generalizing i with
 |nil=>simp
 |cons n l a=>
  cases i with
  |zero=>exact Nat.dvd_refl _
  |succ i=>rw[bz6];exact bzF (aqX _ _) (a i)
def CL(h:n∈l):(bC l:Int)∣n:=by
 induction l with
 |nil=>cases h
 |cons m l a=>
  rw[CK];rcases List.mem_cons.1 h with rfl|h
  ·exact Int.ofNat_dvd_left.2 (azU _ _)
  ·exact byF (Int.natCast_dvd_natCast.2 (aqX _ _)) (a h)
def JQ(h:bC l=0):∀n∈l,n=0:=fun n hn=>by
 have:=CL hn;rw[h] at this;exact Int.zero_dvd.1 this
def CM(h:∀n∈l,(d:Int)∣n):d∣bC l:=by
 induction l with
 |nil=>simp[JP]
 |cons m l a=>exact Nat.dvd_gcd (a (fun n hn=>h n (j8 _ hn))) (Int.ofNat_dvd_left.1 (h m (iC ..)))
def az4(h:∀n∈l,nl n.natAbs<=K):nl (bC l)<=K:=by
 induction l with
 |nil=>rw[JP,dO];exact dC _
 |cons m l b=>
  rw[CK];by_cases a:m.natAbs=0
  ·rw[a,bxN];exact b (fun n hn=>h n (j8 _ hn))
  ·exact aH (cK (aqY (bzI a) (azU _ _))) (h m (iC ..))
def WW(h:l[i]? =some n):Nat.gcd (bC (l.drop (i+1))) n.natAbs=bC (l.drop i):=by
 obtain⟨a,e⟩:=List.getElem?_eq_some_iff.1 h;rw[j5 a,e,CK]
def WX(ns:List Int)(v:Value)(w:World)(J:Glob w)(hv:WholeAt w v ns)(K:Nat)(T:∀n∈ns,nl n.natAbs<=K)(U:5*K+4<=aJ)(hl:ns.length<=1099511627776):
  Calls prog 137 #[v] w (dW w (bC ns)):=by
 obtain⟨A,c,rfl,hc⟩:=hv.form;have ai:K<=17592186044416:=by unfold aJ at U;omega
 have R:Bx ((w.alloc (.cells #[.bool false,.slice none 0 0] 60)).alloc (.cells #[.bool false,.slice none 0 0] 60)) (w.1.size) [.bool false,.slice none 0 0] 60:=(Bx.newAt w [.bool false,.slice none 0 0] 60 (w.1.size) (by simp)).alloc (.cells #[.bool false,.slice none 0 0] 60);have C:Bx ((w.alloc (.cells #[.bool false,.slice none 0 0] 60)).alloc (.cells #[.bool false,.slice none 0 0] 60)) (w.1.size+1) [.bool false,.slice none 0 0] 60:=Bx.newAt (w.alloc (.cells #[.bool false,.slice none 0 0] 60)) [.bool false,.slice none 0 0] 60 (w.1.size+1) (by simp);have a:Below w.1.size w ((w.alloc (.cells #[.bool false,.slice none 0 0] 60)).alloc (.cells #[.bool false,.slice none 0 0] 60)):=((aG _ _).alloc (by simp) _).alloc (by simp<;>omega) _;go_enter func137,ntmps137;go_wp2_with fail;generalize (w.alloc (.cells #[.bool false,.slice none 0 0] 60)).alloc (.cells #[.bool false,.slice none 0 0] 60)=W at *;have S:IntBx W (w.1.size+1) 0:=⟨_,_,_,_,C,IntAt.zero _⟩;clear C;go_loopg [4] ns.length (fun k i wr=>i= .int .i64 ((k:Int)-1)∧k<=ns.length∧IntBx wr (w.1.size+1) (bC (ns.drop k))∧Bx wr w.1.size [.bool false,.slice none 0 0] 60∧Below w.1.size w wr)
 case atStart=>exact⟨by go_num,aE,by rw[azY];exact S,R,a⟩
 case round=>
  clear S R a;obtain⟨rfl,an,⟨s,B,l,d,C,f⟩,R,a⟩:=hrel;generalize wr=wy at *;have ad:nl (bC (ns.drop gk))<=K:=az4 (fun n hn=>T n (bxD hn));replace z:=C.cell 0 rfl;replace r:=C.free 0;replace D:=C.cell 1 rfl;replace t:=C.free 1;replace E:=R.cell 0 rfl;replace H:=R.free 0;replace F:=R.cell 1 rfl;replace I:=R.free 1;cases gk with
  |zero=>
   go_wp2_with fail;rw[azZ] at f;obtain⟨Q,p, -,M,o⟩:=jU (s:=s) (u:= .slice B l d) a (by omega) R;have O:=f.ke o;generalize (wy.setCell ⟨w.1.size,0,none⟩ (.bool s)).setCell ⟨w.1.size,1,none⟩ (.slice B l d)=W6 at *;exact aM (v:= .agg #[.bool s,.slice B l d]) (by simp[results,results137,go_sem,Q,p]) rfl ⟨_,rfl,O,M⟩
  |succ k=>
   obtain⟨n,hn⟩:∃n,ns[k]? =some n:=⟨_,aR (by omega)⟩;have V:=WW hn;have ah:=T n (dG hn);have N:((bC (ns.drop (k+1)):Nat):Int)=1->bC ns=1:=fun h=>by
    have g:bC (ns.drop (k+1))=1:=by omega
    have:=WV ns (k+1);rw[g] at this;exact Nat.dvd_one.1 this
   have HN:=aB hn;have ac:=aB V;clear hn V;generalize bC (ns.drop (k+1))=G at *;have al:(0:Int)<=(k:Int):=by omega
   go_wp2_with fail;refine(n6 _ _ _ f (by rw[dD];omega)).mono ?_;rintro e1 P ⟨rfl,e⟩;by_cases g:(G:Int)=1
   ·have m:decide ((G:Int)=1)=true:=by simpa using g
    have HO:=aB (N g);rw[m];clear m N;replace f:=f.be e;replace C:=C.be e;replace z:=C.cell 0 rfl;replace r:=C.free 0;replace D:=C.cell 1 rfl;replace t:=C.free 1;replace R:=R.be e;replace E:=R.cell 0 rfl;replace H:=R.free 0;replace F:=R.cell 1 rfl;replace I:=R.free 1;replace o:=Keep.be e;replace a:=aC a e;go_wp2_with fail;have af:IntAt P (.agg #[.bool s,.slice B l d]) (bC ns:Int):=by rw[HO.out];rw[g] at f;exact f
    clear f;obtain⟨Q,p, -,M,o⟩:=jU (s:=s) (u:= .slice B l d) a (by omega) R;have O:=af.ke o;generalize (P.setCell ⟨w.1.size,0,none⟩ (.bool s)).setCell ⟨w.1.size,1,none⟩ (.slice B l d)=W6 at *;exact aM (v:= .agg #[.bool s,.slice B l d]) (by simp[results,results137,go_sem,Q,p]) rfl ⟨_,rfl,O,M⟩
   ·have m:decide ((G:Int)=1)=false:=by simpa using g
    rw[m];clear m N g;replace f:=f.be e;replace C:=C.be e;replace z:=C.cell 0 rfl;replace r:=C.free 0;replace D:=C.cell 1 rfl;replace t:=C.free 1;replace R:=R.be e;replace E:=R.cell 0 rfl;replace H:=R.free 0;replace F:=R.cell 1 rfl;replace I:=R.free 1;replace o:=Keep.be e;replace a:=aC a e;obtain⟨b,s',B',l',d',rfl,aj,g0,g1,ae⟩:=(hv.be a).at_ HN.out;have ak:=a.size;have Y:=f.drew;have ag:=ae.drew;have y:IntBx P.drew (w.1.size+1) (G:Int):=⟨_,_,_,_,C.drew,Y⟩;have j:=a.drew;have Rd:=R.drew;have X:=fun W v u J g x=>qF (G:Int) n v u W J g x K (by rw[dD];exact ad) ah U;rw[dD,ac.out] at X;have am:(k:Int)<(ns.length:Int):=by omega
    clear r t E F H I R C e;go_wp2_with fail
    go_region_with (first
     |(go_at_call 28;refine(X _ _ _ (J.be j) Y ag).mono ?_;rintro e2 w2 ⟨v2,rfl,x,L⟩;obtain⟨s2,A2,k2,c2,rfl⟩:=x.form;replace y:=y.be L;replace Rd:=Rd.be L;replace j:=aC j L;obtain⟨s9,B9,l9,d9,q, -⟩:=id y;have z:=q.cell 0 rfl;have D:=q.cell 1 rfl;have r:=q.free 0;have t:=q.free 1))
    all_goals (
     go_wp2_with fail;obtain⟨p,Z⟩:=y.stored x;have zR:Bx _ w.1.size [.bool false,.slice none 0 0] 60:=(Z.2.1 w.1.size (by omega)).trans Rd;have zb:=jD j Z (by omega);go_roundg k
     case rel=>exact⟨by go_num,by omega,p,zR,zb⟩
     case measure=>omega)
def jX(ns:List Int)(x:Int):List Int:=ns.map (fun n=>n.tdiv x)
def WY(ns:List Int):jX ns 1=ns:=by
 unfold jX;exact(by3 (fun a _=>Int.tdiv_one a)).trans (List.map_id ns)
def JR(ns:List Int)(x:Int):(jX ns x).length=ns.length:=cH _
def WZ(n x:Int)(K:Nat)(h:nl n.natAbs<=K):nl (n.tdiv x).natAbs<=K:=by
 rw[Int.natAbs_tdiv];exact aH (cK (azK _ _)) h
def X0(h:∀n∈ns,nl n.natAbs<=K):∀n∈jX ns x,nl n.natAbs<=K:=fun n hn=>by
 unfold jX at hn;obtain⟨m,a,rfl⟩:=List.mem_map.1 hn;exact WZ m x K (h m a)
def cqV(ns:List Int)(x:Int)(v vx:Value)(w:World)(hv:WholeAt w v ns)(N:IntAt w vx x)(h0:ns≠[]->x≠0)(K:Nat)(hK:∀n∈ns,nl n.natAbs<=K)(aw:nl x.natAbs<=K)(an:5*K+4<=aJ)(hl:ns.length<=1099511627776):
  Calls prog 136 #[v,vx] w fun e w'=>∃I,e= .returned I∧WholeAt w' I (jX ns x)∧(I=v∨czQ w.1.size I)∧Below w.1.size w w':=by
 unfold aJ at an;obtain⟨A,c,rfl,hc⟩:=hv.form;obtain⟨r,o,q,p,rfl⟩:=N.form;have h:Bx (w.alloc (.cells #[.bool r,.slice o q p] 60)) (w.1.size) [.bool r,.slice o q p] 60:=Bx.newAt w [.bool r,.slice o q p] 60 (w.1.size) (by simp);have f:Below w.1.size w (w.alloc (.cells #[.bool r,.slice o q p] 60)):=(aG _ _).alloc (by simp) _;go_enter func136,ntmps136;go_wp2_with fail;generalize w.alloc (.cells #[.bool r,.slice o q p] 60)=W at *;refine(n6 x _ _ (N.be f) (by omega)).mono ?_;rintro e1 P ⟨rfl,H⟩;replace h:=h.be H;replace af:=h.cell 0 rfl;replace ag:=h.cell 1 rfl;replace L:=Keep.be H;replace f:=aC f H;clear H;by_cases D:x=1
 ·have F:decide (x=1)=true:=by simpa using D
  rw[F];clear F;go_wp2;go_ret;rw[D,WY];exact⟨_,rfl,hv.be f,.inl rfl,f⟩
 ·have F:decide (x=1)=false:=by simpa using D
  rw[F];clear F D;have ad:=JR ns x;have E:=aB ad;clear ad;go_wp2_with (at_make;refine jT rfl rfl 60 _ 2 32 underlying64 p6 rfl (by decide) ns.length rfl rfl rfl rfl (by omega) (by omega) ?_;intro w2 aq Y u);have Q:OwnW w2 P.1.size (List.replicate ns.length 0):=OwnW.made Y;have ax:=f.size;have am:w.1.size<P.1.size:=h.lt;replace h:=h.be u;replace f:=aC f u;clear Y aq u;generalize hg:P.1.size=g at *;clear hg;go_loopg [16] ns.length (fun k i wr=>∃j,Hid (j+k=ns.length)∧i= .int .i64 j∧OwnW wr g ((jX ns x).take j++List.replicate k 0)∧Bx wr w.1.size [.bool r,.slice o q p] 60∧Below w.1.size w wr)
  case atStart=>exact⟨0,by unfold Hid;omega,rfl,by simpa using Q,h,f⟩
  case round=>
   clear Q h f;obtain⟨j,C,rfl,R,h,f⟩:=hrel;generalize wr=t at *;have az:(0:Int)<=(j:Int):=by omega
   cases gk with
   |zero=>
    have hj:j=ns.length:=C.out;subst hj;rw[aq8,fH,cZ (by rw[E.out];exact aE)] at R;have hw:=R.whole ns.length (by rw[E.out];exact aE);rw[E.out] at hw;go_wp2;go_ret;exact⟨_,rfl,hw,.inr fun a l c e=>by injection e with e _ _;injection e with e;rw[<-e];exact iE am,f⟩
   |succ k=>
    obtain⟨n,hn⟩:∃n,ns[j]? =some n:=⟨_,aR (by have:=C.out;omega)⟩;obtain⟨b,s,B,l,d,rfl,ay,g0,g1,J⟩:=(hv.be f).at_ hn;have a1:=hK n (dG hn);have ap:x≠0:=h0 (fun e=>by rw[e] at hn;simp at hn);have a0:(j:Int)<(ns.length:Int):=by have:=C.out;omega
    have ac:(jX ns x)[j]? =some (n.tdiv x):=by unfold jX;rw[iK,hn];rfl
    have S:=rI (ys:=jX ns x) (z:=(0:Int)) (j:=j) (k:=k+1) (by rw[E.out];exact C.out);have T:=rH (z:=(0:Int)) (k:=k) ac;have U:j<((jX ns x).take j++List.replicate (k+1) 0).length:=by rw[S,E.out];have:=C.out;omega
    have al:=aB T;clear ac S T hn;have O:=N.be f;have M:=fun W D G=>mZ n x (.agg #[.bool s,.slice B l d]) (.agg #[.bool r,.slice o q p]) W D G ap (by omega);unfold dW at M;generalize n.tdiv x=y at *;have ah:∀m:Obj,(t.alloc m).cell? ⟨w.1.size,0,none⟩=some (.bool r):=fun m=>(h.alloc m).cell 0 rfl;have aj:∀m:Obj,(t.alloc m).frozen? ⟨w.1.size,0,none⟩=false:=fun m=>(h.alloc m).free 0;have ai:∀m:Obj,(t.alloc m).cell? ⟨w.1.size,1,none⟩=some (.slice o q p):=fun m=>(h.alloc m).cell 1 rfl;have ak:∀m:Obj,(t.alloc m).frozen? ⟨w.1.size,1,none⟩=false:=fun m=>(h.alloc m).free 1;go_wp2_with fail;replace R:=R.alloc (.cells #[.bool s,.slice B l d] 60);have ar:=h.lt;have a2:=f.size;replace h:=h.alloc (.cells #[.bool s,.slice B l d] 60);have X:=Bx.newAt t [.bool s,.slice B l d] 60 (t.1.size) (by simp);replace f:=f.alloc f.size (.cells #[.bool s,.slice B l d] 60);replace L:=Keep.alloc t (.cells #[.bool s,.slice B l d] 60);replace J:=J.ke L;replace O:=O.ke L;generalize t.alloc (.cells #[.bool s,.slice B l d] 60)=W1 at *;replace af:=h.cell 0 rfl;replace ag:=h.cell 1 rfl;replace au:=X.cell 0 rfl;replace av:=X.cell 1 rfl;clear ah ai aj ak g0 g1;refine(M _ J O).mono ?_;rintro e2 w2 ⟨v2,rfl,G,u⟩;obtain⟨s2,A2,k2,c2,rfl⟩:=G.form;replace R:=R.be u;replace h:=h.be u;replace f:=aC f u;obtain⟨s',B',l',d',q0,q1, -⟩:=R.at_ (aR U);have f0:=R.free (j*2);have f1:=R.free (j*2+1);clear M;go_wp2_with fail;obtain⟨V,Z⟩:=R.stored U G;rw[al.out] at V;have ae:Bx _ w.1.size [.bool r,.slice o q p] 60:=(Z.2.1 w.1.size (by omega)).trans h;have ao:=jD f Z (by omega);go_roundg k
    case rel=>exact⟨j+1,by have:=C.out;unfold Hid;omega,by go_num,V,ae,ao⟩
    case measure=>omega
def dq4(ns:List Int)(x:Int)(v b:Value)(w:World)(hv:WholeAt w v ns)(l:IntAt w b x)(c:ns≠[]->x≠0)(K:Nat)(h:∀n∈ns,nl n.natAbs<=K)(j:nl x.natAbs<=K)(i:5*K+4<=aJ)(k:ns.length<=1099511627776):
  Calls prog 136 #[v,b] w fun e w'=>∃a,e= .returned a∧WholeAt w' a (jX ns x)∧Below w.1.size w w':=
 (cqV ns x v b w hv l c K h j i k).mono fun _ _ ⟨a,d,f,_,g⟩=>⟨a,d,f,g⟩
def aS(ns:List Int):List Int:=jX ns (bC ns)
def dF(ns:List Int):(aS ns).length=ns.length:=JR _ _
def nI(h:aN ns)(c:ns≠[]):(bC ns:Int)≠0:=fun e=>by
 obtain⟨a,b⟩:∃a,ns.getLast?=some a:=⟨_,byP c⟩;exact h a b (JQ (by omega) a (List.mem_of_getLast? b))
def gU(h:∀n∈ns,nl n.natAbs<=K):∀n∈aS ns,nl n.natAbs<=K:=X0 h
def WS(ns:List Int)(x:Int)(i:Nat):cf (jX ns x) i=(cf ns i).tdiv x:=mG (fun n:Int=>n.tdiv x) (Int.zero_tdiv x) ns i
def WT(h:∀n∈ns,x∣n)(i:Nat):x∣cf ns i:=by
 by_cases a:i<ns.length
 ·rw[fZ a];exact h _ (aq0 a)
 ·rw[bV (by omega)];exact Int.dvd_zero x
def lW(ns:List Int)(i:Nat):cf (aS ns) i*(bC ns:Int)=cf ns i:=by
 unfold aS;rw[WS];exact Int.tdiv_mul_cancel (WT (fun n hn=>CL hn) i)
def dR{α:Type}[OfNat α 0]{l:List α}(f:l≠[]):aN l↔cf l (l.length-1)≠0:=by
 obtain⟨a,d⟩:∃a,l.getLast?=some a:=⟨_,byP f⟩;have e:=vJ d;constructor
 ·intro h;rw[e];exact h a d
 ·intro h b c;rw[d] at c;injection c with c;rw[<-c,<-e];exact h
def Q5(h:aN ns):aN (aS ns):=by
 by_cases b:ns=[]
 ·rw[b];intro a d;simp[aS,jX] at d
 ·have c:aS ns≠[]:=fun e=>b (bX (by rw[<-dF,e];rfl));rw[dR c,dF];intro e;have:=lW ns (ns.length-1);rw[e,bxB] at this;exact(dR b).1 h this.symm
def qQ(ns:List Int)(v:Value)(w:World)(k:Glob w)(hv:WholeAt w v ns)(m:aN ns)(K:Nat)(a:∀n∈ns,nl n.natAbs<=K)(f:5*K+4<=aJ)(g:ns.length<=1099511627776):
  Calls prog 83 #[v] w fun e w'=>∃h,e= .returned h∧WholeAt w' h (aS ns)∧Below w.1.size w w':=by
 obtain⟨A,c,rfl,s⟩:=hv.form;go_enter func83,ntmps83;go_wp2_with fail;refine(WX ns _ _ k hv K a f g).mono ?_;rintro q z ⟨x,rfl,d,b⟩;obtain⟨u,o,t,p,rfl⟩:=d.form;go_wp2_with fail;refine(dq4 ns (bC ns) _ _ _ (hv.be b) d (fun i=>nI m i) K a (by rw[dD];exact az4 a) f g).mono ?_;rintro r B ⟨y,rfl,j,l⟩;go_wp2;go_ret;exact⟨_,rfl,j,aC b l⟩
def bB(ns:List Int):List Int:=(List.range (ns.length-1)).map (fun i:Nat=>cf ns (i+1)*((i:Int)+1))
def lZ(ns:List Int):(bB ns).length=ns.length-1:=by unfold bB;rw[cH,bxZ]
def WU(ns:List Int)(h:i<ns.length-1):(bB ns)[i]? =some (cf ns (i+1)*((i:Int)+1)):=by
 unfold bB;rw[iK,byN h];rfl
def sB(ns:List Int)(i:Nat):cf (bB ns) i=cf ns (i+1)*((i:Int)+1):=by
 unfold bB;rw[qA];split
 ·rfl
 ·rw[bV (by omega),bxB]
def JN(ns:List Int)(v:Value)(w:World)(hv:WholeAt w v ns)(K:Nat)(hK:∀n∈ns,nl n.natAbs<=K)(ac:K+2<=aJ)(hl:ns.length<=1073741824):
  Calls prog 86 #[v] w fun e w'=>∃X,e= .returned X∧WholeAt w' X (bB ns)∧Below w.1.size w w':=by
 unfold aJ at ac;obtain⟨A,c,rfl,hc⟩:=hv.form;go_enter func86,ntmps86;by_cases o:ns.length=0
 ·have V:((ns.length:Int)==0)=true:=by rw[o];rfl
  have O:ns=[]:=bX o;have HN:=aB O;clear O o;go_wp2;go_ret;rw[HN.out];exact⟨_,rfl,WholeAt.nil _ _ _,aG _ _⟩
 ·have V:((ns.length:Int)==0)=false:=by rw[beq_eq_false_iff_ne];omega
  obtain⟨M,hM⟩:∃M,ns.length=M+1:=⟨ns.length-1,by omega⟩;have ag:(ns.length:Int)-1=(M:Int):=by omega
  have U:(bB ns).length=M:=by rw[lZ];omega
  have h:=aB U;clear U o;go_wp2_with (at_make;refine jT rfl rfl 60 _ 2 32 underlying64 p6 rfl (by decide) M rfl rfl (by first|rfl|omega) (by first|rfl|omega) (by omega) (by omega) ?_;intro Y af S m);have D:OwnW Y w.1.size (List.replicate M 0):=OwnW.made S;clear S af;go_loopg [14] M (fun k i wr=>∃j,Hid (j+k=M)∧i= .int .i64 j∧OwnW wr w.1.size ((bB ns).take j++List.replicate k 0)∧Below w.1.size w wr)
  case atStart=>exact⟨0,by unfold Hid;omega,rfl,by simpa using D,m⟩
  case round=>
   clear D m;obtain⟨j,g,rfl,R,r⟩:=hrel;generalize wr=wy at *;have ah:(0:Int)<=(j:Int):=by omega
   cases gk with
   |zero=>
    have hj:j=M:=g.out;subst hj;rw[aq8,fH,cZ (by rw[h.out];exact aE)] at R;have T:=R.whole j (by rw[h.out];exact aE);rw[h.out] at T;go_wp2;go_ret;exact⟨_,rfl,T,r⟩
   |succ k=>
    have am:j<M:=by have:=g.out;omega
    obtain⟨n,hn⟩:∃n,ns[j+1]? =some n:=⟨_,aR (by omega)⟩;obtain⟨b,s,B,l,d,rfl,t,E,F,L⟩:=(hv.be r).at_ hn;have ao:=hK n (dG hn);have G:cf ns (j+1)=n:=rD hn;have ai:(j:Int)<(M:Int):=by omega
    have ak:(j:Int)+1<(ns.length:Int):=by omega
    have al:(0:Int)<=(j:Int)+1:=by omega
    have C:=WU ns (i:=j) (by omega);rw[G] at C;have H:=rI (ys:=bB ns) (z:=(0:Int)) (j:=j) (k:=k+1) (by rw[h.out];exact g.out);have I:=rH (z:=(0:Int)) (k:=k) C;have J:j<((bB ns).take j++List.replicate (k+1) 0).length:=by rw[H,h.out];have:=g.out;omega
    have Z:=aB I;clear C H I hn G;have aj:nl ((j:Int)+1).natAbs<=1:=cJ (by rw[show((j:Int)+1).natAbs=j+1 by omega];unfold BN;omega);have P:=fun W=>lL ((j:Int)+1) W (by omega) (by omega);have N:=fun W v u h1 q=>jB n ((j:Int)+1) v u W h1 q (by omega);unfold dW at N P;generalize n*((j:Int)+1)=y at *;have x:=L.drew;have Rd:=R.drew;have a:=r.drew;have an:((j:Int)+1).toNat=j+1:=by omega
    have ap:IntKind.i64.wrap ((j:Int)+1)=(j:Int)+1:=by rw[IntKind.wrap_i64];omega
    clear L R r;go_wp2_with fail
    go_region_with (first
     |(go_at_call 40;refine(P _).mono ?_;rintro e3 w3 ⟨v3,rfl,h3,f⟩;replace x:=x.be f;replace Rd:=Rd.be f;replace a:=aC a f;(try replace E:=(f.cell (p:=⟨b,(j+1)*2,none⟩) t).trans E);(try replace F:=(f.cell (p:=⟨b,(j+1)*2+1,none⟩) t).trans F);replace t:=aZ t f.size)
     |(go_at_call 34;refine(N _ _ _ x h3).mono ?_;rintro e2 Y ⟨v2,rfl,q,m⟩;obtain⟨s2,A2,k2,c2,rfl⟩:=q.form;replace Rd:=Rd.be m;replace a:=aC a m;obtain⟨s',B',l',d',V,q1, -⟩:=Rd.at_ (aR J);have f0:=Rd.free (j*2);have f1:=Rd.free (j*2+1)))
    all_goals (
     go_wp2_with fail;obtain⟨Q,ae⟩:=Rd.stored J q;rw[Z.out] at Q;have ad:=jD a ae (by omega);go_roundg k
     case rel=>exact⟨j+1,by have:=g.out;unfold Hid;omega,by go_num,Q,ad⟩
     case measure=>omega)
def tV(p:List Rat)(i:Nat):cf (fW p) i=cf p (i+1)*((i+1:Nat):Rat):=by
 unfold fW;rw[qA];split
 ·rfl
 ·rw[bV (l:=p) (by omega),aqQ]
def pL(a:∀n∈ns,nl n.natAbs<=K)(b:ns.length<=1073741824):∀n∈bB ns,nl n.natAbs<=K+1:=fun n hn=>by
 unfold bB at hn;obtain⟨i,hi,rfl⟩:=List.mem_map.1 hn;have:=List.mem_range.1 hi;exact gT _ _ _ _ (iU a _) (cJ (by rw[show((i:Int)+1).natAbs=i+1 by omega];unfold BN;omega))
abbrev R2(w:World)(b o:Nat)(a c:Value):Prop:=w.cell? ⟨b,o,none⟩=some a∧w.cell? ⟨b,o+1,none⟩=some c
def R2.up{a b:World}[u:Up a b]{g o:Nat}{d e:Value}(h:R2 a g o d e)(c:g<a.1.size):R2 b g o d e:=⟨(u.out.cell (p:=⟨g,o,none⟩) c).trans h.1,(u.out.cell (p:=⟨g,o+1,none⟩) c).trans h.2⟩
def xK{a b:Int}(hn:∀n∈ns,n.natAbs<=T)(j:a.natAbs<=T)(k:b.natAbs<=T):(fE ns a b).natAbs<=ns.length*T^ns.length∧(iZ ns a b).natAbs<=T^ns.length:=by
 induction ns with
 |nil=>exact⟨by show(0:Int).natAbs<=_;simp,by show(1:Int).natAbs<=_;simp⟩
 |cons c ns o=>
  obtain⟨i,d⟩:=o (fun n m=>hn n (j8 _ m));have g:fE (c :: ns) a b=fE ns a b*a+c*iZ ns a b:=rfl;have h:iZ (c :: ns) a b=iZ ns a b*b:=rfl;have l:=hn c (iC ..);have e:=aqK i j;have f:=aqK l d;have p:=aqK d k;rw[g,h,eG];constructor
  ·refine aH (bz2 _ _) ?_;rw[fL,fL,aq2,dH];rw[iW] at e;rw[dN T] at f;exact by5 e f
  ·rw[fL,dH];exact p
def xL{t:Nat}(h:t<=65):t*(BN^K)^t<BN^(K*t+1)∧(BN^K)^t<BN^(K*t+1):=by
 rw[<-azL,dH,dN _ BN];have a:0<BN^(K*t):=d7 (by decide);exact⟨bxF (jI h (by decide)) a,by have:=bxF (show 1<BN by decide) a;rwa [aqD] at this⟩
def mS{n:Nat}(h:nl n<=K):n<=BN^K:=iE (aZ (cyD n) (cO (by decide) h))
def CB(ns:List Int)(x:Rat)(v vx:Value)(w:World)(hv:WholeAt w v ns)(F:RatAt w vx x)(K:Nat)(hK:∀n∈ns,nl n.natAbs<=K)(G:RL K x)(hl:ns.length<=65)(bg:140*K+10<=17592186044416):
  Calls prog 49 #[v,vx] w (dW w (fE ns x.num x.den)):=by
 obtain⟨A,c,rfl,hc⟩:=hv.form;obtain⟨s1,A1,k1,c1,s2,H,k2,I,rfl⟩:=F.form;have ai:=fun W h=>UU x (.agg #[.bool s1,.slice A1 k1 c1,.bool s2,.slice H k2 I]) W h;have ag:=fun W h=>pD x (.agg #[.bool s1,.slice A1 k1 c1,.bool s2,.slice H k2 I]) W h (aH G.2 (by omega));unfold dW at ai ag;have ka:=G.1;have kb:nl (x.den:Int).natAbs<=K:=G.2;obtain⟨W,eW,d,X,R,V⟩:=gE w [.bool s1,.slice A1 k1 c1,.bool s2,.slice H k2 I] 76 [.bool false,.slice none 0 0] 60 [.bool false,.slice none 0 0] 60;have q:=aa X.g4 (aa R.g2 V.g2);go_enter func49,ntmps49;go_wp2_with fail;(try rw[eW]);clear eW;replace F:=F.be d;generalize x.num=a at *;generalize (x.den:Int)=b at *;clear G;have bf:=X.lt;go_cut [6,7] (fun s6 s7 p=>∃g6 g7,s6= .pointer (some ⟨g6,0,none⟩)∧s7= .pointer (some ⟨g7,0,none⟩)∧W.1.size<=g6∧W.1.size<=g7∧g6≠g7∧IntBx p g6 (a)∧IntBx p g7 (b)∧Below W.1.size W p)
 case first=>
  go_region_held3 (fun w'=>C4 w' w.1.size (.bool s1) (.slice A1 k1 c1) (.bool s2) (.slice H k2 I))
   (with_reducible exact X.up.k4)
   (first
    |(go_at_call 102;refine(ai _ F.up).mono ?_;rintro e2 w2 ⟨v2,rfl,h2,ac⟩;have l2:=ac.size;(try simp at l2);have:=St.mk ac;obtain⟨s2,H,k2,I,rfl⟩:=h2.form)
    |(go_at_call 54;refine(ag _ F.up).mono ?_;rintro e3 j ⟨v3,rfl,l,ad⟩;have l3:=ad.size;(try simp at l3);have:=St.mk ad;have y:=Up.out (a:=W) (b:=j);have bo:=y.size;have S:=h2.up (b:=j);(try have⟨_,_,_,_,_⟩:=nG W j);(try have⟨_,_,_,_,_⟩:=pH W j);(try have⟨_,_,_,_,_⟩:=nG w2 j);(try have⟨_,_,_,_,_⟩:=pH w2 j);obtain⟨s3,A3,k3,c3,rfl⟩:=l.form))
  all_goals (
   go_wp2;go_meet;refine⟨_,_,rfl,rfl,by omega,by omega,by omega,?_⟩
   first
    |(with_reducible exact tR S l y)
    |(with_reducible exact xF S l y)
    |(with_reducible exact xG S l (zb ‹_›) y (by omega))
    |(with_reducible exact xH (zb ‹_›) S l y (by omega))
    |(with_reducible exact x3 (zb ‹_›) (zb ‹_›) S l (by omega) y (by omega) (by omega)))
 case rest=>
  obtain⟨gn,gd,rfl,rfl,a9,a8,bi,e,f,E⟩:=hcut;have a6:w.1.size+1+1<W.1.size:=V.lt;replace R:=R.be E;replace V:=V.be E;replace d:=aC d E;have bc:=e.lt;have a7:=f.lt;clear ai ag F E X q;have q:=aa R.g2 V.g2;go_wp2_with fail;refine(lL 1 _ (by decide) (by decide)).mono ?_;rintro e4 w4 ⟨v4,rfl,U,s⟩;obtain⟨s4,A4,k4,c4,rfl⟩:=U.form;obtain⟨W5,ar,m,P⟩:=bI w4 [.bool s4,.slice A4 k4 c4] 60;have bb:=s.size;replace R:=(R.be s).be m;replace V:=(V.be s).be m;replace e:=(e.be s).be m;replace f:=(f.be s).be m;replace U:=U.be m;replace d:=(aC d s).trans (m.mono (aC d s).size);replace q:=aa R.g2 (aa V.g2 P.g2);go_wp2_with fail;(try rw[ar]);clear ar;generalize w4.1.size=L at *;have n1:gn≠L:=by omega
  have n2:gd≠L:=by omega
  have n3:w.1.size+1+1<gn:=by omega
  have n4:w.1.size+1+1<gd:=by omega
  have n5:w.1.size+1+1<L:=by omega
  clear bb bc a7 a9 a8 a6 s m;go_loopg [9] ns.length (fun k i wr=>∃z:Int,Hid (z=(k:Int)-1)∧i= .int .i64 z∧k<=ns.length∧Bx wr (w.1.size+1) [.bool false,.slice none 0 0] 60∧IntBx wr (w.1.size+1+1) (fE (ns.drop k) a b)∧IntBx wr gn a∧IntBx wr gd b∧IntBx wr L (iZ (ns.drop k) a b)∧Below w.1.size w wr)
  case atStart=>exact⟨(ns.length:Int)-1,rfl,rfl,aE,R,⟨_,_,_,_,V,by rw[azY];exact IntAt.zero _⟩,e,f,⟨_,_,_,_,P,by rw[azY];exact U⟩,d⟩
  case round=>
   clear R V P e f U d q;obtain⟨z,HZ,rfl,g,R,⟨s5,A5,k5,c5,V,C⟩,⟨s6,A6,k6,c6,N,e⟩,⟨s7,A7,k7,c7,D,f⟩,⟨s8,A8,k8,c8,P,r⟩,d⟩:=hrel;generalize wr=p at *;have q:=aa R.g2 (aa V.g2 (aa N.k2 (aa D.k2 P.g2)));cases gk with
   |zero=>
    have hz:z<0:=by have:=HZ.out;omega
    have bn:¬0<=z:=by omega
    rw[azZ] at C;clear r HZ;go_wp2_with fail;have ao:=R.lt;have ap:=V.lt;have am:=N.lt;have al:=D.lt;have an:=P.lt;have a0:=d.size;obtain⟨W6,J,R,d,g,o⟩:=R.put2 d (by omega) (.bool s5) (.slice A5 k5 c5) rfl rfl;replace V:=o V (by omega);replace N:=o N (by omega);replace D:=o D (by omega);replace P:=o P (by omega);replace C:=C.ke g;rw[J];clear J;replace q:=aa R.k2 (aa V.k2 (aa N.k2 (aa D.k2 P.k2)));exact aM (v:= .agg #[.bool s5,.slice A5 k5 c5]) (by simp[results,results49,go_sem,R.k2]) rfl ⟨_,rfl,C,d⟩
   |succ k=>
    obtain rfl:z=(k:Int):=by have:=HZ.out;omega
    obtain⟨n,hn⟩:∃n,ns[k]? =some n:=⟨_,aR (by omega)⟩;obtain⟨B,s9,A9,k9,c9,rfl,aw,g0,g1,hi⟩:=(hv.be d).at_ hn;have bk:(k:Int)<(ns.length:Int):=by omega
    have bj:(0:Int)<=(k:Int):=by omega
    obtain⟨a2,a3⟩:=WP a b hn;have ae:=xK (ns:=ns.drop (k+1)) (a:=a) (b:=b) (T:=BN^K) (fun n h=>mS (hK n (bxD h))) (mS ka) (mS kb);have bm:=hK n (dG hn);obtain⟨t,ht⟩:∃t,(ns.drop (k+1)).length=t:=⟨_,rfl⟩;have a1:t<=65:=by rw[<-ht,eP];omega
    rw[ht] at ae;obtain⟨a4,a5⟩:=xL (K:=K) a1;have ba:K*t<=65*K:=by rw[dN];exact dK _ a1
    have HV:Hid (0+fE (ns.drop (k+1)) a b*a+n*iZ (ns.drop (k+1)) a b=fE (ns.drop k) a b):=by unfold Hid;rw[a2,bxA]
    have HP:=aB a3;obtain⟨Y',hY⟩:∃Y',fE (ns.drop k) a b=Y':=⟨_,rfl⟩;rw[hY] at HV;have HY:=aB hY;clear a2 a3 ht hn hY;generalize fE (ns.drop (k+1)) a b=Y at *;generalize iZ (ns.drop (k+1)) a b=Q at *;have lY:nl Y.natAbs<=K*t+1:=cJ (jI ae.1 a4);have lQ:nl Q.natAbs<=K*t+1:=cJ (jI ae.2 a5);have m1:Y.natAbs*a.natAbs<BN^(K*t+1+K):=by
     have O:=cyD (Y.natAbs*a.natAbs);exact aZ O (cO (by decide) (aH (fI _ _) (by5 lY ka)))
    have m2:n.natAbs*Q.natAbs<BN^(K*t+1+K):=by
     have O:=cyD (n.natAbs*Q.natAbs);exact aZ O (cO (by decide) (aH (fI _ _) (by omega)))
    have m3:BN^(K*t+1+K)*BN<=BN^(67*K+3):=by rw[<-dH];exact cO (by decide) (by omega)
    have m4:2*BN^(K*t+1+K)<=BN^(K*t+1+K)*BN:=by rw[dN];exact eV _ (by decide)
    obtain⟨ws,es,ax, -⟩:=bI p [.slice none 0 0,.slice none 0 0] 124;have af:=(SumAt.new p (67*K+3)).now;have ay:p.alloc (.cells #[.slice none 0 0,.slice none 0 0] 124)=ws:=es;rw[ay] at af;have:=St.mk ax;have az:=vP p.1.size ws.1.size (67*K+3) 0 0 Y a s5 A5 k5 c5 s6 A6 k6 c6 ws af C.up e.up C.blk e.blk (by omega) (by unfold aJ;omega) (by omega);have aj:=fun W Z h O h2=>vP p.1.size Z (67*K+3) (0+Y.natAbs*a.natAbs) (0+Y*a) n Q s9 A9 k9 c9 s8 A8 k8 c8 W h O h2 hi.blk r.blk (by omega) (by unfold aJ;omega) (by omega);have ak:=fun W Z M h=>AB p.1.size Z (67*K+3) M Y' W h (by unfold aJ;omega);have ah:=fun W v u h h'=>jB Q b v u W h h' (by omega);rw[HV.out] at aj;unfold dW at ak ah;have gr:R2 p B (k*2) (.bool s9) (.slice A9 k9 c9):=⟨g0,g1⟩;clear af ae a4 a5 m1 m2 m3 m4 lY lQ ba ay g0 g1;have cX:=aa (V.up (b:=ws)).k2 (N.up (b:=ws)).k2;go_wp2_with fail;(try rw[es]);clear es;refine az.mono ?_;rintro e1 w1 ⟨rfl,au,E, -⟩;have:=St.mk (ax.trans E);have bh:=aw;clear az;go_wp2_with fail
    go_region_held3 (fun w'=>R2 w' B (k*2) (.bool s9) (.slice A9 k9 c9)∧C2 w' L (.bool s8) (.slice A8 k8 c8)) (with_reducible exact⟨gr.up aw,P.up.k2⟩)
     (first
      |(go_at_call 79;refine(aj _ _ (au.be Up.out) hi.up r.up).mono ?_;rintro e2 w2 ⟨rfl,av,ac, -⟩;have:=St.mk ((Up.out (a:=p)).trans ac)))
    all_goals (
     clear aj au cX;go_wp2_with fail;refine(ak _ _ _ av).mono ?_;rintro e3 j ⟨v3,rfl,l,ad⟩;obtain⟨s3,A3,k3,c3,rfl⟩:=l.form;have:=St.mk ad;replace R:=R.up (b:=j);replace V:=V.up (b:=j);replace N:=N.up (b:=j);replace D:=D.up (b:=j);replace P:=P.up (b:=j);replace e:=e.up (b:=j);replace f:=f.up (b:=j);replace r:=r.up (b:=j);replace d:=bJ (b:=j) d;replace q:=aa R.g2 (aa V.g2 (aa N.k2 (aa D.k2 P.g2)));clear ak av;go_wp2_with fail;have ao:=R.lt;have ap:=V.lt;have am:=N.lt;have al:=D.lt;have an:=P.lt;have a0:=d.size;obtain⟨W4,aq,V,d,g,o⟩:=V.put2 d (by omega) (.bool s3) (.slice A3 k3 c3) rfl rfl;replace R:=o R (by omega);replace N:=o N (by omega);replace D:=o D (by omega);replace P:=o P (by omega);replace l:=l.ke g;replace e:=e.ke g;replace f:=f.ke g;replace r:=r.ke g;rw[aq];clear aq;replace q:=aa R.g2 (aa V.g2 (aa N.k2 (aa D.k2 P.g2)));refine(ah _ _ _ r f).mono ?_;rintro e5 w5 ⟨v5,rfl,h5,m⟩;obtain⟨sx,Ax,G,cx,rfl⟩:=h5.form;replace R:=R.be m;replace V:=V.be m;replace N:=N.be m;replace D:=D.be m;replace P:=P.be m;replace q:=aa R.g2 (aa V.g2 (aa N.k2 (aa D.k2 P.g2)));replace g:=Keep.be m;replace l:=l.ke g;replace e:=e.ke g;replace f:=f.ke g;replace d:=aC d m;clear ah;go_wp2_with fail;have ao:=R.lt;have ap:=V.lt;have am:=N.lt;have al:=D.lt;have an:=P.lt;have a0:=d.size;obtain⟨W6,J,P,d,g,o⟩:=P.put2 d (by omega) (.bool sx) (.slice Ax G cx) rfl rfl;replace R:=o R (by omega);replace V:=o V (by omega);replace N:=o N (by omega);replace D:=o D (by omega);replace h5:=h5.ke g;replace l:=l.ke g;replace e:=e.ke g;replace f:=f.ke g;rw[J];clear J;replace q:=aa R.k2 (aa V.k2 (aa N.k2 (aa D.k2 P.k2)));go_roundg k
     case rel=>exact⟨(k:Int)-1,rfl,by first|rfl|go_num,by omega,R,⟨_,_,_,_,V,by rw[HY.out];exact l⟩,⟨_,_,_,_,N,e⟩,⟨_,_,_,_,D,f⟩,⟨_,_,_,_,P,by rw[HP.out];exact h5⟩,d⟩
     case measure=>omega)
def CY(a:List Rat)(k i:Nat):cf (a++List.replicate k 0) i=cf a i:=by
 by_cases h:i<a.length
 ·rw[fZ (l:=a) h,rD (a:=a[i])];rw[gA h,aR h]
 ·rw[bV (l:=a) (by omega)];by_cases b:i<a.length+k
  ·refine rD ?_;rw[fK (by omega),j6,if_pos (by omega)]
  ·exact bV (by rw[dA,dB];omega)
def dxX(a:List Rat)(k i:Nat)(h:i<a.length+k):(a++List.replicate k 0)[i]? =some (cf a i):=by
 have b:i<(a++List.replicate k 0).length:=by rw[dA,dB];exact h
 rw[aR b,<-fZ b,CY]
def dq5(h:1<=K):RL K 0:=⟨by show nl 0<=K;rw[dO];omega,by show nl 1<=K;exact aH (cJ (by decide)) h⟩
def D2{l:List Rat}(h:∀q∈l,RL K q)(b:RL K 0)(i:Nat):RL K (cf l i):=by
 by_cases a:i<l.length
 ·rw[fZ a];exact h _ (aq0 a)
 ·rw[bV (by omega)];exact b
def eX(op:Rat->Rat->Rat)(a b:List Rat):List Rat:=(List.range (max a.length b.length)).map (fun i=>op (cf a i) (cf b i))
def U1(op:Rat->Rat->Rat)(a b:List Rat):(eX op a b).length=max a.length b.length:=by unfold eX;rw[cH,bxZ]
def dxY(op:Rat->Rat->Rat)(a b:List Rat)(h:i<max a.length b.length):(eX op a b)[i]? =some (op (cf a i) (cf b i)):=by unfold eX;rw[iK,byN h];rfl
end Go.Proofs.YtjgbleapffgbcaaGreatDoor
namespace Go.Proofs.YtjgbleapffgbcaaGreatDoor
open Sos
variable{A B Q R a b l ys:List Rat}{L i n:Nat}
def gN(l:List Rat)(g:Nat->Rat)(i k:Nat):List Rat:=(List.range l.length).map (fun j=>if i<=j∧j<i+k then g j else cf l j)
def oR(e:a.length=b.length)(h:∀j,cf a j=cf b j):a=b:=bzO e (fun j c d=>by have:=h j;rwa [fZ c,fZ d] at this)
def CV{x:Rat}(h:i<l.length)(j:Nat):cf (l.set i x) j=if j=i then x else cf l j:=by
 by_cases e:j=i
 ·subst e;rw[if_pos rfl];exact rD (by rw[gP h])
 ·rw[if_neg e];unfold cf;rw[eE,eE,lI (fun h=>e h.symm)]
section
variable {l:List Rat}{g:Nat->Rat}{i k:Nat}
def sC(j:Nat):cf (gN l g i k) j=if i<=j∧j<i+k∧j<l.length then g j else cf l j:=by
 unfold gN;rw[qA];by_cases h:j<l.length
 ·rw[if_pos h];by_cases a:i<=j∧j<i+k
  ·rw[if_pos a,if_pos ⟨a.1,a.2,h⟩]
  ·rw[if_neg a,if_neg (fun b=>a ⟨b.1,b.2.1⟩)]
 ·rw[if_neg h,if_neg (fun b=>h b.2.2),bV (by omega)]
end
def oA(a:List Rat)(c:Rat)(b:List Rat):List Rat:=(List.range (max a.length b.length)).map (fun i=>cf a i+c*cf b i)
def xW(a:List Rat)(c:Rat)(b:List Rat)(i:Nat):cf (oA a c b) i=cf a i+c*cf b i:=by
 unfold oA;rw[qA];split
 ·rfl
 ·rw[bV (l:=a) (by omega),bV (l:=b) (by omega),dU,bx3]
structure DivQ(A B Q R:List Rat):Prop where
 id_:∀i,conv (cf Q) (cf B) i+cf R i=cf A i
 q_trim:aN Q
 r_trim:aN R
 r_lt:R.length<B.length
structure DivJ(A B Q R:List Rat)(i:Nat):Prop where
 id_:∀j,conv (cf Q) (cf B) j+cf R j=cf A j
 q0:∀j,j<i->cf Q j=0
 r0:∀j,i+B.length<=j+1->cf R j=0
def DivJ.start(A B:List Rat)(h:B.length<=A.length):DivJ A B (List.replicate (A.length-B.length+1) 0) A (A.length-B.length+1):=
 have a:∀j,cf (List.replicate (A.length-B.length+1) (0:Rat)) j=0:=fun j=>by
  have:=CY [] (A.length-B.length+1) j;rw[iM,eR] at this;exact this
 ⟨fun j=>by rw[lK a,bxT],fun j _=>a j,fun j b=>bV (by omega)⟩
def DivJ.step(h:DivJ A B Q R (i+1))(m:cf B (B.length-1)≠0)(hn:1<=B.length)(c:i<Q.length)(p:i+B.length<=R.length){f:Rat}(n:f=cf R (i+B.length-1)/cf B (B.length-1)):
  DivJ A B (Q.set i f) (gN R (fun j=>cf R j-f*cf B (j-i)) i B.length) i:=by
 have d:∀j,cf (gN R (fun j=>cf R j-f*cf B (j-i)) i B.length) j=cf R j-(if i<=j then f*cf B (j-i) else 0):=fun j=>by
  rw[sC];by_cases a:i<=j∧j<i+B.length∧j<R.length
  ·rw[if_pos a,if_pos a.1]
  ·rw[if_neg a];by_cases b:i<=j
   ·rw[if_pos b,bV (l:=B) (by omega)];grind
   ·rw[if_neg b];grind
 refine⟨fun j=> ?_,fun j o=> ?_,fun j o=> ?_⟩
 ·have e:conv (cf (Q.set i f)) (cf B) j=conv (cf Q) (cf B) j+conv (fun k=>if k=i then f else 0) (cf B) j:=by
   rw[<-qD];refine gL (fun k=> ?_) (fun _=>rfl) j;rw[CV c];by_cases e:k=i
   ·rw[if_pos e,if_pos e,h.q0 k (by omega),bxT]
   ·rw[if_neg e,if_neg e,bx3]
  rw[e,qE,d,<-h.id_ j];grind
 ·rw[CV c,if_neg (by omega)];exact h.q0 j (by omega)
 ·rw[d,if_pos (by omega)];by_cases e:j=i+B.length-1
  ·subst e;rw[show i+B.length-1-i=B.length-1 by omega,n,gW m];grind
  ·rw[h.r0 j (by omega),bV (l:=B) (by omega)];grind
def XT(h:∀j,n<=j->cf l j=0):(aW aV l).length<=n:=by
 rcases dE n (aW aV l).length with a|a
 ·exfalso;have d:aW aV l≠[]:=by intro e;rw[e] at a;simp at a
  have b:=byP d;have c:=vJ b;rw[iS,h _ (by omega)] at c;exact jS l _ b c.symm
 ·exact a
def DivJ.done(h:DivJ A B Q R 0)(hn:1<=B.length):DivQ A B (aW aV Q) (aW aV R):=
 ⟨fun j=>by rw[gL (iS Q) (fun _=>rfl) j,iS];exact h.id_ j,jS _,jS _,by
  have:=XT (l:=R) (n:=B.length-1) (fun j a=>h.r0 j (by omega));omega⟩
def DivQ.short(h:A.length<B.length):DivQ A B [] (aW aV A):=
 ⟨fun j=>by rw[lK (fun k=>eR k),iS,bxT],fun a b=>by simp at b,jS _,jI (oY _ _) h⟩
def XU{d:Nat->Rat}(f:cf ys (ys.length-1)≠0)(hn:1<=ys.length)(b:∀i,L<=i->d i=0)(h:∀i,ys.length<=i+1->conv d (cf ys) i=0):∀i,d i=0:=by
 induction L with
 |zero=>exact fun i=>b i (dC _)
 |succ L s=>
  refine s (fun i t=> ?_);by_cases o:L+1<=i
  ·exact b i o
  ·have e:i=L:=by omega
   subst e;have c:=p5 (p:=d) (q:=cf ys) (m:=i) (n:=ys.length-1) (fun j r=>b j (by omega)) (fun j r=>bV (by omega));rw[h _ (by omega)] at c;rcases Rat.mul_eq_zero.1 c.symm with a|a
   ·exact a
   ·exact absurd a f
def DivQ.unique{Q':List Rat}(h:DivQ A B Q R)(a:DivQ A B Q' b)(f:cf B (B.length-1)≠0)(hn:1<=B.length):Q=Q'∧R=b:=by
 have c:∀i,conv (fun k=>cf Q k+(-1)*cf Q' k) (cf B) i=cf b i-cf R i:=fun i=>by
  rw[qD,eI];have m:=h.id_ i;have n:=a.id_ i;grind
 have e:=XU (d:=fun k=>cf Q k+(-1)*cf Q' k) (L:=Q.length+Q'.length) f hn (fun i j=>by show cf Q i+(-1)*cf Q' i=0;rw[bV (by omega),bV (by omega)];grind) (fun i j=>by rw[c,bV (by have:=a.r_lt;omega),bV (by have:=h.r_lt;omega)];grind);refine⟨oZ h.q_trim a.q_trim (fun i=> ?_),oZ h.r_trim a.r_trim (fun i=> ?_)⟩
 ·have:=e i;grind
 ·have:=c i;rw[lK e] at this;grind
end Go.Proofs.YtjgbleapffgbcaaGreatDoor
namespace Go.Proofs.YtjgbleapffgbcaaGreatDoor
open Go.RowKit Sos Tryz
variable{B K a b c d:Nat}
def PQRes.mono{xs ys q r:List Int}{m:Int}(h:PQRes xs ys b m q r)(a:b<=c):PQRes xs ys c m q r:=
 ⟨h.id_,h.m0,h.r_lt,h.q_trim,h.r_trim,h.q_len,h.pow,fun n hn=>aH (h.bq n hn) a,fun n hn=>aH (h.br n hn) a,aH h.bm a⟩
inductive Euc(B:Nat):List Int->List Int->List Int->Prop
 |done (a:List Int):Euc B a [] a
 |one {a b:List Int} (hb:b.length=1):Euc B a b [1]
 |step {a b q r g:List Int} {m:Int} (hb:1<b.length) (h:PQRes a b B m q r) (t:Euc B b (aS r) g):Euc B a b g
def pO(B:Nat)(xs ys g:List Int):Prop:=if xs.length<ys.length then Euc B (aS ys) (aS xs) g else Euc B (aS xs) (aS ys) g
def WholeAt.single{w:World}{s:Bool}{A:Option Addr}{k:Nat}{n:Int}(h:IntAt w (.agg #[.bool s,.slice A k c]) n):WholeAt (w.alloc (.cells #[.bool s,.slice A k c] 60)) (.slice (some ⟨w.1.size,0,none⟩) 1 1) [n]:=by
 have B:=Bx.new w [.bool s,.slice A k c] 60;have:OwnW (w.alloc (.cells #[.bool s,.slice A k c] 60)) w.1.size [n]:=by
  refine⟨[[.bool s,.slice A k c]],⟨B,fun r b=> ?_⟩,aE,fun i m a=> ?_⟩
  ·rw[List.mem_singleton.1 b];rfl
  ·cases i with
   |zero=>injection a with a;subst a;exact⟨s,A,k,c,rfl,h.ke (Keep.alloc _ _)⟩
   |succ i=>simp at a
 exact this.whole 1 aE
def JZ(h:1<=d):d+2<=3^d:=by
 induction d with
 |zero=>omega
 |succ d b=>
  rw[dH];by_cases a:d=0
  ·subst a;decide
  ·have:=b (by omega);omega
def cx2(h:(K+1)*(b-a+2)*3^a<=B)(k:c<a)(j:a<=b):(K+(b+1-a)*(K+1)+1)*(a-c+2)*3^c<=B:=by
 have e:K+(b+1-a)*(K+1)+1=(K+1)*(b-a+2):=by
  rw[show b+1-a=b-a+1 by omega,aqA (b-a) 1 (K+1),iL (K+1) (b-a) 2,dN (b-a) (K+1)];omega
 have f:a=(a-c)+c:=by omega
 have g:=JZ (d:=a-c) (by omega);have i:(K+1)*(b-a+2)*3^a=(K+1)*(b-a+2)*3^(a-c)*3^c:=by
  conv=>lhs;rw[f,KF]
  rw[show(a-c+c)=a by omega,iW];simp only[iW]
 rw[i] at h;rw[e];exact aH (dK _ (eV _ g)) h
def xX(h:(K+1)*(b-a+2)*3^a<=B)(d:a<=b):K+(b+1-a)*(K+1)+1<=B:=by
 have c:K+(b+1-a)*(K+1)+1=(K+1)*(b-a+2):=by
  rw[show b+1-a=b-a+1 by omega,aqA (b-a) 1 (K+1),iL (K+1) (b-a) 2,dN (b-a) (K+1)];omega
 rw[c];exact aH (by7 _ (d7 (by decide))) h
def dq6(xs ys:List Int)(vx vy:Value)(w:World)(y:Glob w)(hx:WholeAt w vx xs)(hy:WholeAt w vy ys)(tx:aN xs)(ty:aN ys)(u K B:Nat)(ay:∀n∈xs,nl n.natAbs<=u)(az:∀n∈ys,nl n.natAbs<=u)(ba:5*u+8<=aJ)(J:∀n∈aS xs,nl n.natAbs<=K)(L:∀n∈aS ys,nl n.natAbs<=K)(aw:1<=K)
  (F:xs.length<ys.length->(K+1)*(ys.length-xs.length+2)*3^xs.length<=B)(G:¬xs.length<ys.length->(K+1)*(xs.length-ys.length+2)*3^ys.length<=B)(a9:5*B+8<=aJ)(a5:xs.length<=1073741824)(a6:ys.length<=1073741824):
  Calls prog 85 #[vx,vy] w fun e w'=>∃v' g,e= .returned v'∧WholeAt w' v' g∧pO B xs ys g∧Below w.1.size w w':=by
 obtain⟨A,c,rfl,hc⟩:=hx.form;obtain⟨O,V,rfl,bc⟩:=hy.form;have lX:=dF xs;have lY:=dF ys;have pX:=qQ xs _ w y hx tx u ay (by omega) (by omega);have pY:=fun W d=>qQ ys _ W (y.be d) (hy.be d) ty u az (by omega) (by omega);have M:=Q5 tx;have N:=Q5 ty;have ad:xs.length<ys.length->∀g,Euc B (aS ys) (aS xs) g->pO B xs ys g:=fun h g k=>by unfold pO;rw[if_pos h];exact k
 have ae:¬xs.length<ys.length->∀g,Euc B (aS xs) (aS ys) g->pO B xs ys g:=fun h g k=>by unfold pO;rw[if_neg h];exact k
 generalize pO B xs ys=T at *;generalize aS xs=X at *;generalize aS ys=Y at *;rw[<-lX] at a5;rw[<-lY] at a6;rw[<-lX,<-lY] at F G;have s:Hid (xs.length<ys.length↔X.length<Y.length):=by unfold Hid;omega
 clear lX lY;go_enter func85,ntmps85;go_wp2_with fail;refine pX.mono ?_;rintro e1 w1 ⟨v1,rfl,i,d⟩;obtain⟨A1,c1,rfl,bf⟩:=i.form;go_wp2_with fail;refine(pY _ d).mono ?_;rintro e2 w2 ⟨v2,rfl,x,ag⟩;obtain⟨A2,c2,rfl,bg⟩:=x.form;replace i:=i.be ag;replace d:=aC d ag;clear pX pY ag hx hy;by_cases o:xs.length<ys.length
 focus (
  have af:=aB (ad o);have ac:=F (s.out.1 o);have a4:X.length<Y.length:=s.out.1 o;have a3:(X.length:Int)<(Y.length:Int):=by omega
  clear ad ae F G s o;have ah:=x;have ai:=i;have aj:=L;have ak:=J;have al:=N;have am:=M;clear i x J L M N;go_wp2_with fail;generalize Y=XX at *;generalize X=U at *
 )
 rotate_left
 focus (
  have af:=aB (ae o);have ac:=G (fun h=>o (s.out.2 h));have a4:¬X.length<Y.length:=fun h=>o (s.out.2 h);have a3:¬(X.length:Int)<(Y.length:Int):=by omega
  clear ad ae F G s o;have ah:=i;have ai:=x;have aj:=J;have ak:=L;have al:=M;have am:=N;clear i x J L M N;go_wp2_with fail;generalize X=XX at *;generalize Y=U at *
 )
 all_goals (
  go_loopg [5,6] U.length (fun k va vb wr=>∃a b A c O V f,Hid (b.length=k)∧va= .slice A a.length c∧vb= .slice O b.length V∧WholeAt wr (.slice A a.length c) a∧WholeAt wr (.slice O b.length V) b∧Hid (aN a)∧Hid (aN b)∧Hid (∀g,Euc B a b g->T g)∧
   (∀n∈a,nl n.natAbs<=f)∧(∀n∈b,nl n.natAbs<=f)∧1<=f∧b.length<=a.length∧a.length<=1073741824∧Hid ((f+1)*(a.length-b.length+2)*3^b.length<=B)∧Below w.1.size w wr)
  case atStart=>exact⟨XX,U,_,_,_,_,K,rfl,rfl,rfl,ah,ai,al,am,af,aj,ak,aw,by omega,by omega,ac,d⟩
  case round=>
   clear ah ai d ac al am aj ak af;obtain⟨a,b,Aa,ca,Ab,cb,f,HL,rfl,rfl,ha,l,av,ao,R,ka,kb,ap,aq,a2,HP,d⟩:=hrel;generalize wr=wy at *;have bb:=xX HP.out aq;by_cases v:b.length=0
   ·have q0:¬(0:Int)<(b.length:Int):=by omega
    have z:b=[]:=bX v;have j:=R.out a (by rw[z];exact Euc.done a);have E:=aB j;clear z v j;go_wp2;go_ret
    first|exact⟨_,a,rfl,ha,E.out,d⟩|exact⟨_,rfl,a,ha,E.out,d⟩
   ·have q0:(0:Int)<(b.length:Int):=by omega
    by_cases i:b.length=1
    ·have q1:((b.length:Int)==1)=true:=by simp;omega
     have j:=R.out [1] (Euc.one i);have E:=aB j;clear v i j;go_wp2_with fail;refine(lL 1 _ (by decide) (by decide)).mono ?_;rintro e3 D ⟨v3,rfl,h3,C⟩;obtain⟨s3,Q,k3,Z,rfl⟩:=h3.form;go_wp2;go_ret;exact⟨_,[1],rfl,WholeAt.single h3,E.out,(aC d C).alloc (aH d.size C.size) _⟩
    ·have q1:((b.length:Int)==1)=false:=by simp;omega
     have z:b≠[]:=fun e=>v (by rw[e];rfl);have a0:1<b.length:=by omega
     have pq:=BU a b _ _ wy ha l z av.out ao.out f _ ka kb ap aE (by omega) a2 (by omega);unfold wZ at pq;go_wp2_with fail;refine pq.mono ?_;rintro e3 D ⟨vq,vr,vm,q,r,m,rfl,hq,I,hm,p,C⟩;obtain⟨Aq,cq,rfl, -⟩:=hq.form;obtain⟨Ar,cr,rfl,bi⟩:=I.form;obtain⟨s3,Q,k3,Z,rfl⟩:=hm.form;have a8:=p.r_lt;have a7:=fun W y h=>qQ r (.slice Ar r.length cr) W y h p.r_trim _ p.br (by omega) (by omega);have ht:=Q5 p.r_trim;have hk:=gU p.br;have a1:∀n∈b,nl n.natAbs<=f+(a.length+1-b.length)*(f+1):=fun n hn=>aH (kb n hn) (byR _ _);have hl:=dF r;have au:(f+(a.length+1-b.length)*(f+1)+1)*(b.length-(aS r).length+2)*3^(aS r).length<=B:=by rw[hl];exact cx2 HP.out a8 aq
     have j:∀g,Euc B b (aS r) g->T g:=fun g t=>R.out g (Euc.step a0 (p.mono (by omega)) t);have S:=aB (And.intro au (And.intro j ht));have ax:1<=f+(a.length+1-b.length)*(f+1):=aH ap (byR _ _);have an:=aB hl;clear hl p au j ht pq v i z;generalize aS r=P at *;generalize f+(a.length+1-b.length)*(f+1)=KK at *;replace l:=l.be C;replace d:=aC d C;go_wp2_with fail;have H:Below D.1.size D (D.alloc (.cells #[.bool s3,.slice Q k3 Z] 60)):=(aG _ _).alloc aE _;replace l:=l.be H;replace I:=I.be H;replace d:=aC d H;clear H;generalize D.alloc (.cells #[.bool s3,.slice Q k3 Z] 60)=w4 at *;refine(a7 _ (y.be d) I).mono ?_;rintro e5 w5 ⟨v5,rfl,h5,ar⟩;obtain⟨A5,c5,rfl,bh⟩:=h5.form;replace l:=l.be ar;replace d:=aC d ar;go_wp2;go_roundg P.length
     case rel=>exact⟨b,P,Ab,cb,A5,c5,KK,rfl,rfl,rfl,l,h5,ao,S.out.2.2,S.out.2.1,a1,hk,ax,by have:=an.out;omega,by omega,S.out.1,d⟩
     case measure=>have:=HL.out;have:=an.out;omega
 )
def XV(xs ys:List Int)(a b:Value)(w:World)(l:Glob w)(q:WholeAt w a xs)(r:WholeAt w b ys)(s:aN xs)(t:aN ys)(K B:Nat)(f:∀n∈xs,nl n.natAbs<=K)(i:∀n∈ys,nl n.natAbs<=K)(m:1<=K)
  (c:xs.length<ys.length->(K+1)*(ys.length-xs.length+2)*3^xs.length<=B)(d:¬xs.length<ys.length->(K+1)*(xs.length-ys.length+2)*3^ys.length<=B)(k:5*B+8<=aJ)(o:xs.length<=1073741824)(p:ys.length<=1073741824):
  Calls prog 85 #[a,b] w fun e w'=>∃j g,e= .returned j∧WholeAt w' j g∧pO B xs ys g∧Below w.1.size w w':=by
 have u:K<=B:=by
  by_cases h:xs.length<ys.length
  ·have:=xX (c h) (by omega);omega
  ·have:=xX (d h) (by omega);omega
 exact dq6 xs ys a b w l q r s t K K B f i (by omega) (gU f) (gU i) m c d k o p
end Go.Proofs.YtjgbleapffgbcaaGreatDoor
namespace Go.Proofs.YtjgbleapffgbcaaGreatDoor
open Sos
variable{D m n:Int}{a e g l r:List Int}{A R p:List Rat}{B K v:Nat}
def Prp(A:List Rat)(a:List Int):Prop:=A.length=a.length∧aN a∧∃c:Rat,c≠0∧∀i,cf A i=c*cf a i
def gJ(h:n≠0):(n:Rat)≠0:=fun e=>h (Rat.intCast_inj.1 e)
def qS(c:Rat)(l:List Int)(i:Nat):cf (l.map (fun n:Int=>c*(n:Rat))) i=c*cf l i:=mG (fun n:Int=>c*(n:Rat)) (by show c*((0:Int):Rat)=0;rw[aq4,dU]) l i
def jY{c:Rat}(a:c≠0)(h:aN l):Prp (l.map (fun n:Int=>c*(n:Rat))) l:=⟨cH _,h,c,a,qS c l⟩
def Prp.ne(h:Prp A a)(b:a≠[]):cf A (A.length-1)≠0:=by
 obtain⟨g,i,c,f,d⟩:=h;rw[d,g];have:=gJ ((dR b).1 i);intro e;rcases Rat.mul_eq_zero.1 e with e|e
 ·exact f e
 ·exact this e
def Prp.trim(h:Prp A a):aN A:=by
 by_cases b:a=[]
 ·have:A=[]:=bX (by rw[h.1,b];rfl);rw[this];intro x c;simp at c
 ·exact(dR (fun e=>b (bX (by rw[<-h.1,e];rfl)))).2 (h.ne b)
def Prp.none(h:Prp A []):A=[]:=bX h.1
def CT{g Q:List Rat}{b q:List Int}(j:Prp A a)(f:Prp g b)(s:b≠[])(h:PQRes a b v m q r)(B:DivQ A g Q R):Prp R r:=by
 obtain⟨F, -,c,C,j⟩:=j;have y:=f.ne s;obtain⟨p, -,d,t,f⟩:=f;have u:=gJ h.m0;have l:c/m≠0:=by
  rw[azE];intro e;rcases Rat.mul_eq_zero.1 e with e|e
  ·exact C e
  ·exact u (by have:=Rat.inv_inv (m:Rat);rw[e,Rat.inv_zero] at this;exact this.symm)
 have D:DivQ A g (q.map (fun n:Int=>(c/m/d)*(n:Rat))) (r.map (fun n:Int=>(c/m)*(n:Rat))):=by
  have E:aN (q.map (fun n:Int=>(c/m/d)*(n:Rat))):=by
   refine(jY ?_ h.q_trim).trim;rw[azE];intro e;rcases Rat.mul_eq_zero.1 e with e|e
   ·exact l e
   ·exact t (by have:=Rat.inv_inv d;rw[e,Rat.inv_zero] at this;exact this.symm)
  refine⟨fun i=> ?_,E,(jY l h.r_trim).trim,by rw[cH,p];exact h.r_lt⟩;rw[gL (qS _ q) f i,eI,rF,qS,j];have o:((m*cf a i:Int):Rat)=((conv (cf q) (cf b) i+cf r i:Int):Rat):=by rw[h.id_ i]
  rw[eJ,aqE,oD] at o;generalize conv (fun k=>((cf q k:Int):Rat)) (fun k=>((cf b k:Int):Rat)) i=z at *
  have w:c/m/d*(d*z)=c/m*z:=by rw[<-azC,gW t]
  rw[w];have x:c/m*z+c/m*((cf r i:Int):Rat)=c/m*(m*cf a i):=by rw[o];grind
  rw[x,<-azC,gW u]
 obtain⟨-,rfl⟩:=B.unique D y (by rw[p];exact List.length_pos_iff.2 s);exact jY l h.r_trim
def nM(h:Prp R r):Prp R (aS r):=by
 obtain⟨g,a,c,f,d⟩:=h;by_cases b:r=[]
 ·subst b;exact⟨g,Q5 a,c,f,fun i=>by rw[d,eR];have:aS []=[]:=bX (dF []);rw[this,eR]⟩
 ·refine⟨by rw[dF];exact g,Q5 a,c*((bC r:Int):Rat),fun e=> ?_,fun i=> ?_⟩
  ·rcases Rat.mul_eq_zero.1 e with e|e
   ·exact f e
   ·exact gJ (nI a b) e
  ·rw[d,<-lW r i,eJ];grind
def cE(g:List Int):List Rat:=tT g (cf g (g.length-1))
def oQ(p:List Rat):List Rat:=aW aV (oA [] (1/cf p (p.length-1)) p)
def qT(h:Prp p e):oQ p=cE e:=by
 by_cases a:e=[]
 ·subst a;rw[h.none];rfl
 ·have hn:=h.ne a;obtain⟨d,g,c,k,b⟩:=h;have f:=(dR a).1 g;refine oZ (jS _) (VN f g) (fun i=> ?_);unfold oQ cE;rw[iS,xW,eR,xN,b,b,d];have j:=gJ f;rw[b,d] at hn;grind
def uD(a:aN e):Prp (cE e) e:=by
 by_cases b:e=[]
 ·subst b;exact⟨rfl,a,1,by decide,fun i=>by rw[eR];show cf [] i=_;rw[eR,aq4,dU]⟩
 ·have d:=gJ ((dR b).1 a);refine⟨cH _,a,1/((cf e (e.length-1):Int):Rat),fun h=> ?_,fun i=>by unfold cE;rw[xN];grind⟩;have:(1:Rat)=0:=by
   have c:1/((cf e (e.length-1):Int):Rat)*((cf e (e.length-1):Int):Rat)=1:=gW d;rw[<-c,h,aqQ]
  exact absurd this (by decide)
def XM(h:e.length=1)(c:aN e):cE e=cE [1]:=by
 obtain⟨x,rfl⟩:∃x,e=[x]:=List.length_eq_one_iff.1 h;have d:=c x rfl;have:=gJ d;show[(x:Rat)/(x:Rat)]=[((1:Int):Rat)/((1:Int):Rat)]
 have a:(x:Rat)/x=1:=by grind
 have b:((1:Int):Rat)/((1:Int):Rat)=1:=by rw[bxS];grind
 rw[a,b]
def Trc(B:Nat)(a b g:List Int):Prop:=Euc B a b g∨(b=[]∧a.length=1∧g=[1])∨a.length<b.length∧Euc B b a g∧∀n∈a,nl n.natAbs<=B
def Trc.done(h:Trc B a [] g)(c:aN a):cE a=cE g:=by
 rcases h with h|⟨-,h,rfl⟩|⟨h, -⟩
 ·cases h with
  |done=>rfl
  |one b=>cases b
  |step b=>simp at b
 ·exact XM h c
 ·simp at h
def uE(h:ComDen A D K)(t:aN A):Prp A (cC A D):=by
 have b:=gJ (show D≠0 by have:=h.pos;omega);refine⟨(oN A D).symm,oO h.pos h.dvd t,1/(D:Rat),fun e=> ?_,fun i=> ?_⟩
 ·have a:1/(D:Rat)*D=1:=gW b;rw[e,aqQ] at a;exact absurd a (by decide)
 ·rw[JC A D h.dvd];grind
end Go.Proofs.YtjgbleapffgbcaaGreatDoor
namespace Go.Proofs.YtjgbleapffgbcaaGreatDoor
open Go.RowKit Sos
variable{w w':World}{B i n:Nat}{e:TypeId}{u v:Value}{E b c d g t:List Value}{A:Option Addr}{l:List (List UInt8)}
def uH(u:Value):Prop:=∃A n c,u= .slice A n c
def PRow(w:World)(B:Nat)(e:TypeId)(v:Value)(b:List Value):Prop:=
 (v= .slice none 0 0∧b=[])∨∃g c d,v= .slice (some ⟨g,0,none⟩) b.length c∧B<=g∧w.heap[g]? =some (.cells d e (0,0))∧b.length<=c∧c<=maxLen∧d.size=c∧d.toList.take b.length=b∧∀u∈d.toList,uH u
def PRow.nil(w:World)(B:Nat)(e:TypeId):PRow w B e (.slice none 0 0) []:= .inl ⟨rfl,rfl⟩
def PRow.be(h:PRow w B e v c)(j:Below w.1.size w w'):PRow w' B e v c:=by
 rcases h with h|⟨g,d,f,hv,i,b,h⟩
 ·exact .inl h
 ·exact .inr ⟨g,d,f,hv,i,(j.block g (Array.getElem?_eq_some_iff.1 b).1).trans b,h⟩
def PRow.ge(h:PRow w B e v c):∀g,v.ownBlock=some g->B<=g:=fun g b=>by
 rcases h with ⟨rfl,_⟩|⟨g',d,cur,rfl,f,_⟩
 ·simp[Value.ownBlock] at b
 ·simp[Value.ownBlock] at b;omega
def PRow.form(h:PRow w B e v b):∃A c,v= .slice A b.length c∧b.length<=c:=by
 rcases h with ⟨rfl,rfl⟩|⟨i,f,g,rfl,j,_,d,_⟩
 ·exact⟨none,0,rfl,aE⟩
 ·exact⟨_,_,rfl,d⟩
def PRow.at_{l c:Nat}(h:PRow w B e (.slice A l c) g)(hi:g[i]? =some u):∃b,A=some ⟨b,0,none⟩∧b<w.1.size∧w.cell? ⟨b,i,none⟩=some u:=by
 rcases h with ⟨_,rfl⟩|⟨d,m,j,hv,n,f,p,q,r,k,hn⟩
 ·simp at hi
 ·simp only[Value.slice.injEq] at hv;refine⟨d,hv.1,(Array.getElem?_eq_some_iff.1 f).1,?_⟩;rw[cell_of_row w d i j e (0,0) f,<-Array.getElem?_toList];rw[<-k,fC] at hi;split at hi
  ·exact hi
  ·cases hi
def Y1{g:Nat}{cur cs:Array Value}(t:w.heap[g]? =some (.cells cur e (0,0)))(hn:∀u∈cur.toList,uH u)(h:NatAt w u n):NatAt (w.setRow g cs) u n:=by
 obtain⟨A,c,hv,r,d,y⟩:=h;have k:(w.setRow g cs).1.size=w.1.size:=by simp[World.setRow]
 refine⟨A,c,hv,r,?_,y.mono (by rw[k];exact aE)⟩;rcases d with d|⟨b,m,rfl,x,j⟩
 ·exact .inl d
 ·by_cases l:dg n=[]
  ·exact .inl l
  ·have q:b≠g:=fun p=>by
    subst p;have f:=j 0 (List.length_pos_iff.2 l);rw[cell_of_row w b (m+0) cur e (0,0) t,<-Array.getElem?_toList] at f;obtain⟨z,C,B,s⟩:=hn _ (dG f);cases s
   refine .inr ⟨b,m,rfl,by rw[k];exact x,fun i v=> ?_⟩;exact(World.cell?_of_block (setRow_other w g b cs q)).trans (j i v)
section
variable {P:Program}{ops:Array Oper}{rest:List Oper}{o:Oper}{a:Act}{Q:Exit->Act->World->Prop}{w:World}
def K4(ae:o.guard=none){s x:Operand}{t:TypeId}(ho:o.op= .call { callee:= .builtin .append,args:= #[s,x],argTypes:= #[t,t] })
  (e:TypeId)(bytes:Nat)(L:P.underlying t=some (.slice e))(hi:(P.info? e).map (fun i=>(i.zero,i.size,i.bytes))=some (some (.slice none 0 0),1,bytes))
  (B:Nat)(v:Value)(d:List Value)(hs:a.eval s=v)(ah:PRow w B e v d)(b:Nat)(u:Value)(O:a.eval x= .slice (some ⟨b,0,none⟩) 1 1)(hc:w.cell? ⟨b,0,none⟩=some u)(N:uH u)
  (U:(d.length+1)*bytes<=140737488355328)(S:d.length+1<=maxLen)(hB:B<=w.1.size)
  (h:∀p w',PRow w' B e p (d++[u])->Keep w w'->w.grownBy w' v.ownBlock->wpList P ops Q rest (a.put o.dst p) w'):
  wpList P ops Q (o :: rest) a w:=by
 obtain⟨i,H,hz,r,T⟩:=info_parts hi;have an:d.length+1<=9223372036854775807:=by simp only[maxLen] at S;omega
 have ag:u.oneCell'=true:=by obtain⟨A,n,c,rfl⟩:=N;rfl
 have J:∀j y,[u][j]? =some y->w.cell? ((⟨b,0,none⟩:Addr).add j)=some y:=fun j y m=>by
  match j,m with
  |0,m=>simp at m;subst m;simpa [Addr.add] using hc
 have R:∀(l F:Nat),l=grownCap w (d.length+1) F e->d.length+1<=l->l<=maxLen->∀ac,(∀y∈d,uH y)->
   PRow (w.drew.alloc (.cells (d.toArray++[u].toArray++Builtin.zeroCells (Value.slice none 0 0).cells (l-(d.length+1))) e)) B e (.slice (some ⟨w.1.size,0,none⟩) (d.length+1) l) (d++[u])∧
   Keep w (w.drew.alloc (.cells (d.toArray++[u].toArray++Builtin.zeroCells (Value.slice none 0 0).cells (l-(d.length+1))) e))∧
   w.grownBy (w.drew.alloc (.cells (d.toArray++[u].toArray++Builtin.zeroCells (Value.slice none 0 0).cells (l-(d.length+1))) e)) ac:=by
  intro l F _ C G ac hv;have al:(Builtin.zeroCells (Value.slice none 0 0).cells (l-(d.length+1))).size=l-(d.length+1):=by rw[size_zeroCells];simp[Value.cells]
  refine⟨.inr ⟨w.1.size,l,_,by rw[dA];rfl,hB,heap_alloc_new w.drew _,by rw[dA];exact C,G,?_,?_,?_⟩,Keep.be ((aG w.1.size w).drew.alloc aE _),⟨rfl,rfl,rfl,by simp,fun k I _=>heap_alloc_old w.drew _ I⟩⟩
  ·rw[Array.size_append,Array.size_append,al];simp;omega
  ·rw[bx5,bx5];exact List.take_left
  ·intro y f;rw[bx5,bx5] at f;rcases List.mem_append.1 f with f|f
   ·rcases List.mem_append.1 f with f|f
    ·exact hv y f
    ·have ak:y=u:=by simpa using f
     rw[ak];exact N
   ·have Z:y∈Builtin.zeroCells #[Value.slice none 0 0] (l-(d.length+1)):=Array.mem_toList_iff.1 f;unfold Builtin.zeroCells at Z;obtain⟨j,_,rfl⟩:=Array.mem_map.1 Z;simp only[bzA,eG,azS,bA,Nat.mod_one];exact⟨none,0,0,rfl⟩
 have am:∃p w',(Builtin.append_ #[t,t] o.type #[v,.slice (some ⟨b,0,none⟩) 1 1]).run P w= .ok p w'∧PRow w' B e p (d++[u])∧Keep w w'∧w.grownBy w' v.ownBlock:=by
  have W:=grownCap_ge w (d.length+1);have V:=fun F=>grownCap_le_maxLen w (d.length+1) F e S;rcases ah with ⟨rfl,rfl⟩|⟨g,l,z,rfl,ad,D,hl,hm,ao,M,hn⟩
  ·have q:=run_append_nil (P:=P) w t o.type e i (.slice none 0 0) L H hz ⟨b,0,none⟩ 1 1 [u] (by rw[r];rfl) J (by omega) (by omega) (by rw[T];simp at U;omega);have E:=R _ 0 rfl (W 0 e) (V 0) (Value.ownBlock (.slice none 0 0)) (fun y f=>by cases f);simp only[azS,bA,iM,Array.empty_append] at E⊢;exact⟨_,_,q,E⟩
  ·have Y:∀y∈d,uH y:=fun y f=>hn y (by rw[<-M] at f;exact lH f);by_cases X:d.length+1<=l
   ·have q:=run_append_room (P:=P) w t o.type e i L H g d.length l z D ⟨b,0,none⟩ 1 1 [u] (by rw[r];rfl) J (fun y f=>by rw[List.mem_singleton.1 f];exact ag) X (by rw[r];simp;omega);rw[r,az9,M] at q;refine⟨_,_,q,.inr ⟨g,l,_,by rw[dA];rfl,ad,setRow_heap w g z _ e _ D,by rw[dA];exact X,hm,?_,?_,?_⟩,fun x n O=>Y1 D hn O,⟨rfl,rfl,rfl,by simp[World.setRow],fun k _ I=>setRow_other w g k _ (fun e=>I (by simp[Value.ownBlock,e]))⟩⟩
    ·simp[eP];omega
    ·exact List.take_left
    ·intro y f;have aj:y∈d++[u]++z.toList.drop (d.length+[u].length):=f;rcases List.mem_append.1 aj with f|f
     ·rcases List.mem_append.1 f with f|f
      ·exact Y y f
      ·rw[List.mem_singleton.1 f];exact N
     ·exact hn y (bxD f)
   ·have af:∀j y,d[j]? =some y->w.cell? ((⟨g,0,none⟩:Addr).add j)=some y:=fun j y m=>by
     have C:w.cell? ⟨g,j,none⟩=some y:=by
      rw[cell_of_row w g j z e (0,0) D,<-Array.getElem?_toList];rw[<-M,fC] at m;split at m
      ·exact m
      ·cases m
     unfold Addr.add;split
     ·rename_i h0;subst h0;simpa using C
     ·simpa using C
    have q:=run_append_grow (P:=P) w t o.type e i (.slice none 0 0) L H hz ⟨g,0,none⟩ d.length l d (by rw[r,az9]) af ⟨b,0,none⟩ 1 1 [u] (by rw[r];rfl) J (by omega) (by omega) (growslice_fits (by omega) (by rw[T];exact U));have E:=R _ l rfl (W l e) (V l) (Value.ownBlock (.slice (some ⟨g,0,none⟩) d.length l)) Y;exact⟨_,_,q,E⟩
 obtain⟨p,w',ai,G,h3,h4⟩:=am;refine wpList_plain ae fun K hK=> ?_;unfold Oper.wp execOp;simp only[ho,resolve,invoke,builtin,Sem.run_bind,Sem.run_pure,Result.andThen_ok,bxC,fM,aqJ,hs,O,ai];exact hK _ _ (h p w' G h3 h4)
end
def RowsAt{α:Type}(E:World->Value->α->Prop)(w:World)(B:Nat)(e:TypeId)(v:Value)(c:List α):Prop:=
 ∃b,PRow w B e v b∧b.length=c.length∧∀(i:Nat) (u:Value) (l:α),b[i]? =some u->c[i]? =some l->E w u l
def RowsAt.nil{α:Type}(E:World->Value->α->Prop)(w:World)(B:Nat)(e:TypeId):RowsAt E w B e (.slice none 0 0) []:=⟨[],PRow.nil _ _ _,rfl,fun i u l h=>by simp at h⟩
def RowsAt.form{α:Type}{E:World->Value->α->Prop}{b:List α}(h:RowsAt E w B e v b):∃A c,v= .slice A b.length c∧b.length<=c:=by
 obtain⟨g,d,f,_⟩:=h;rw[<-f];exact d.form
def RowsAt.at_{α:Type}{E:World->Value->α->Prop}{c:Nat}{f:List α}(h:RowsAt E w B e (.slice A n c) f){l:α}(hi:f[i]? =some l):∃b u,A=some ⟨b,0,none⟩∧b<w.1.size∧w.cell? ⟨b,i,none⟩=some u∧E w u l:=by
 obtain⟨r,g,j,k⟩:=h;have d:i<r.length:=by rw[j];exact(List.getElem?_eq_some_iff.1 hi).1
 obtain⟨b,m,p,q⟩:=g.at_ (aR d);exact⟨b,_,m,p,q,k i _ l (aR d) hi⟩
abbrev WsAt:=RowsAt WholeAt
abbrev TsAt:=RowsAt StrsAt
def WsAt.be{c:List (List Int)}(h:WsAt w B 64 v c)(b:Below w.1.size w w'):WsAt w' B 64 v c:=by
 obtain⟨k,d,e,f⟩:=h;exact⟨k,d.be b,e,fun i u l j g=>(f i u l j g).be b⟩
def TsAt.be{c:List (List (List UInt8))}(h:TsAt w B 22 v c)(b:Below w.1.size w w'):TsAt w' B 22 v c:=by
 obtain⟨k,d,e,f⟩:=h;exact⟨k,d.be b,e,fun i u l j g=>(f i u l j g).be b⟩
def WholeAt.grown{l:List Int}(h:WholeAt w u l)(s:PRow w B 64 v t)(r:Keep w w')(n:w.grownBy w' v.ownBlock):WholeAt w' u l:=by
 obtain⟨A,c,e,m,h⟩:=h;refine⟨A,c,e,m,?_⟩;rcases h with h|⟨b,j,k,f,q⟩
 ·exact .inl h
 ·refine .inr ⟨b,j,k,⟨(n.block b f.lt (fun i=> ?_)).trans f.1,f.2⟩,q.ke r⟩;rcases s with ⟨rfl,_⟩|⟨g,x,y,rfl,_,p,_⟩
  ·simp[Value.ownBlock] at i
  ·simp[Value.ownBlock] at i;subst i;have d:w.heap[b]? =some (.cells j.flatten.toArray 60 (0,0)):=f.1;rw[p] at d;injection d with d;injection d with _ d;exact absurd d (by decide)
def StrsAt.grown(h:StrsAt w u l)(D:PRow w B e v E)(j:w.grownBy w' v.ownBlock):StrsAt w' u l:=by
 obtain⟨A,c,r,x,h⟩:=h;refine⟨A,c,r,x,?_⟩;rcases h with h|⟨b,p,s,m,k⟩
 ·exact .inl h
 ·by_cases C:l=[]
  ·exact .inl C
  ·refine .inr ⟨b,p,s,aZ m j.size,fun i t n=>(World.cell?_of_block (j.block b m (fun d=> ?_))).trans (k i t n)⟩;rcases D with ⟨rfl,_⟩|⟨g,H,q,rfl,_,z,_,_,_,_,hn⟩
   ·simp[Value.ownBlock] at d
   ·simp[Value.ownBlock] at d;subst d;have f:=k i t n;rw[cell_of_row w b (p+i) q e (0,0) z,<-Array.getElem?_toList] at f;obtain⟨F,I,G,y⟩:=hn _ (dG f);cases y
def WsAt.push{m:Value}{f:List (List Int)}{l:List Int}(g:PRow w B 64 v d)(h:d.length=f.length)(p:∀(i:Nat) (u:Value) (l:List Int),d[i]? =some u->f[i]? =some l->WholeAt w u l)(r:WholeAt w u l)
  (q:PRow w' B 64 m (d++[u]))(k:Keep w w')(j:w.grownBy w' v.ownBlock):WsAt w' B 64 m (f++[l]):=by
 refine⟨_,q,by rw[dA,dA,h];rfl,fun i x y b c=> ?_⟩;rcases dE i d.length with e|e
 ·rw[gA e] at b;rw[gA (by omega)] at c;exact(p i x y b c).grown g k j
 ·rw[fK e] at b;rw[fK (by omega),<-h] at c;have n:i-d.length=0:=by
   have:=(List.getElem?_eq_some_iff.1 b).1;simp at this;omega
  rw[n] at b c;simp at b c;subst b;subst c;exact r.grown g k j
def TsAt.push{k:Value}{f:List (List (List UInt8))}(g:PRow w B 22 v d)(h:d.length=f.length)(n:∀(i:Nat) (u:Value) (l:List (List UInt8)),d[i]? =some u->f[i]? =some l->StrsAt w u l)(q:StrsAt w u l)
  (p:PRow w' B 22 k (d++[u]))(j:w.grownBy w' v.ownBlock):TsAt w' B 22 k (f++[l]):=by
 refine⟨_,p,by rw[dA,dA,h];rfl,fun i x y b c=> ?_⟩;rcases dE i d.length with e|e
 ·rw[gA e] at b;rw[gA (by omega)] at c;exact(n i x y b c).grown g j
 ·rw[fK e] at b;rw[fK (by omega),<-h] at c;have m:i-d.length=0:=by
   have:=(List.getElem?_eq_some_iff.1 b).1;simp at this;omega
  rw[m] at b c;simp at b c;subst b;subst c;exact q.grown g j
def K5{a:World}(h:Below B a w)(b:w.grownBy w' v.ownBlock)(f:PRow w B e v g)(d:B<=a.1.size):Below B a w':=
 ⟨b.os.trans h.os,b.tape.trans h.tape,b.output.trans h.output,aH h.size b.size,fun k c=>(b.block k (aZ c (aH d h.size)) (fun e=>by have:=f.ge k e.symm;omega)).trans (h.block k c)⟩
def Y3:(Tryz.prog.info? 64).map (fun i=>(i.zero,i.size,i.bytes))=some (some (.slice none 0 0),1,24):=by kernel_rfl
section
variable {P:Program}{ops:Array Oper}{rest:List Oper}{o:Oper}{a:Act}{Q:Exit->Act->World->Prop}{w:World}
end
def uG(xs ys:List Int)(y:Int):List Int:=(List.range (max xs.length ys.length)).map (fun i=>cf xs i+cf ys i*y)
