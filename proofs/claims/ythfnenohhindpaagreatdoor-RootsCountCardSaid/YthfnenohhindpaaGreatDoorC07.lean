/-
  Contracts, laws: NatAt, WordsC, WordsD.
-/
import Derived.Test.YthfnenohhindpaaGreatDoorC04
import Derived.Test.YthfnenohhindpaaGreatDoorC06
set_option linter.all false
set_option maxHeartbeats 8000000
set_option maxRecDepth 100000
namespace Go.Proofs.YthfnenohhindpaaGreatDoor
open Go.RowKit Sos
def BN:Nat:=18446744073709551616
theorem iO:(BN:Int)=aA:=rfl
theorem l8:2<=BN:=by decide
def dg (n:Nat):List Int:=gZ BN n
def nl (n:Nat):Nat:=(dg n).length
theorem aJ (n:Nat):(dg n).length=nl n:=rfl
theorem cB (n:Nat):aF aA (dg n)=n:=by rw[<-iO];exact vZ BN n l8
theorem sH (n:Nat):Canon aA (dg n):=by rw[<-iO];exact C7 BN n l8
theorem bV (n:Nat):InR aA (dg n):=(sH n).1
theorem BU {zs:List Int} (h:Canon aA zs):dg (aF aA zs).toNat=zs:=by
 unfold dg;rw[<-iO] at h⊢;exact KY l8 h
theorem qA:dg 0=[]:=C0 BN
theorem dC:nl 0=0:=by unfold nl;rw[qA];rfl
theorem lT {zs:List Int} (h:InR aA zs) {n:Nat} (hv:aF aA zs=n):trimL zs=dg n:=by
 rw[<-BU (KT h),KQ,hv,Int.toNat_natCast]
theorem sI {zs:List Int} (h:Canon aA zs) {n:Nat} (hv:aF aA zs=n):zs=dg n:=by
 rw[<-BU h,hv,Int.toNat_natCast]
theorem gK (m:Nat):((BN^m:Nat):Int)=aA^m:=by rw[Int.natCast_pow,iO]
theorem cJ (n:Nat):n<BN^nl n:=by
 have h:=fZ aP (bV n);rw[cB,aJ,<-gK] at h;omega
theorem bW {n m:Nat} (h:n<BN^m):nl n<=m:=by
 rcases Nat.lt_or_ge m (nl n) with a|a
 ·have c:dg n≠[]:=by intro e;rw[<-aJ,e] at a;simp at a
  have b:=vY wA (bV n) (sH n).2 c;rw[cB,aJ,<-gK] at b;have d:BN^m<=BN^(nl n-1):=cE (by decide) (by omega);omega
 ·exact a
theorem vV {n:Nat} (h:n≠0):BN^(nl n-1)<=n:=by
 have b:dg n≠[]:=by
  intro e;have:=cB n;rw[e] at this;have c:(n:Int)=0:=this.symm;omega
 have a:=vY wA (bV n) (sH n).2 b;rw[cB,aJ,<-gK] at a;omega
theorem fI {n:Nat} (h:n≠0):0<nl n:=by
 rcases Nat.eq_zero_or_pos (nl n) with a|a
 ·have:=cJ n;rw[a] at this;simp at this;omega
 ·exact a
theorem mQ {n:Nat} (h:nl n=0):n=0:=by
 rcases Nat.eq_zero_or_pos n with a|a
 ·exact a
 ·have:=fI (n:=n) (by omega);omega
theorem bX {m n:Nat} (h:m<=n):nl m<=nl n:=bW (Nat.lt_of_le_of_lt h (cJ n))
theorem oP (m n:Nat):nl (m+n)<=max (nl m) (nl n)+1:=by
 refine bW ?_;have a:=cJ m;have b:=cJ n;have c:BN^nl m<=BN^max (nl m) (nl n):=cE (by decide) (by omega);have d:BN^nl n<=BN^max (nl m) (nl n):=cE (by decide) (by omega);rw[cU];generalize BN^max (nl m) (nl n)=p at *;have:p*2<=p*BN:=dL _ l8;omega
theorem dJ (m n:Nat):nl (m*n)<=nl m+nl n:=by
 rcases Nat.eq_zero_or_pos m with a|a
 ·subst a;rw[Nat.zero_mul,dC];omega
 ·refine bW ?_;rw[Nat.pow_add];exact Nat.mul_lt_mul'' (cJ m) (cJ n)
theorem jL {n:Nat} (a:n≠0) (h:n<BN):nl n=1:=by
 have b:=fI a;have c:=bW (n:=n) (m:=1) (by simpa using h);omega
theorem mR {n:Nat} (a:n≠0) (h:n<BN):dg n=[(n:Int)]:=by
 unfold dg;rw[gZ,dif_neg (by have:=l8;omega),Nat.mod_eq_of_lt h,Nat.div_eq_of_lt h,C0]
def NatAt (w:World) (v:Value) (n:Nat):Prop:=∃A c,v= .slice A (nl n) c∧nl n<=c∧Rd .u64 w A (dg n)∧Old w A
def From (w:World) (a:List Value) (v:Value):Prop:=∀b,v.ownBlock=some b->b<w.heap.size->∃u∈a,u.ownBlock=some b
theorem From.mem {w:World} {a:List Value} {v:Value} (h:v∈a):From w a v:=fun _ b _=>⟨v,h,b⟩
theorem From.new {w:World} {d:List Value} {g off n c:Nat} {s:Option Nat} (h:w.heap.size<=g):From w d (.slice (some ⟨g,off,s⟩) n c):=by
 intro b a e;have:g=b:=by simpa [Value.ownBlock] using a
 omega
theorem From.none {w:World} {d:List Value} {n c:Nat}:From w d (.slice none n c):=by
 intro b a;simp[Value.ownBlock] at a
theorem From.trans {w w1:World} {a us:List Value} {v:Value} (h:From w1 us v) (i:w.heap.size<=w1.heap.size) (f:∀u∈us,From w a u):From w a v:=by
 intro b c d;obtain⟨u,e,g⟩:=h b c (by omega);exact f u e b g d
theorem From.same {w:World} {e:List Value} {A:Option Addr} {n c g c':Nat} (h:From w e (.slice A n c)):From w e (.slice A g c'):=by
 intro b d f;refine h b ?_ f;cases A with
 |none=>simp[Value.ownBlock] at d
 |some a=>simpa [Value.ownBlock] using d
theorem From.shift {w:World} {a:List Value} {b off i n c g c':Nat} {s j:Option Nat} (h:From w a (.slice (some ⟨b,off,s⟩) n c)):From w a (.slice (some ⟨b,i,j⟩) g c'):=by
 intro d e f;exact h d (by simpa [Value.ownBlock] using e) f
theorem From.ne {w:World} {a:List Value} {v:Value} (h:From w a v) {g:Nat} (c:g<w.heap.size) (hn:∀u∈a,u.ownBlock≠some g):v.ownBlock≠some g:=by
 intro e;obtain⟨u,d,b⟩:=h g e c;exact hn u d b
theorem From.ne2 {w:World} {a b v:Value} (h:From w [a,b] v) {g:Nat} (f:g<w.heap.size) (d:a.ownBlock≠some g) (e:b.ownBlock≠some g):v.ownBlock≠some g:=
 h.ne f (fun u c=>by
  rcases List.mem_cons.1 c with rfl|c
  ·exact d
  ·rcases List.mem_cons.1 c with rfl|c
   ·exact e
   ·cases c)
theorem From.swap {w:World} {a b v:Value} (h:From w [a,b] v):From w [b,a] v:=by
 intro g e f;obtain⟨u,c,d⟩:=h g e f;refine⟨u,?_,d⟩;rcases List.mem_cons.1 c with rfl|c
 ·exact List.mem_cons_of_mem _ (List.mem_cons_self ..)
 ·rcases List.mem_cons.1 c with rfl|c
  ·exact List.mem_cons_self ..
  ·cases c
def gS (w:World) (a:List Value) (n:Nat) (e:Ending) (w':World):Prop:=∃v,e= .returned v∧NatAt w' v n∧From w a v∧Below w.heap.size w w'
theorem NatAt.below {w w':World} {v:Value} {n:Nat} (h:NatAt w v n) (a:Below w.heap.size w w'):NatAt w' v n:=by
 obtain⟨A,c,hv,b,e,d⟩:=h;exact⟨A,c,hv,b,e.below a,d.mono a.size⟩
theorem NatAt.drewN {w:World} {v:Value} {n:Nat} (h:NatAt w v n) (k:Nat):NatAt (w.drewN k) v n:=h
theorem NatAt.drew {w:World} {v:Value} {n:Nat} (h:NatAt w v n):NatAt w.drew v n:=h
theorem NatAt.nil (w:World):NatAt w (.slice none 0 0) 0:=⟨none,0,by rw[dC],by rw[dC];exact aE,by rw[qA];exact Rd.nil,Old.none⟩
theorem NatAt.of {w:World} {A:Option Addr} {zs:List Int} {c n:Nat} (d:Rd .u64 w A zs) (f:Canon aA zs) (hv:aF aA zs=n) (a:zs.length<=c) (b:Old w A):NatAt w (.slice A zs.length c) n:=by
 have e:=sI f hv;subst e;exact⟨A,c,rfl,a,d,b⟩
theorem NatAt.trim {w:World} {A:Option Addr} {zs:List Int} {c n:Nat} (b:Rd .u64 w A zs) (f:InR aA zs) (hv:aF aA zs=n) (g:zs.length<=c) (a:Old w A):NatAt w (.slice A (trimL zs).length c) n:=by
 have e:=lT f hv;have d:=(nM zs).1;refine⟨A,c,?_,?_,?_,a⟩
 ·rw[<-aJ,<-e]
 ·rw[<-aJ,<-e];have:=lU zs;omega
 ·rw[<-e,d];exact b.take _
theorem Only.belowOf {g off n:Nat} {c a b:World} (h:Only g off n a b) (d:Below c.heap.size c a) (e:c.heap.size<=g):Below c.heap.size c b:=
 d.trans (h.below d.size e)
theorem fO:(Tryz.prog.info? 181).map (fun i=>(i.zero,i.size,i.bytes))=some (some (.int .u64 0),1,8):=by kernel_rfl
theorem j9:(Tryz.prog.info? 181).map (·.size)=some 1:=by kernel_rfl
theorem qF (n:Nat) (hn:n<BN) (w:World):Calls Tryz.prog 139 #[.int .u64 n] w (gS w [] n):=by
 by_cases a:n=0
 ·subst a;go_enter Tryz.func139,Tryz.ntmps139;go_wp2;go_ret;exact⟨_,rfl,NatAt.nil _,From.none,aH _ _⟩
 ·have c:((n:Int)==0)=false:=by simp;omega
  go_enter Tryz.func139,Tryz.ntmps139;go_wp2;go_ret;refine⟨_,rfl,⟨_,1,by rw[jL a hn];rfl,by rw[jL a hn];exact aE,?_,Old.mk (by simp)⟩,From.new aE,(aH _ _).alloc aE _⟩;rw[mR a hn];refine Rd.mk (by simp) ?_;intro i b;obtain rfl:i=0:=by simpa using b
  simp[go_sem]
def bN (x y:Int):Int:=if x<y then -1 else if y<x then 1 else 0
theorem gT {x y:Int} (h:x<y):bN x y= -1:=by unfold bN;rw[if_pos h]
theorem jQ {x y:Int} (h:y<x):bN x y=1:=by unfold bN;rw[if_neg (by omega),if_pos h]
theorem sQ (x:Int):bN x x=0:=by unfold bN;rw[if_neg (by omega),if_neg (by omega)]
theorem iH (x y:Int):(x<y∧bN x y= -1)∨(x=y∧bN x y=0)∨(y<x∧bN x y=1):=by
 rcases Int.lt_trichotomy x y with h|h|h
 ·exact .inl ⟨h,gT h⟩
 ·subst h;exact .inr (.inl ⟨rfl,sQ x⟩)
 ·exact .inr (.inr ⟨h,jQ h⟩)
theorem CG (x y:Int) (w:World):Calls Tryz.prog 191 #[.int .i64 x,.int .i64 y] w fun e w'=>e= .returned (.int .i64 (bN x y))∧w=w':=by
 rcases iH x y with ⟨a,e⟩|⟨a,e⟩|⟨a,e⟩
 ·rw[e];clear e;go_enter Tryz.func191,Tryz.ntmps191;go_wp2;go_ret;exact⟨rfl,rfl⟩
 ·rw[e];clear e;subst a;go_enter Tryz.func191,Tryz.ntmps191;go_wp2;go_ret;exact⟨rfl,rfl⟩
 ·rw[e];clear e;have b:¬x<y:=by omega
  go_enter Tryz.func191,Tryz.ntmps191;go_wp2;go_ret;exact⟨rfl,rfl⟩
theorem LM (x y:Int) (w:World):Calls Tryz.prog 192 #[.int .u64 x,.int .u64 y] w fun e w'=>e= .returned (.int .i64 (bN x y))∧w=w':=by
 rcases iH x y with ⟨a,e⟩|⟨a,e⟩|⟨a,e⟩
 ·rw[e];clear e;go_enter Tryz.func192,Tryz.ntmps192;go_wp2;go_ret;exact⟨rfl,rfl⟩
 ·rw[e];clear e;subst a;go_enter Tryz.func192,Tryz.ntmps192;go_wp2;go_ret;exact⟨rfl,rfl⟩
 ·rw[e];clear e;have b:¬x<y:=by omega
  go_enter Tryz.func192,Tryz.ntmps192;go_wp2;go_ret;exact⟨rfl,rfl⟩
theorem CH {xs ys:List Int} {k:Nat} (e:InR aA xs) (f:InR aA ys) (h:xs.length=ys.length) (d:k<xs.length) (c:xs.drop (k+1)=ys.drop (k+1))
  (i:xs.getD k 0<ys.getD k 0):aF aA xs<aF aA ys:=by
 rw[j6 aA xs k (by omega),j6 aA ys k (by omega),j7 aA xs k d,j7 aA ys k (by omega),c];have a:=fZ aP (e.take k);have g:=eQ aP (f.take k);rw[aZ,Nat.min_eq_left (by omega)] at a
 have b:aA^k*(xs.getD k 0+aA*aF aA (ys.drop (k+1))+1)<=aA^k*(ys.getD k 0+aA*aF aA (ys.drop (k+1))):=
  eZ (by omega) (Int.le_of_lt (lF aP k))
 rw[Int.mul_add _ _ 1,Int.mul_one] at b;omega
def dK (w:World) (n:Int) (e:Ending) (w':World):Prop:=e= .returned (.int .i64 n)∧Below w.heap.size w w'
theorem kK (x y:Nat) (Q R:Value) (w:World) (hx:NatAt w Q x) (hy:NatAt w R y) (bx:nl x<=17592186044416) (bY:nl y<=17592186044416):
  Calls Tryz.prog 161 #[Q,R] w (dK w (bN x y)):=by
 obtain⟨A,c,rfl,hc,ac,_⟩:=hx;obtain⟨B,d,rfl,hd,ad,_⟩:=hy;rcases Nat.lt_trichotomy (nl x) (nl y) with D|D|D
 ·have C:(nl x:Int)<nl y:=by omega
  have G:((nl x:Int) != (nl y:Int))=true:=by simp;omega
  have X:x<y:=by
   rcases Nat.lt_or_ge x y with h|h
   ·exact h
   ·have:=bX h;omega
  go_enter Tryz.func161,Tryz.ntmps161;go_wp2_with fail;refine(CG _ _ _).mono ?_;rintro e w' ⟨rfl,rfl⟩;go_wp2;go_ret;exact⟨by rw[gT C,gT (show(x:Int)<y by omega)];rfl,aH _ _⟩
 ·have G:((nl x:Int) != (nl y:Int))=false:=by simp;omega
  have H:=bV x;have I:=bV y;have v:=cB x;have z:=cB y;have t:=aJ x;have u:=aJ y;generalize dg x=f at *;generalize dg y=g at *;generalize nl x=n at *;generalize nl y=m at *;subst D;have E:=aB v;have F:=aB z;have k:=aB t;have l:=aB u;clear v z t u;go_enter Tryz.func161,Tryz.ntmps161;go_wp2;go_loopw [5] (fun i wr=>∃q:Int, -1<=q∧q<n∧i= .int .i64 q∧Hid (f.drop (q+1).toNat=g.drop (q+1).toNat)∧Below w.heap.size w wr) (fun i _=>(intOf i+1).toNat)
  case atStart=>exact⟨(n:Int)-1,by omega,by omega,rfl,by
   have Z:=k.out;have h2:=l.out;rw[show((n:Int)-1+1).toNat=n by omega];unfold Hid;rw[List.drop_of_length_le (by omega),List.drop_of_length_le (by omega)],aH _ _⟩
  case round=>
   obtain⟨q,af,ag,rfl,s,r⟩:=hrel;by_cases Y:0<=q
   ·obtain⟨j,rfl⟩:=Int.eq_ofNat_of_zero_le Y;obtain⟨b,ah,rfl,hb,K⟩:=(ac.below r).at_ (by have:=k.out;omega);obtain⟨b',ai,rfl,ae,L⟩:=(ad.below r).at_ (by have:=l.out;omega);have Z:=K j (by have:=k.out;omega);have h2:=L j (by have:=l.out;omega);clear K L;have P:((j:Int)+1).toNat=j+1:=by omega
    rw[P] at s;have N:=fun (h:f.getD j 0<g.getD j 0)=>CH H I (by have:=k.out;have:=l.out;omega) (by have:=k.out;omega) s.out h;have O:=fun (h:g.getD j 0<f.getD j 0)=>CH I H (by have:=k.out;have:=l.out;omega) (by have:=l.out;omega) s.out.symm h;have M:f.getD j 0=g.getD j 0->f.drop j=g.drop j:=fun h=>by
     have t:j<f.length:=by have:=k.out;omega
     have u:j<g.length:=by have:=l.out;omega
     rw[List.drop_eq_getElem_cons t,List.drop_eq_getElem_cons u,s.out];rw[dF,dF,aL t,aL u] at h;simp only[Option.getD_some] at h;rw[h]
    generalize f.getD j 0=a at *;generalize g.getD j 0=p at *;have V:=aB N;have W:=aB O;have T:=aB M;clear N O M P;by_cases o:a=p
    ·have ab:(a != p)=false:=by simp[o]
     have U:=aB (T.out o);subst o;go_wp2;go_quiet (fail);go_wp2;go_roundw
     case rel=>exact⟨(j:Int)-1,by omega,by omega,rfl,by
      rw[show((j:Int)-1+1).toNat=j by omega];exact U,dH r _⟩
     case measure=>simp[intOf]
    ·have ab:(a != p)=true:=by simp[o]
     have J:bN a p=bN x y:=by
      have v:=E.out;have z:=F.out;rcases Int.lt_trichotomy a p with h|h|h
      ·have:=V.out h;rw[gT h,gT (by omega)]
      ·exact absurd h o
      ·have:=W.out h;rw[jQ h,jQ (by omega)]
     have S:=aB J;clear J o;go_wp2;go_quiet (fail);go_wp2;go_quiet ((go_at_call 192;exact BX (LM _ _ _)));go_wp2;go_ret;exact⟨by rw[<-S.out];rfl,dH (dH r _) _⟩
   ·obtain rfl:q= -1:=by omega
    go_wp2;go_ret;refine⟨?_,r⟩;have v:=E.out;have z:=F.out;have e:f=g:=by simpa using s.out
    rw[show(x:Int)=y by rw[<-v,<-z,e],sQ];rfl
 ·have C:(nl y:Int)<nl x:=by omega
  have G:((nl x:Int) != (nl y:Int))=true:=by simp;omega
  have X:y<x:=by
   rcases Nat.lt_or_ge y x with h|h
   ·exact h
   ·have:=bX h;omega
  go_enter Tryz.func161,Tryz.ntmps161;go_wp2_with fail;refine(CG _ _ _).mono ?_;rintro e w' ⟨rfl,rfl⟩;go_wp2;go_ret;exact⟨by rw[jQ C,jQ (show(y:Int)<x by omega)];rfl,aH _ _⟩
def LK (w:World) (zs:List Int) (e:Ending) (w':World):Prop:=∃v,e= .returned v∧BW .u64 w' w.heap.size v zs∧Below w.heap.size w w'
theorem Rd.src {k:IntKind} {w:World} {A:Option Addr} {zs:List Int} (h:Rd k w A zs):Src w A (zs.map (Value.int k)):=by
 rcases h with rfl|⟨b,c,rfl,_,a⟩
 ·exact .inl rfl
 ·exact .inr ⟨b,c,rfl,a.vc⟩
theorem wG (w:World) (e:TypeId) (a:Nat):(w.alloc (.cells #[] e)).ownsRow w.heap.size e a (.slice (some ⟨w.heap.size,0,none⟩) 0 0) 0 []:=
 ⟨by simp,.inr ⟨w.heap.size,0,#[],rfl,aE,heap_alloc_new w _,aE,Nat.zero_le _,by simp,by simp⟩⟩
theorem LL (A:Option Addr) (zs:List Int) (c:Nat) (w:World) (b:Rd .u64 w A zs) (n:zs.length*8<=140737488355328):
  Calls Tryz.prog 198 #[.slice A zs.length c] w (LK w zs):=by
 cases A with
 |none=>
  have d:zs=[]:=by
   rcases b with h|⟨_,_,h,_⟩
   ·exact h
   ·cases h
  subst d;have j:∀w:World,(binOp .eql 57 (.slice none 0 c) (.slice none 0 0)).run Tryz.prog w= .ok (.bool true) w:=fun w=>Lib.run_eql_slice_nil w _ 181 none 0 c 0 0 Tryz.underlying57;go_enter Tryz.func198,Tryz.ntmps198;go_wp2;go_ret;exact⟨_,rfl,⟨none,0,rfl,aE,.inl rfl⟩,aH _ _⟩
 |some a=>
  have j:∀w:World,(binOp .eql 57 (.slice (some a) zs.length c) (.slice none 0 0)).run Tryz.prog w= .ok (.bool false) w:=fun w=>Lib.run_eql_slice_nil w _ 181 (some a) zs.length c 0 0 Tryz.underlying57;go_enter Tryz.func198,Tryz.ntmps198;have k:Src (w.alloc (.cells #[] 181)) (some a) (zs.map (Value.int .u64)):=(b.below ((aH _ _).alloc aE _)).src;have i:=wG w 181 1;go_wp2_with (at_builtin;refine fE rfl rfl 181 _ 1 8 Tryz.underlying57 fO rfl (by decide) w.heap.size (.slice (some ⟨w.heap.size,0,none⟩) 0 0) 0 [] rfl i (zs.map (Value.int .u64)) rfl (by simp) k (ints_oneCell _ _) (by omega) (by omega) (by simp) ?_;intro l o g f m);go_ret;refine⟨l,rfl,KP (e:=181) (by simpa using g),?_⟩;exact((aH w.heap.size w).alloc aE _).grown f (by simp) (by simp[Value.ownBlock])
theorem jP (n:Nat) (ys:List Int) (h:ys.length<=n):aF aA (cK (List.replicate n 0) ys)=aF aA ys:=by
 unfold cK;rw[cN,cA h,List.drop_replicate,iP,jN];simp
theorem qE {xs ys:List Int} (a:InR aA xs) (b:InR aA ys):InR aA (cK xs ys):=(b.take _).append (a.drop _)
theorem CF {a b:Int} {n:Nat} (d:a<aA^n) (e:b<aA^n):a+b<aA^(n+1):=by
 rw[Int.pow_succ];have c:=lF aP n;have:aA^n*2<=aA^n*aA:=eZ (by decide) (by omega);omega
theorem oU (x y:Nat) (I J:Value) (w:World) (R:NatAt w I x) (S:NatAt w J y) (X:nl x<=17592186044415) (W:nl y<=17592186044415):
  Calls Tryz.prog 169 #[I,J] w (gS w [I,J] (x+y)):=by
 obtain⟨A,c,rfl,N,t,P⟩:=R;obtain⟨B,d,rfl,O,u,Q⟩:=S;by_cases Y:nl x<nl y
 ·by_cases D:nl x=0
  ·obtain rfl:=mQ D;rw[aS];have z:((nl 0:Nat):Int)<nl y:=by omega
   have C:(((nl 0:Nat):Int)==0)=true:=by simp[dC]
   go_enter Tryz.func169,Tryz.ntmps169;go_wp2;go_ret;exact⟨_,rfl,⟨B,d,rfl,O,u,Q⟩,From.mem (by simp),aH _ _⟩
  ·have z:((nl x:Nat):Int)<nl y:=by omega
   have C:(((nl x:Nat):Int)==0)=false:=by simp;omega
   go_enter Tryz.func169,Tryz.ntmps169
   go_wp2_with (first
    |(at_make;refine iE rfl rfl .u64 181 8 Tryz.underlying57 fO (nl y+1) rfl rfl (by omega) (by omega) (by omega) (by omega) ?_;intro U H p E k)
    |(with_reducible refine jM rfl rfl .u64 181 Tryz.underlying57 j9 rfl rfl w.heap.size 0 (List.replicate (nl y+1) 0) (dg y) (by simp) rfl (fun _=>rfl) E p (u.below k) ?_;intro r F a))
   rw[cN] at a;have l:Below w.heap.size w r:=a.belowOf k aE;refine(sM w.heap.size 0 (nl y+1) _ (nl y+1) A (nl x) (dg x) c r (by rw[j5];simp) rfl F (a.soft p) aE (by omega) (t.below l) ?hn (by omega) (qE (InR.replicate aP _) (bV y)) (bV x) ?hv).mono ?_
   case hn=>
    rintro b o rfl h;obtain⟨L,T,e,M,_⟩:=t.at_ h;injection e with e;injection e;omega
   case hv=>
    rw[jP _ _ (by rw[aJ];omega)];have i:=fZ aP (bV y);have j:=fZ aP (bV x);rw[aJ] at i j;exact CF i (Int.lt_of_lt_of_le j (sL (by decide) (by omega)))
   rintro e s ⟨rfl,K,q,G,hv,m,n⟩;rw[jP _ _ (by rw[aJ];omega),cB,cB] at hv;have v:=aB hv;have g:=aB q;clear hv q;have f:w.heap.size<s.heap.size:=aU H (aG a.grown.size n.grown.size);go_wp2_with fail;refine(eM _ K (nl y+1) (nl y+1) s g.out (Rd.mk f m) aE (by omega)).mono ?_;rintro e V ⟨rfl,rfl⟩;go_wp2;go_ret;exact⟨_,rfl,NatAt.trim (Rd.mk f m) G (by rw[v.out];omega) (by rw[g.out];exact aE) (Old.mk f),From.new aE,n.belowOf l aE⟩
 ·by_cases D:nl y=0
  ·obtain rfl:=mQ D;rw[Nat.add_zero];have z:¬((nl x:Nat):Int)<((nl 0:Nat):Int):=by omega
   have C:(((nl 0:Nat):Int)==0)=true:=by simp[dC]
   go_enter Tryz.func169,Tryz.ntmps169;go_wp2;go_ret;exact⟨_,rfl,⟨A,c,rfl,N,t,P⟩,From.mem (by simp),aH _ _⟩
  ·have z:¬((nl x:Nat):Int)<nl y:=by omega
   have C:(((nl y:Nat):Int)==0)=false:=by simp;omega
   go_enter Tryz.func169,Tryz.ntmps169
   go_wp2_with (first
    |(at_make;refine iE rfl rfl .u64 181 8 Tryz.underlying57 fO (nl x+1) rfl rfl (by omega) (by omega) (by omega) (by omega) ?_;intro U H p E k)
    |(with_reducible refine jM rfl rfl .u64 181 Tryz.underlying57 j9 rfl rfl w.heap.size 0 (List.replicate (nl x+1) 0) (dg x) (by simp) rfl (fun _=>rfl) E p (t.below k) ?_;intro r F a))
   rw[cN] at a;have l:Below w.heap.size w r:=a.belowOf k aE;refine(sM w.heap.size 0 (nl x+1) _ (nl x+1) B (nl y) (dg y) d r (by rw[j5];simp) rfl F (a.soft p) aE (by omega) (u.below l) ?hn (by omega) (qE (InR.replicate aP _) (bV x)) (bV y) ?hv).mono ?_
   case hn=>
    rintro b o rfl h;obtain⟨L,T,e,M,_⟩:=u.at_ h;injection e with e;injection e;omega
   case hv=>
    rw[jP _ _ (by rw[aJ];omega)];have i:=fZ aP (bV x);have j:=fZ aP (bV y);rw[aJ] at i j;exact CF i (Int.lt_of_lt_of_le j (sL (by decide) (by omega)))
   rintro e s ⟨rfl,K,q,G,hv,m,n⟩;rw[jP _ _ (by rw[aJ];omega),cB,cB] at hv;have v:=aB hv;have g:=aB q;clear hv q;have f:w.heap.size<s.heap.size:=aU H (aG a.grown.size n.grown.size);go_wp2_with fail;refine(eM _ K (nl x+1) (nl x+1) s g.out (Rd.mk f m) aE (by omega)).mono ?_;rintro e V ⟨rfl,rfl⟩;go_wp2;go_ret;exact⟨_,rfl,NatAt.trim (Rd.mk f m) G (by rw[v.out];omega) (by rw[g.out];exact aE) (Old.mk f),From.new aE,n.belowOf l aE⟩
theorem nU (x y:Nat) (j k:Value) (w:World) (K:NatAt w j x) (L:NatAt w k y) (R:nl x<=17592186044415) (H:y<=x):
  Calls Tryz.prog 170 #[j,k] w (gS w [j,k] (x-y)):=by
 obtain⟨A,c,rfl,F,s,J⟩:=K;obtain⟨B,d,rfl,T,t,U⟩:=L;have I:=bX H;by_cases E:nl y=0
 ·obtain rfl:=mQ E;have D:(((nl 0:Nat):Int)==0)=true:=by simp[dC]
  go_enter Tryz.func170,Tryz.ntmps170;go_wp2;go_ret;exact⟨_,rfl,⟨A,c,rfl,F,s,J⟩,From.mem (by simp),aH _ _⟩
 ·have D:(((nl y:Nat):Int)==0)=false:=by simp;omega
  go_enter Tryz.func170,Tryz.ntmps170;go_wp2_with fail;refine(LL A (dg x) c w s (by rw[aJ];omega)).mono ?_;rintro e N ⟨W,rfl,⟨P,m,rfl,a,i⟩,n⟩;rcases i with i|⟨g,rfl,q,u,G⟩
  ·have:=congrArg List.length i;rw[aJ] at this;simp at this;omega
  go_wp2_with fail;refine(CB g 0 (nl x) (dg x) m B (nl y) (dg y) d N rfl rfl G u a (by omega) (t.below n) ?hn I (bV x) (bV y) ?hv).mono ?_
  case hn=>
   rintro b o rfl h;obtain⟨Q,V,e,S,_⟩:=t.at_ h;injection e with e;injection e;omega
  case hv=>rw[cB,cB];omega
  rintro e z ⟨rfl,O,v,M,hv,p,r⟩;rw[cB,cB] at hv;have C:=aB hv;have l:=aB v;clear hv v;have f:g<z.heap.size:=aU u.lt r.grown.size;go_wp2_with fail;refine(eM _ O (nl x) m z l.out (Rd.mk f p) a (by omega)).mono ?_;rintro e X ⟨rfl,rfl⟩;go_wp2;go_ret;exact⟨_,rfl,NatAt.trim (Rd.mk f p) M (by rw[C.out];omega) (by rw[l.out];exact a) (Old.mk f),From.new q,r.belowOf n q⟩
