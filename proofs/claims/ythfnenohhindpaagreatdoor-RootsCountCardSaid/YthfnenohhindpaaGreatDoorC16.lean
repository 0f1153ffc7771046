/-
  Contracts, laws: DivU.
-/
import Derived.Test.YthfnenohhindpaaGreatDoorC14
import Derived.Deep.LoopGhost
set_option linter.all false
set_option maxHeartbeats 8000000
set_option maxRecDepth 100000
namespace Go.Proofs.YthfnenohhindpaaGreatDoor
open Go.RowKit Sos
theorem Cells.nil_ {k:IntKind} {w:World} {g off:Nat}:Cells k w g off []:=fun i hi=>by simp at hi
theorem D0 (a:Addr) (n:Nat):(a.add n).block=a.block:=by unfold Addr.add;split<;>rfl
theorem wP (x n:Nat) (a:Value) (w:World) (l:NatAt w a x) (j:nl x<=aI) (hn:n<=aI):
  Calls Tryz.prog 237 #[a,.int .i64 n] w (gS w [a] (x%BN^n)):=by
 unfold aI at j hn;obtain⟨A,c,rfl,p,g,k⟩:=l;obtain⟨m,q,r,s,f,i⟩:∃m:Nat,m<=n∧m<=nl x∧min (n:Int) (nl x:Int)=(m:Int)∧m<=c∧Hid (m=min n (nl x)):=⟨min n (nl x),by omega,by omega,by omega,by omega,rfl⟩;have d:((dg x).take m).length=m:=by rw[aZ,aJ];omega
 have b:=aB d;clear d;go_enter Tryz.func237,Tryz.ntmps237;go_wp2_with fail;refine(eM A ((dg x).take m) m c w b.out (g.take m) f (by omega)).mono ?_;rintro e t ⟨rfl,rfl⟩;go_wp2;go_ret;refine⟨_,rfl,?_,(From.mem (List.mem_singleton.2 rfl)).same,aH _ _⟩;have e:x%BN^n=x%BN^m:=by
  have o:=i.out;rcases Nat.le_total n (nl x) with h|h
  ·rw[show m=n by omega]
  ·rw[show m=nl x by omega,Nat.mod_eq_of_lt (cJ x),Nat.mod_eq_of_lt (aU (cJ x) (cE (by decide) h))]
 rw[e];exact NatAt.trim (g.take m) ((bV x).take m) (nN x m) (by rw[b.out];exact f) k
theorem tC (x n:Nat) (k:Value) (w:World) (B:NatAt w k x) (u:nl x<=aI) (hn:n<=aI):
  Calls Tryz.prog 238 #[k,.int .i64 n] w (gS w [k] (x/BN^n)):=by
 unfold aI at u hn;obtain⟨A,c,rfl,D,l,z⟩:=B;by_cases y:nl x<=n
 ·have m:x/BN^n=0:=Nat.div_eq_of_lt (aU (cJ x) (cE (by decide) y));rw[m];clear m;have v:min (n:Int) (nl x:Int)=(nl x:Int):=by omega
  have p:∀(f:Option Addr) (j:Nat),Old w f->NatAt w (.slice f 0 j) 0:=fun f j h=>⟨f,j,by rw[dC],by rw[dC];exact Nat.zero_le _,by rw[qA];exact Rd.nil,h⟩;have i:=aB p;clear p;cases A with
  |none=>
   have C:nl x<=0:=by
    rcases Nat.eq_zero_or_pos (nl x) with h|h
    ·omega
    ·obtain⟨_,_,e,_⟩:=l.at_ h;cases e
   go_enter Tryz.func238,Tryz.ntmps238;go_wp2;all_goals go_ret
   all_goals exact⟨_,rfl,by first|exact i.out _ _ Old.none|(rw[Nat.sub_self];exact i.out _ _ Old.none),by first|exact From.none|(simp;exact From.none),aH _ _⟩
  |some q=>
   obtain⟨b,o,s⟩:=q;have d:b<w.heap.size:=z _ rfl;by_cases E:c<=nl x
   ·obtain rfl:c=nl x:=by omega
    go_enter Tryz.func238,Tryz.ntmps238;go_wp2;go_ret;exact⟨_,rfl,i.out _ _ (Old.mk d),(From.mem (List.mem_singleton.2 rfl)).same,aH _ _⟩
   ·have F:¬c=nl x:=by omega
    go_enter Tryz.func238,Tryz.ntmps238;go_wp2;go_ret;refine⟨_,rfl,i.out _ _ (fun a e=> ?_),fun g t G=>⟨_,List.mem_singleton.2 rfl,?_⟩,aH _ _⟩
    ·injection e with e;subst e;rw[D0];exact d
    ·have:(some ((⟨b,o,s⟩:Addr).add (nl x)).block)=some g:=t;rw[D0] at this;exact this
 ·obtain⟨b,o,rfl,d,r⟩:=l.at_ (by rw[aJ];omega);have v:min (n:Int) (nl x:Int)=(n:Int):=by omega
  have H:¬c=n:=by omega
  have I:n<=nl x:=by omega
  go_enter Tryz.func238,Tryz.ntmps238;go_wp2;go_ret;exact⟨_,rfl,⟨_,_,by rw[iQ];rfl,by rw[iQ];omega,by rw[<-oR];exact Rd.mk d (r.drop n),Old.mk d⟩,(From.mem (List.mem_singleton.2 rfl)).shift,aH _ _⟩
theorem NE {lo hi n m:Nat} (f:nl lo<=n) (j:n+nl hi<=m):
  let zs:=cK (List.replicate m 0) (dg lo)
  let us:=cK (zs.drop n) (dg hi)
  us.length=m-n∧InR aA us∧InR aA zs∧zs.length=m∧aF aA (patch zs us n)=lo+aA^n*hi:=by
 intro zs us;have e:zs=dg lo++List.replicate (m-nl lo) 0:=wF m (dg lo) (by rw[aJ];omega);have a:zs.drop n=List.replicate (m-n) 0:=by
  rw[e,List.drop_append,List.drop_of_length_le (by rw[aJ];exact f),aJ,List.nil_append,List.drop_replicate];congr 1;omega
 have c:zs.length=m:=by show(cK _ _).length=m;rw[j5,cN]
 have d:us.length=m-n:=by show(cK _ _).length=_;rw[j5,List.length_drop,c]
 have b:InR aA zs:=(bV lo).take _ |>.append ((InR.replicate aP _).drop _);have g:InR aA us:=((bV hi).take _).append ((b.drop _).drop _);refine⟨d,g,b,c,?_⟩;have h:aF aA zs=lo:=by show aF aA (cK _ _)=_;rw[jP _ _ (by rw[aJ];omega),cB]
 have i:aF aA us=hi:=by
  show aF aA (cK (zs.drop n) (dg hi))=_
  rw[a,jP _ _ (by rw[aJ];omega),cB]
 rw[oS (by omega),d,a,h,i,cA (by simp),jN];simp
theorem qL (hi lo n:Nat) (S vl:Value) (w:World) (V:NatAt w S hi) (X:NatAt w vl lo) (Z:nl lo<=n) (Y:nl hi+n<=aI):
  Calls Tryz.prog 240 #[S,vl,.int .i64 n] w (gS w [] (lo+BN^n*hi)):=by
 unfold aI at Y;obtain⟨A,c,rfl,hc,v,ai⟩:=V;obtain⟨B,d,rfl,hd,P,aj⟩:=X;obtain⟨m,ag,ah,HM⟩:∃m,n+nl hi<=m∧m<=n+nl hi∧Hid (m=n+nl hi):=⟨_,aE,aE,rfl⟩;have i1:n<=m:=by omega
 by_cases O:m=n
 ·have h0:nl hi<=0:=by omega
  have U:=aB (mQ (show nl hi=0 by omega));subst O;go_enter Tryz.func240,Tryz.ntmps240
  go_wp2_with (first
   |(at_make;refine iE rfl rfl .u64 181 8 Tryz.underlying57 fO m rfl rfl (by omega) (by omega) (by omega) (by omega) ?_;intro w1 af t r j)
   |(with_reducible refine jM rfl (d:= .tmp 13) (s:= .tmp 14) rfl .u64 181 Tryz.underlying57 j9 rfl rfl w.heap.size 0 (List.replicate m 0) (dg lo) (by simp) rfl (fun _=>rfl) r t (P.below j) ?_;intro T l a)
   |(with_reducible refine jM rfl (d:= .tmp 18) (s:= .tmp 19) rfl .u64 181 Tryz.underlying57 j9 rfl rfl w.heap.size 0 [] (dg hi) rfl rfl (fun h=>absurd h (by simp)) Cells.nil_ (a.soft t) (a.rd (v.below j) (fun b o e h=>v.lt_of e h)) ?_;intro g u f))
  rw[cN] at a;have ad:=a.grown.size;have ae:=f.grown.size;have y:Below w.heap.size w g:=f.belowOf (a.belowOf j aE) aE;have p:w.heap.size<g.heap.size:=by omega
  have I:Cells .u64 g w.heap.size 0 (cK (List.replicate m 0) (dg lo)):=fun i hi=>(f.rest _ (.inr (by simp))).trans (l i hi);have Q:aF aA (cK (List.replicate m 0) (dg lo))=lo:=by rw[jP _ _ (by rw[aJ];omega),cB]
  have W:InR aA (cK (List.replicate m 0) (dg lo)):=qE (InR.replicate aP _) (bV _);have N:(cK (List.replicate m 0) (dg lo)).length=m:=by rw[j5,cN]
  generalize cK (List.replicate m 0) (dg lo)=zs at *;have x:=aB Q;have q:=aB N;clear Q N l r u;refine(eM _ zs m m g q.out (Rd.mk p I) aE (by omega)).mono ?_;rintro e w4 ⟨rfl,rfl⟩;go_wp2;go_ret;exact⟨_,rfl,NatAt.trim (Rd.mk p I) W (by rw[x.out,U.out];simp) (by rw[q.out];exact aE) (Old.mk p),From.new aE,y⟩
 ·have i2:¬m=n:=O;go_enter Tryz.func240,Tryz.ntmps240
  go_wp2_with (first
   |(at_make;refine iE rfl rfl .u64 181 8 Tryz.underlying57 fO m rfl rfl (by omega) (by omega) (by omega) (by omega) ?_;intro w1 af t r j)
   |(with_reducible refine jM rfl (d:= .tmp 13) (s:= .tmp 14) rfl .u64 181 Tryz.underlying57 j9 rfl rfl w.heap.size 0 (List.replicate m 0) (dg lo) (by simp) rfl (fun _=>rfl) r t (P.below j) ?_;intro T l a;generalize R:cK (List.replicate m 0) (dg lo)=zs at l;have z:=aB R;clear R;have J:Cells .u64 T w.heap.size n (zs.drop n):=(by have:=l.drop n;rwa [aS] at this))
   |(with_reducible refine jM rfl (d:= .tmp 18) (s:= .tmp 19) rfl .u64 181 Tryz.underlying57 j9 rfl rfl w.heap.size n (zs.drop n) (dg hi) (by rw[<-z.out,List.length_drop,j5,cN]) rfl (fun _=>rfl) J (a.soft t) (a.rd (v.below j) (fun b o e h=>v.lt_of e h)) ?_;intro g u f))
  have M:=NE (lo:=lo) (hi:=hi) (n:=n) (m:=m) Z (by omega);rw[z.out] at M;obtain⟨C,D,E,F,G⟩:=M;have L:(zs.drop n).length=m-n:=by rw[List.length_drop,F]
  rw[L] at f;rw[cN] at a;have K:=f.patch l C u (by omega);have ab:=iG (zs:=zs) (ts:=cK (zs.drop n) (dg hi)) (k:=n) (by omega);have ac:=nQ E D n;generalize patch zs (cK (zs.drop n) (dg hi)) n=H at *;have ad:=a.grown.size;have ae:=f.grown.size;have y:Below w.heap.size w g:=f.belowOf (a.belowOf j aE) aE;have p:w.heap.size<g.heap.size:=by omega
  have x:=aB G;have q:Hid (H.length=m):=by unfold Hid;omega
  clear C D E F G L ab u J l r;refine(eM _ H m m g q.out (Rd.mk p K) aE (by omega)).mono ?_;rintro e w4 ⟨rfl,rfl⟩;go_wp2;go_ret;exact⟨_,rfl,NatAt.trim (Rd.mk p K) ac (by rw[x.out,<-gK];simp) (by rw[q.out];exact aE) (Old.mk p),From.new aE,y⟩
