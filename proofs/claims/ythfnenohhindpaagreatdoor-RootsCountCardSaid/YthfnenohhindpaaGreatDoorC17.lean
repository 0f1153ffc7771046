/-
  Contracts, laws: DivV, DivW, DivX, DivY.
-/
import Derived.Test.YthfnenohhindpaaGreatDoorC16
import Derived.Deep.RegionLaw
set_option linter.all false
set_option maxHeartbeats 8000000
set_option maxRecDepth 100000
namespace Go.Proofs.YthfnenohhindpaaGreatDoor
open Go.RowKit Sos
theorem N6 (n:Nat):aF aA (List.replicate n 18446744073709551615)=aA^n-1:=by
 induction n with
 |zero=>rfl
 |succ n a=>
  rw[List.replicate_succ,val_cons,a,Int.pow_succ];have:aA=18446744073709551616:=rfl;generalize aA^n=p;rw[this];omega
theorem N7 (n:Nat):Canon aA (List.replicate n 18446744073709551615):=by
 refine⟨fun z a=> ?_,?_⟩
 ·have:=List.eq_of_mem_replicate a;subst this;exact⟨by decide,by decide⟩
 ·unfold iF;cases n with
  |zero=>simp
  |succ n=>simp[List.getLast?_replicate]
theorem N8 {n k:Nat} {v:Int} (a:k<=n):
  cK ((List.replicate k v++List.replicate (n-k) 0).drop k) (List.replicate k v)=List.replicate (min k (n-k)) v++List.replicate (n-k-k) 0:=by
 rw[List.drop_append,List.drop_of_length_le (by simp)];unfold cK;simp only[cN,List.nil_append,Nat.sub_self,List.drop_zero,List.drop_replicate];rw[List.take_replicate];congr 2;omega
theorem N9 {n k:Nat} {v:Int} (b:k<=n):
  patch (List.replicate k v++List.replicate (n-k) 0) (cK ((List.replicate k v++List.replicate (n-k) 0).drop k) (List.replicate k v)) k=
   List.replicate (k+min k (n-k)) v++List.replicate (n-(k+min k (n-k))) 0:=by
 rw[N8 b];unfold patch;have a:(List.replicate (min k (n-k)) v++List.replicate (n-k-k) 0).length=n-k:=by simp;omega
 rw[a,List.take_append_of_le_length (by simp),List.take_replicate,Nat.min_self,List.drop_of_length_le (by simp<;>omega),List.append_nil,<-List.append_assoc,List.replicate_append_replicate];congr 2<;>omega
theorem NA (x y:Nat) (b:x<18446744073709551616) (c:y<18446744073709551616) (h:x*y<18446744073709551616) (w:World):
  Calls Tryz.prog 248 #[.int .u64 x,.int .u64 y] w fun e w'=>e= .returned (.tuple #[.int .u64 0,.int .u64 ((x*y:Nat):Int)])∧w=w':=by
 refine(Tryz.bits_Mul x y b c w).mono fun e w' a=>⟨?_,a.2.symm⟩;rw[a.1,Nat.div_eq_of_lt h,Nat.mod_eq_of_lt h];rfl
theorem NB (n:Nat) (a:n<18446744073709551616) (w:World):
  Calls Tryz.prog 248 #[.int .u64 1,.int .u64 n] w fun e w'=>e= .returned (.tuple #[.int .u64 0,.int .u64 n])∧w=w':=by
 have:=NA 1 n (by omega) a (by omega) w;rw[Nat.one_mul] at this;exact this
theorem NC (v:Int) (n:Nat) (A:Option Addr) (c:Nat) (w:World) (t:1<=n) (N:n<=aI) (P:Rd .u64 w A [v]):
  Calls Tryz.prog 247 #[.slice A 1 c,.int .i64 n] w fun e w'=>∃g,e= .returned (.slice (some ⟨g,0,none⟩) n n)∧w.heap.size<=g∧g<w'.heap.size∧Cells .u64 w' g 0 (List.replicate n v)∧Below w.heap.size w w':=by
 unfold aI at N;have ad:Nat.min 1 n=1:=Nat.min_eq_left t;have ae:¬(n:Int)<0:=by omega
 have V:decide ((9223372036854775807:Int)<(n:Int))=false:=by simp;omega
 go_enter Tryz.func247,Tryz.ntmps247
 go_wp2_with (first
  |(go_at_call 248;refine(NB n (by omega) _).mono ?_;rintro e w' ⟨rfl,rfl⟩)
  |(at_make;refine iE rfl rfl .u64 181 8 Tryz.underlying57 fO n rfl rfl (by omega) (by omega) (by omega) (by omega) ?_;intro w1 T q y j)
  |(with_reducible refine jM rfl (d:= .tmp 31) (s:= .tmp 32) rfl .u64 181 Tryz.underlying57 j9 rfl rfl w.heap.size 0 (List.replicate n 0) [v] (by simp) rfl (fun _=>rfl) y q (P.below j) ?_;intro r l f))
 rw[cN] at f;have z:Cells .u64 r w.heap.size 0 (List.replicate 1 v++List.replicate (n-1) 0):=by
  have e:cK (List.replicate n (0:Int)) [v]=List.replicate 1 v++List.replicate (n-1) 0:=by
   rw[wF n _ (by simp;omega)];simp
  rw[e] at l;exact l
 have x:Below w.heap.size w r:=f.belowOf j aE;have G:=f.soft q;have F:w.heap.size<r.heap.size:=aU T f.grown.size;clear l y q j
 go_loopw [8] (fun i wr=>∃k:Nat,1<=k∧k<=n∧i= .int .i64 k∧Cells .u64 wr w.heap.size 0 (List.replicate k v++List.replicate (n-k) 0)∧Soft wr w.heap.size∧Below w.heap.size w wr∧w.heap.size<wr.heap.size)
  (fun i _=>n-(intOf i).toNat)
 case atStart=>exact⟨1,aE,t,rfl,z,G,x,F⟩
 case round=>
  clear z G x F;obtain⟨k,W,X,rfl,b,Q,u,o⟩:=hrel;by_cases Y:k<n
  ·have E:Cells .u64 wr.drew w.heap.size k ((List.replicate k (v:Int)++List.replicate (n-k) 0).drop k):=by have:=b.drop k;rwa [aS] at this
   have H:Rd .u64 wr.drew (some ⟨w.heap.size,0,none⟩) (List.replicate k v):=by
    have:=b.take k;rw[List.take_append_of_le_length (by simp),cA (by simp)] at this;exact Rd.mk o this
   have p:Soft wr.drew w.heap.size:=Q;have M:Cells .u64 wr.drew w.heap.size 0 (List.replicate k v++List.replicate (n-k) 0):=b;have D:((List.replicate k (v:Int)++List.replicate (n-k) 0).drop k).length=n-k:=by simp
   have i1:¬n=k:=by omega
   have U:k<=n:=by omega
   have h:=aB D;clear D;obtain⟨m,Z,ab,ac,J⟩:∃m:Nat,1<=m∧k+m<=n∧Nat.min k (n-k)=m∧Hid (min k (n-k)=m):=⟨min k (n-k),by omega,by omega,rfl,rfl⟩;go_wp2;go_region_law (refine KL rfl (d:= .tmp 41) (s:= .tmp 44) (dT:=57) (sT:=57) rfl .u64 181 Tryz.underlying57 j9 (dp:=some ⟨w.heap.size,k,none⟩) (dLen:=n-k) (dCap:=n-k) (sp:=some ⟨w.heap.size,0,none⟩) (sLen:=k) (sCap:=n) (by go_simp) (by go_simp) w.heap.size k _ (List.replicate k v) h.out cN (fun _=>rfl) E p H ?_;intro I B a);rw[h.out] at a;have C:=a.patch M (by rw[j5,h.out]) B (by simp);rw[N9 U,J.out] at C;have K:Below w.heap.size w I:=a.belowOf (u.drew) aE;have R:=a.soft p;have O:w.heap.size<I.heap.size:=aU o a.grown.size;clear B a E H p;go_wp2;have S:IntKind.i64.wrap ((k:Int)+(m:Int))=((k+m:Nat):Int):=by
    have:((k+m:Nat):Int)<9223372036854775808:=by omega
    simp[IntKind.wrap,IntKind.bits,IntKind.signed];omega
   simp[Act.put,S];go_roundw
   case rel=>exact⟨k+m,by omega,by omega,by simp,C,R,K,O⟩
   case measure=>simp[intOf];omega
  ·obtain rfl:k=n:=by omega
   have L:Cells .u64 wr w.heap.size 0 (List.replicate k v):=by simpa using b
   clear b;go_wp2;go_ret;exact⟨_,rfl,aE,o,L,u⟩
theorem ND (n:Nat) (A:Option Addr) (c:Nat) (w:World) (d:1<=n) (j:n<=aI) (k:Rd .u64 w A [18446744073709551615]):
  Calls Tryz.prog 247 #[.slice A 1 c,.int .i64 n] w (gS w [] (BN^n-1)):=by
 refine(NC 18446744073709551615 n A c w d j k).mono ?_;rintro e m ⟨g,rfl,i,a,h,f⟩;have l:1<=BN^n:=Nat.pow_pos (by decide);have b:=NatAt.of (n:=BN^n-1) (Rd.mk a h) (N7 n) (by rw[N6,<-gK];omega) (c:=n) (by simp) (Old.mk a);rw[cN] at b;exact⟨_,rfl,b,From.new i,f⟩
theorem CY (w:World) (n:Nat) (b:TypeId):Rd .u64 (w.alloc (.cells #[.int .u64 n] b)) (some ⟨w.heap.size,0,none⟩) [(n:Int)]:=by
 refine Rd.mk (by simp) ?_;intro i a;obtain rfl:i=0:=by simpa using a
 simp[go_sem]
theorem sY (w:World) (n:Nat) (a:n≠0) (hn:n<BN) (b:TypeId):NatAt (w.alloc (.cells #[.int .u64 n] b)) (.slice (some ⟨w.heap.size,0,none⟩) 1 1) n:=by
 refine⟨_,1,by rw[jL a hn],by rw[jL a hn];exact aE,?_,Old.mk (by simp)⟩;rw[mR a hn];exact CY w n b
theorem lZ (w:World) (o:Obj):Below w.heap.size w (w.alloc o):=(aH _ _).alloc aE _
theorem MW {P L H y x:Nat} (j:2<=P) (k:P%2=0) (m:y=P*H+L) (i:L<P) (l:P*P<=2*y) (d:x<y*P):
  P<=2*H∧x/P<y∧(x/P/P<H->x/P<H*P)∧(¬x/P/P<H->P*H<=x/P):=by
 have e:x/P<y:=Nat.div_lt_of_lt_mul (by rw[dD];exact d);have a:P<=2*H:=by
  have b:P*P<P*(2*H+2):=by
   rw[Nat.mul_add];have:P*(2*H)=2*(P*H):=by grind
   omega
  have f:=Nat.lt_of_mul_lt_mul_left b;omega
 refine⟨a,e,fun h=> ?_,fun h=> ?_⟩
 ·exact(Nat.div_lt_iff_lt_mul (by omega)).1 h
 ·have g:=Nat.div_mul_le_self (x/P) P;have c:P*H<=P*(x/P/P):=dL _ (by omega);rw[dD P (x/P/P)] at c;omega
theorem MX {P L H y x q r:Nat} (b:y=P*H+L) (a:x/P=q*H+r):x+q*L=q*y+(x%P+P*r):=by
 have h:=Nat.div_add_mod x P;have:P*(x/P)=P*(q*H+r):=by rw[a]
 subst b;grind
theorem MY {P L H y x q r:Nat} (e:y=P*H+L) (c:r<H) (b:0<P):x%P+P*r<q*L+y:=by
 have d:=Nat.mod_lt x b;have a:P*(r+1)<=P*H:=dL _ c;rw[Nat.mul_add] at a;omega
theorem MZ {P y x q r p:Nat} (c:x<y*P) (d:q=P-1) (a:0<P) (b:x+p=q*y+r):r<p+y:=by
 have:y*P=q*y+y:=by
  obtain rfl:P=q+1:=by omega
  grind
 omega
theorem N0 {x p q y r:Nat} (e:x+p=q*y+r) (c:p<=r) (d:r<p+y):x/y=q∧x%y=r-p:=by
 have a:x=q*y+(r-p):=by omega
 have b:r-p<y:=by omega
 constructor
 ·rw[a,dD,Nat.mul_add_div (by omega),Nat.div_eq_of_lt b,Nat.add_zero]
 ·rw[a,dD,Nat.mul_add_mod,Nat.mod_eq_of_lt b]
theorem N4 {x p q y r:Nat} (a:x+p=q*y+r) (b:r<p):1<=q∧x+p=(q-1)*y+(r+y):=by
 cases q with
 |zero=>simp at a;omega
 |succ q=>refine⟨by omega,?_⟩;rw[a,Nat.add_sub_cancel];grind
theorem N5 (n:Nat) (h:1<=n):BN^n%2=0:=by
 obtain⟨m,rfl⟩:∃m,n=m+1:=⟨n-1,by omega⟩;rw[cU,show BN=9223372036854775808*2 from rfl,<-Nat.mul_assoc,Nat.mul_mod_left]
theorem sZ (n:Nat) (h:1<=n):2<=BN^n:=by
 have:=cE (n:=BN) (by decide) h;have:BN^1=BN:=Nat.pow_one _;have:=l8;omega
def t8 (N:Nat):Prop:=∀(x y:Nat) (a b:Value) (w:World),nl y<N->NatAt w a x->NatAt w b y->nl y+nl y+2<=aI->BN^nl y<=2*y->x<y*BN^nl y->
 Calls Tryz.prog 239 #[a,b] w (mS w [a,b] x y)
theorem From.one {w w1:World} {b:List Value} {a v:Value} (h:From w1 [a] v) (d:w.heap.size<=w1.heap.size) (c:From w b a):From w b v:=
 h.trans d (fun u e=>by rcases List.mem_singleton.1 e with rfl;exact c)
theorem From.two {w w1:World} {d:List Value} {a b v:Value} (h:From w1 [a,b] v) (g:w.heap.size<=w1.heap.size) (e:From w d a) (f:From w d b):From w d v:=
 h.trans g (fun u c=>by
  rcases List.mem_cons.1 c with rfl|c
  ·exact e
  ·rcases List.mem_singleton.1 c with rfl;exact f)
theorem From.wk {w w1:World} {c:List Value} {v:Value} (h:From w1 [] v) (a:w.heap.size<=w1.heap.size):From w c v:=h.trans a (fun u b=>by cases b)
theorem CZ (N:Nat) (ih:t8 N) (x y a:Nat) (j Z:Value) (w:World) (hx:NatAt w j x) (hy:NatAt w Z y) (M:1<=a) (cv:a+a<=nl y) (cy:nl y<=a+a) (hN:a<N)
  (cj:nl y+nl y+2<=aI) (c1:nl x<=nl y+a) (ap:BN^nl y<=2*y) (al:x<y*BN^a):
  Calls Tryz.prog 246 #[j,Z] w (mS w [j,Z] x y):=by
 unfold aI at cj;obtain⟨B,d,rfl,hd,ao,bi⟩:=id hy;obtain⟨b,o,rfl,hb,bc⟩:=ao.at_ (by rw[aJ];omega);obtain⟨m,cw,a0⟩:∃m:Nat,2*(a:Int)=(m:Int)∧Hid (m=a+a):=⟨a+a,by omega,rfl⟩;have cx:m<=17592186044416:=by have:=a0.out;omega
 have cz:(nl y:Int)/2=(a:Int):=by omega
 have i1:¬d=a:=by omega
 have i3:a<=nl y:=by omega
 have i5:a<=d:=by omega
 have bh:((dg y).take a).length=a:=by rw[aZ,aJ];omega
 have an:Rd .u64 w (some ⟨b,o,none⟩) ((dg y).take a):=ao.take a;have bw:NatAt w (.slice (some ⟨b,o,none⟩) (trimL ((dg y).take a)).length d) (y%BN^a):=NatAt.trim an ((bV y).take _) (nN y a) (by omega) bi
 have ax:NatAt w (.slice (some ⟨b,o+a,none⟩) (nl y-a) (d-a)) (y/BN^a):=
  ⟨_,_,by rw[iQ],by rw[iQ];omega,by rw[<-oR];exact Rd.mk hb (bc.drop a),Old.mk hb⟩
 have HM:=aB (MW (x:=x) (sZ a M) (N5 a M) (Nat.div_add_mod y (BN^a)).symm (Nat.mod_lt _ (Nat.pow_pos (by decide))) (by rw[<-Nat.pow_add,show a+a=nl y by omega];exact ap) al);have HY:=aB (Nat.div_add_mod y (BN^a)).symm;have a1:=aB (Nat.mod_lt y (Nat.pow_pos (n:=a) (show 0<BN by decide)));have nH:nl (y/BN^a)<=a:=by rw[iQ];omega
 have ct:a<=nl (y/BN^a):=by rw[iQ];omega
 have nL:nl (y%BN^a)<=a:=by have:=nO y a;omega
 have nT:nl (x/BN^a)<=nl y:=by rw[iQ];omega
 have c3:nl (x/BN^m)<=nl x:=bX (Nat.div_le_self _ _);have nX:nl (x%BN^a)<=a:=by have:=nO x a;omega
 have a4:Hid (x/BN^m=x/BN^a/BN^a):=by unfold Hid;rw[Nat.div_div_eq_div_mul,<-Nat.pow_add,a0.out]
 have bx:=aB bh;have HT:=aB ap;have bz:=aB al;clear bh ap al;generalize (dg y).take a=us at *;generalize b7:y/BN^a=H at *;generalize b8:y%BN^a=L at *;clear b7 b8;have b3:From w [j,.slice (some ⟨b,o,none⟩) (nl y) d] (.slice (some ⟨b,o+a,none⟩) (nl y-a) (d-a)):=(From.mem (by simp)).shift (off:=o) (n:=nl y) (c:=d) (s:=none);have b4:From w [j,.slice (some ⟨b,o,none⟩) (nl y) d] (.slice (some ⟨b,o,none⟩) (trimL us).length d):=(From.mem (by simp)).shift (off:=o) (n:=nl y) (c:=d) (s:=none);have fx:From w [j,.slice (some ⟨b,o,none⟩) (nl y) d] j:=From.mem (by simp);have fy:From w [j,.slice (some ⟨b,o,none⟩) (nl y) d] (.slice (some ⟨b,o,none⟩) (nl y) d):=From.mem (by simp);go_enter Tryz.func246,Tryz.ntmps246;go_wp2;go_quiet ((go_at_call 172;exact sJ (eM _ us a d _ bx.out (an.drewN _) i5 (by omega))));generalize cp:Value.slice (some ⟨b,o,none⟩) (trimL us).length d=vl at *;generalize co:Value.slice (some ⟨b,o+a,none⟩) (nl y-a) (d-a)=vh at *;clear cp co;go_wp2_with fail;refine(tC x a j _ (hx.drewN _) (by unfold aI;omega) (by unfold aI;omega)).mono ?_;rintro e w1 ⟨vt,rfl,br,bg,a8⟩;have S:Below w.heap.size w w1:=(dH (aH _ _) _).trans a8;have ft:From w [j,.slice (some ⟨b,o,none⟩) (nl y) d] vt:=bg.one aE fx;clear a8 bg;generalize cq:Value.slice (some ⟨b,o,none⟩) (nl y) d=Z at *;clear cq ao bc bi an;generalize b5:[j,Z]=Fz at *;clear b5;generalize a7:x/BN^a=T at *;have b2:=aB a7;clear a7;generalize a6:x/BN^m=v at *;have b1:=aB a6;clear a6;go_wp2_with fail;refine(tC x m j _ (hx.below S) (by unfold aI;omega) (by unfold aI;omega)).mono ?_;rintro e w2 ⟨c6,rfl,av,ch,ac⟩;rw[b1.out] at av;clear ch;go_wp2_with fail;refine(kK v H _ _ _ av ((ax.below S).below ac) (by omega) (by omega)).mono ?_;rintro e l ⟨rfl,ba⟩;have af:Below w1.heap.size w1 l:=aC ac ba;have t:Below w.heap.size w l:=aC S af;have aw:=br.below af;have ae:=ax.below t;have bn:=bw.below t;have bs:=hx.below t;have bu:=hy.below t;clear av ac ba af S br ax bw hx hy;go_upto_if 32 with (fail);go_cut [10,11] (fun q r wx=>∃(i C:Nat),NatAt wx q i∧NatAt wx r C∧nl i<=a∧nl C<=a+1∧From w Fz q∧Below l.heap.size l wx∧Hid (T=i*H+C)∧Hid (i<BN^a)∧Hid (C<H∨i=BN^a-1))
 case first=>
  by_cases hc:v<H
  ·have J:bN (v:Int) (H:Int)= -1:=gT (by omega);have R:T<H*BN^a:=HM.out.2.2.1 (by rw[<-a4.out];exact hc);have O:=aB R;clear R;go_wp2_with fail;refine(ih T H _ _ _ (by omega) aw ae (by unfold aI;omega) ?_ ?_).mono ?_
   ·rw[show nl H=a by omega];exact HM.out.1
   ·rw[show nl H=a by omega];exact O.out
   rintro e w4 ⟨vq,vr,rfl,aq,ar,ai,aj,D⟩;clear J;go_wp2;go_meet
   case rel=>
    have b6:0<H:=by
     rcases Nat.eq_zero_or_pos H with h|h
     ·subst h;rw[dC] at ct;omega
     ·exact h
    have X:T/H<BN^a:=Nat.div_lt_of_lt_mul O.out;have E:=Nat.mod_lt T b6;exact⟨T/H,T%H,aq,ar,bW X,aG (bX (Nat.le_of_lt E)) (by omega),ai.two t.size ft b3,D,by unfold Hid;rw[dD,Nat.div_add_mod],X,.inl E⟩
  ·have J:bN (v:Int) (H:Int)=0∨bN (v:Int) (H:Int)=1:=by
    rcases iH (v:Int) (H:Int) with h|h|h
    ·omega
    ·exact .inl h.2
    ·exact .inr h.2
   have cd:¬bN (v:Int) (H:Int)<0:=by rcases J with h|h<;>rw[h]<;>decide
   clear J;generalize bN (v:Int) (H:Int)=cc at *;have R:BN^a*H<=T:=HM.out.2.2.2 (by rw[<-a4.out];exact hc);have O:=aB R;clear R;go_wp2_with fail;refine(ND a _ _ _ M (by unfold aI;omega) (CY l 18446744073709551615 _)).mono ?_;rintro e w5 ⟨vq,rfl,aq,ai,bb⟩;have u:=(lZ l _).trans (bb.mono (lZ l _).size);clear bb;go_wp2_with fail;refine(qL H 0 a _ _ _ (ae.below u) (NatAt.nil _) (by rw[dC];omega) (by unfold aI;omega)).mono ?_;rintro e w6 ⟨vj,rfl,bm,ce,z⟩;rw[aS] at bm;clear ce;go_wp2_with fail;refine(nU T (BN^a*H) _ _ _ ((aw.below u).below z) bm (by omega) O.out).mono ?_;rintro e w7 ⟨vs,rfl,au,ak,V⟩;clear ak;have nS:=bX (Nat.sub_le T (BN^a*H));have G:Below w5.heap.size w5 w7:=aC z V;have ag:Below l.heap.size l w7:=aC u G;go_wp2_with fail;refine(oU (T-BN^a*H) H _ _ _ au (ae.below ag) (by omega) (by omega)).mono ?_;rintro e w8 ⟨va,rfl,Y,K,g⟩;clear K;go_wp2;go_meet
   case rel=>
    have hp:=sZ a M;have cb:=aC G g;have c2:=HM.out.2.1;have hy:=HY.out;have c0:=a1.out;refine⟨BN^a-1,T-BN^a*H+H,aq.below cb,Y,bW (by omega),bW ?_,ai.wk (aG t.size (lZ l _).size),aC ag g,?_,?_,.inr rfl⟩
    ·have h1:=cJ H;have m:BN^nl H<=BN^a:=cE (by decide) nH;have h3:2*BN^a<=BN^(a+1):=by rw[cU,dD];exact dL _ l8
     omega
    ·unfold Hid;rw[Nat.sub_mul,Nat.one_mul];have h4:=O.out;have h5:H<=BN^a*H:=Nat.le_mul_of_pos_left _ (by omega);omega
    ·unfold Hid;omega
 case rest=>
  obtain⟨i,C,am,bk,cu,c4,Q,D,HE,HQ,HR⟩:=hcut;have ab:Below w.heap.size w wc:=aC t D;have bo:=bn.below D;have bt:=bs.below D;have bv:=bu.below D;clear bn bs bu aw ae D t;go_wp2_with fail;refine(nV i L _ _ _ am bo (by unfold aI;omega)).mono ?_;rintro e w5 ⟨vp,rfl,bq,bf,u⟩;have nP:=dJ i L;have fp:From w Fz vp:=bf.two ab.size Q b4;clear bf bo;go_wp2_with fail;refine(wP x a _ _ (bt.below u) (by unfold aI;omega) (by unfold aI;omega)).mono ?_;rintro e w6 ⟨vo,rfl,bp,cg,z⟩;clear cg;have U:Below wc.heap.size wc w6:=aC u z;go_wp2_with fail;refine(qL C (x%BN^a) a _ _ _ (bk.below U) bp (by omega) (by unfold aI;omega)).mono ?_;rintro e w7 ⟨vr,rfl,ar,aj,V⟩;have ad:=aC U V;have G:=aC z V;have F:=aC ab ad;have fr:From w Fz vr:=aj.wk (aG ab.size U.size);have cm:=am.below ad;have cr:=bv.below ad;have ck:=bq.below G;have HS:=aB (MX (x:=x) (P:=BN^a) HY.out (b2.out.trans HE.out));have HB:Hid (x%BN^a+BN^a*C<i*L+y):=by
   rcases HR.out with h|h
   ·exact MY HY.out h (by have:=sZ a M;omega)
   ·exact MZ bz.out h (by have:=sZ a M;omega) HS.out
  have b9:i*L<BN^(nl y):=by
   rw[show nl y=a+a by omega,Nat.pow_add];exact Nat.mul_lt_mul'' HQ.out a1.out
  have a5:∀r,r<i*L+y->nl r<=nl y+1:=by
   intro r E;refine bW ?_;have h1:=cJ y;have h3:2*BN^nl y<=BN^(nl y+1):=by rw[cU,dD];exact dL _ l8
   omega
  have b0:=aB a5;clear b9 a5;generalize x%BN^a+BN^a*C=R0 at *;generalize i*L=p at *;clear aj u z V U ad G bp bq am bk bt bv;go_wp2;go_loopg [10,11] i (fun k q r wr=>∃(f:Nat),NatAt wr q k∧NatAt wr r f∧From w Fz q∧From w Fz r∧Below w7.heap.size w7 wr∧nl k<=a∧Hid (x+p=k*y+f)∧Hid (f<p+y))
  case atStart=>exact⟨R0,cm,ar,Q,fr,aH _ _,cu,HS,HB⟩
  case round=>
   obtain⟨f,X,E,Q,fr,A,nk,a3,ay⟩:=hrel;have c5:=b0.out f ay.out;have bj:=ck.below A;have cs:=cr.below A;go_wp2_with fail;refine(kK f p _ _ _ E bj (by omega) (by omega)).mono ?_;rintro e w8 ⟨rfl,g⟩;by_cases hc:f<p
   ·have J:bN (f:Int) (p:Int)= -1:=gT (by omega);have a2:=aB (N4 a3.out hc);have ci:1<=gk:=a2.out.1;go_wp2_with fail;refine(oU f y _ _ _ (E.below g) (cs.below g) (by omega) (by omega)).mono ?_;rintro e w9 ⟨va,rfl,Y,K,ah⟩;have W:=aC g ah;have I:=aC A W;have fa:From w Fz va:=K.two (aG F.size (aG A.size g.size)) fr fy;have cn:=X.below W;clear K J;go_wp2_with fail;((refine(nU gk 1 _ _ _ (cn.below (lZ _ _)) (sY _ 1 (by decide) (by decide) _) (by omega) ci).mono ?_));rintro e c7 ⟨vs,rfl,au,ak,ca⟩;have a9:=(lZ w9 _).trans (ca.mono (lZ w9 _).size);go_wp2;go_roundg (gk-1)
    case measure=>omega
    case rel=>
     refine⟨f+y,au,Y.below a9,ak.two (aG (aG F.size I.size) (lZ w9 _).size) Q (From.new (aG F.size I.size)),fa,aC I a9,aG (bX (Nat.sub_le _ _)) nk,a2.out.2,by unfold Hid;omega⟩
   ·have cd:¬bN (f:Int) (p:Int)<0:=by
     rcases iH (f:Int) (p:Int) with h|h|h
     ·omega
     ·rw[h.2];decide
     ·rw[h.2];decide
    have az:=aB (N0 a3.out (by omega) ay.out);have cl:p<=f:=by omega
    generalize bN (f:Int) (p:Int)=cc at *;go_wp2_with fail;refine(nU f p _ _ _ (E.below g) (bj.below g) (by omega) cl).mono ?_;rintro e w9 ⟨va,rfl,Y,K,ah⟩;have W:=aC g ah;have I:=aC A W;go_wp2;go_ret2;refine⟨_,_,rfl,?_,?_,Q,K.two (aG F.size (aG A.size g.size)) fr fp,aC F I⟩
    ·rw[az.out.1];exact X.below W
    ·rw[az.out.2];exact Y
theorem MS {P y x:Nat} (i:0<P) (l:x<y*(P*P)) (a b:Nat) (d:a=x/P) (k:b=x%P+P*(a%y)):
  a<y*P∧b<y*P∧x/y=b/y+P*(a/y)∧x%y=b%y:=by
 have e:0<y:=by
  rcases Nat.eq_zero_or_pos y with h|h
  ·subst h;omega
  ·exact h
 have j:x=P*a+x%P:=by rw[d];exact(Nat.div_add_mod x P).symm
 have c:x=y*(P*(a/y))+b:=by
  have:=Nat.div_add_mod a y;have f:P*a=P*(y*(a/y)+a%y):=by rw[this]
  grind
 refine⟨?_,?_,?_,?_⟩
 ·rw[d];refine Nat.div_lt_of_lt_mul ?_;have:P*(y*P)=y*(P*P):=by grind
  omega
 ·have f:=Nat.mod_lt x i;have g:P*(a%y+1)<=P*y:=dL _ (Nat.mod_lt a e);rw[Nat.mul_add] at g;rw[dD y P];omega
 ·rw[c,Nat.mul_add_div e,Nat.add_comm]
 ·rw[c,Nat.mul_add_mod]
theorem MT (N:Nat) (ih:t8 N):t8 (N+1):=by
 intro x y v vy w hN F t aj X q;have a1:nl x<=nl y+nl y:=by
  refine bW ?_;rw[Nat.pow_add];exact aU q (cZ _ (Nat.le_of_lt (cJ y)))
 have aq:y≠0:=by intro h;subst h;simp at q
 obtain⟨B,d,Y,hd,a0,az⟩:=id t;have J:=aB X;have ac:=aB q;clear X q;unfold aI at aj;by_cases r:nl y<80∨nl y%2=1
 ·subst Y;have C:=(D4 x y _ _ w F t aq (by unfold aI;omega) (by unfold aI;omega));rcases r with r|r
  ·go_enter Tryz.func239,Tryz.ntmps239;go_wp2_with fail;refine C.mono ?_;rintro e I ⟨u,H,rfl,i,f,c,g,l⟩;go_wp2;go_ret2;exact⟨_,_,rfl,i,f,c,g,l⟩
  ·have am:((nl y:Int)%2==0)=false:=by simp;omega
   have an:((nl y:Int)%2)=1:=by omega
   by_cases ao:nl y<80
   ·go_enter Tryz.func239,Tryz.ntmps239;go_wp2_with fail;refine C.mono ?_;rintro e I ⟨u,H,rfl,i,f,c,g,l⟩;go_wp2;go_ret2;exact⟨_,_,rfl,i,f,c,g,l⟩
   ·go_enter Tryz.func239,Tryz.ntmps239;go_wp2_with fail;refine C.mono ?_;rintro e I ⟨u,H,rfl,i,f,c,g,l⟩;go_wp2;go_ret2;exact⟨_,_,rfl,i,f,c,g,l⟩
 ·obtain⟨a,V,W,ay⟩:∃a:Nat,a+a<=nl y∧nl y<=a+a∧(nl y:Int)/2=(a:Int):=⟨nl y/2,by omega,by omega,by omega⟩;have ao:¬nl y<80:=by omega
  have am:((nl y:Int)%2==0)=true:=by simp;omega
  have an:((nl y:Int)%2)=0:=by omega
  clear r;obtain⟨b,s⟩:∃b,b=x/BN^a:=⟨_,rfl⟩;obtain⟨j,G⟩:∃j,j=x%BN^a+BN^a*(b%y):=⟨_,rfl⟩;have m:=MS (P:=BN^a) (Nat.pow_pos (by decide)) (by rw[<-Nat.pow_add,show a+a=nl y by omega];exact ac.out) b j s G;have au:nl b<=nl y+a:=by rw[s,iQ];omega
  have av:nl j<=nl y+a:=by
   refine bW ?_;rw[Nat.pow_add];exact aU m.2.1 (cZ _ (Nat.le_of_lt (cJ y)))
  have a5:nl (x%BN^a)<=a:=by have:=nO x a;omega
  have a4:nl (b%y)<=nl y:=bX (Nat.le_of_lt (Nat.mod_lt _ (by omega)));have a2:nl (b/y)<=a:=bW (Nat.div_lt_of_lt_mul m.1);have a3:nl (j/y)<=a:=bW (Nat.div_lt_of_lt_mul m.2.1);have ad:=aB s;have ae:=aB G;have n:=aB m;clear s G m;subst Y;go_enter Tryz.func239,Tryz.ntmps239;go_wp2_with fail;refine(tC x a _ _ F (by unfold aI;omega) (by unfold aI;omega)).mono ?_;rintro e I ⟨v1,rfl,D,K,o⟩;rw[<-ad.out] at D;have ab:=t.below o;have L:From w [v,Value.slice B (nl y) d] v1:=K.one aE (From.mem (by simp));clear K;go_wp2_with fail;refine(CZ N ih b y a _ _ _ D ab (by omega) V W (by omega) (by unfold aI;omega) au J.out n.out.1).mono ?_;rintro e w2 ⟨u,H,rfl,i,f,c,g,S⟩;have k:=aC o S;have ax:From w [v,Value.slice B (nl y) d] u:=c.two o.size L (From.mem (by simp));clear c g L S D ab;go_wp2_with fail;refine(wP x a _ _ (F.below k) (by unfold aI;omega) (by unfold aI;omega)).mono ?_;rintro e w3 ⟨vl,rfl,Z,fl,p⟩;clear fl;go_wp2_with fail;refine(qL (b%y) (x%BN^a) a _ _ _ (f.below p) Z (by omega) (by unfold aI;omega)).mono ?_;rintro e w4 ⟨vj,rfl,E,M,ah⟩;have O:From w [v,Value.slice B (nl y) d] vj:=M.wk (aG k.size p.size);rw[<-ae.out] at E;have A:=aC p ah;have R:=aC k A;have ar:=t.below R;go_wp2_with fail;refine(CZ N ih j y a _ _ _ E ar (by omega) V W (by omega) (by unfold aI;omega) av J.out n.out.2.1).mono ?_;rintro e w5 ⟨a6,aw,rfl,ak,al,af,Q,ai⟩;have ag:From w [v,Value.slice B (nl y) d] aw:=Q.two R.size O (From.mem (by simp));have T:=aC A ai;have z:=aC k T;clear af Q O M E Z f;go_wp2_with fail;refine(qL (b/y) (j/y) a _ _ _ (i.below T) ak (by omega) (by unfold aI;omega)).mono ?_;rintro e w6 ⟨vz,rfl,ap,fz,U⟩;go_wp2;go_ret2;refine⟨_,_,rfl,?_,?_,fz.wk z.size,ag,aC z U⟩
  ·rw[n.out.2.2.1];exact ap
  ·rw[n.out.2.2.2];exact al.below U
theorem MU (N:Nat):t8 N:=by
 induction N with
 |zero=>intro x y b c w h;omega
 |succ N a=>exact MT N a
theorem MV (x y:Nat) (a b:Value) (w:World) (f:NatAt w a x) (g:NatAt w b y) (c:nl y+nl y+2<=aI) (e:BN^nl y<=2*y) (d:x<y*BN^nl y):
  Calls Tryz.prog 239 #[a,b] w (mS w [a,b] x y):=MU _ x y a b w (Nat.lt_succ_self _) f g c e d
theorem MK {y s:Nat} (d:y≠0) (l:s<64) (c:2^63<=y/BN^(nl y-1)*2^s) (g:y/BN^(nl y-1)*2^s<BN):
  BN^nl y<=2*(y*2^s)∧y*2^s<BN^nl y:=by
 have e:=CP d (by omega) g;have a:=cJ (y*2^s);rw[e] at a;refine⟨?_,a⟩;have h:=fI d;obtain⟨m,b⟩:∃m,nl y=m+1:=⟨nl y-1,by omega⟩;rw[b,Nat.add_sub_cancel] at c;rw[b,cU];have f:=Nat.div_mul_le_self y (BN^m);have i:(y/BN^m*2^s)*BN^m<=y*2^s:=by
  have:(y/BN^m*2^s)*BN^m=(y/BN^m*BN^m)*2^s:=by grind
  rw[this];exact cZ _ f
 have j:2^63*BN^m<=(y/BN^m*2^s)*BN^m:=cZ _ c;have k:BN^m*BN=2*(2^63*BN^m):=by rw[show BN=2*2^63 from rfl];grind
 omega
theorem ML {y s n a:Nat} (hn:n<=a) (d:BN^n<=2*(y*2^s)) (f:y*2^s<BN^n) (l:1<=a):
  BN^a<=2*(y*2^(64*(a-n)+s))∧nl (y*2^(64*(a-n)+s))=a:=by
 have e:y*2^(64*(a-n)+s)=(y*2^s)*BN^(a-n):=by rw[qH];grind
 rw[e];have b:BN^a=BN^n*BN^(a-n):=by rw[<-Nat.pow_add];congr 1;omega
 generalize y*2^s=z at *;have h:0<BN^(a-n):=Nat.pow_pos (by decide);have g:BN^a<=2*(z*BN^(a-n)):=by
  rw[b,<-Nat.mul_assoc];exact cZ _ d
 refine⟨g,Nat.le_antisymm (bW ?_) ?_⟩
 ·rw[b];exact Nat.mul_lt_mul_of_pos_right f h
 ·rcases Nat.lt_or_ge (nl (z*BN^(a-n))) a with c|c
  ·exfalso;have i:=cJ (z*BN^(a-n));have j:BN^nl (z*BN^(a-n))<=BN^(a-1):=cE (by decide) (by omega);have k:2*BN^(a-1)<=BN^a:=by
    obtain⟨m,rfl⟩:∃m,a=m+1:=⟨a-1,by omega⟩;rw[Nat.add_sub_cancel,cU,dD];exact dL _ l8
   omega
  ·exact c
theorem MM {x y k:Nat}:x*2^k/(y*2^k)=x/y∧x*2^k%(y*2^k)/2^k=x%y:=by
 have a:0<2^k:=Nat.pow_pos (by decide);refine⟨Nat.mul_div_mul_right _ _ a,?_⟩;rw[Nat.mul_mod_mul_right,Nat.mul_div_cancel _ a]
theorem MN {E D a:Nat} (g:0<D) (b:0<a):
  E%D+D*(E/D%a)<a*D∧E/a=(E%D+D*(E/D%a))/a+D*(E/D/a)∧E%a=(E%D+D*(E/D%a))%a:=by
 have h:=Nat.div_add_mod E D;have c:=Nat.div_add_mod (E/D) a;have e:E=a*(D*(E/D/a))+(E%D+D*(E/D%a)):=by
  have d:D*(E/D)=D*(a*(E/D/a)+E/D%a):=by rw[c]
  grind
 refine⟨?_,?_,?_⟩
 ·have d:=Nat.mod_lt E g;have f:D*(E/D%a+1)<=D*a:=dL _ (Nat.mod_lt _ b);rw[Nat.mul_add] at f;rw[dD a D];omega
 ·conv=>lhs;rw[e]
  rw[Nat.mul_add_div b,Nat.add_comm]
 ·conv=>lhs;rw[e]
  rw[Nat.mul_add_mod]
theorem MO {a s:Nat} {b c:List Int} (e:b.length<=s):
  patch (List.replicate (a+s) 0++c) (cK ((List.replicate (a+s) 0++c).drop a) b) a=List.replicate a 0++(b++List.replicate (s-b.length) 0++c):=by
 have d:(List.replicate (a+s) (0:Int)++c).drop a=List.replicate s 0++c:=by
  rw[List.drop_append_of_le_length (by simp),List.drop_replicate,Nat.add_sub_cancel_left]
 rw[d];unfold patch cK;rw[cA (l:=b) (by simp;omega),List.drop_append_of_le_length (by simpa using e),List.drop_replicate];rw[List.take_append_of_le_length (by simp),List.take_replicate,Nat.min_eq_left (by omega)];rw[List.drop_of_length_le (by simp;omega)];simp
theorem MP {s:Nat} {a b:List Int} (c:a.length<=s):aF aA (a++List.replicate (s-a.length) 0++b)=aF aA a+aA^s*aF aA b:=by
 rw[iP,iP,jN,aY,cN,show a.length+(s-a.length)=s by omega];simp
theorem MQ {n p:Nat} (b:1<=p) (d:p<=n):∃c:Nat,((n:Int)+p-1)/(p:Int)=(c:Int)∧n<=c*p∧c*p<n+p∧1<=c∧c<=n∧(80<=c->p*2<=n):=by
 refine⟨(n+p-1)/p,?_,?_,?_,?_,?_,?_⟩
 ·rw[Int.natCast_ediv];congr 1;omega
 ·have:=Nat.div_add_mod (n+p-1) p;have:=Nat.mod_lt (n+p-1) (show 0<p by omega);rw[dD];omega
 ·have:=Nat.div_mul_le_self (n+p-1) p;omega
 ·exact(Nat.le_div_iff_mul_le (by omega)).2 (by omega)
 ·refine Nat.div_le_of_le_mul ?_;have:p*n=n+(p-1)*n:=by
   obtain⟨k,rfl⟩:∃k,p=k+1:=⟨p-1,by omega⟩;simp;grind
  have:(p-1)*1<=(p-1)*n:=dL _ (by omega);omega
 ·intro h;have a:=(Nat.le_div_iff_mul_le (show 0<p by omega)).1 h;omega
theorem MR (x y:Nat) (N vy:Value) (w:World) (hx:NatAt w N x) (hy:NatAt w vy y) (ci:80<=nl y) (c5:nl y<=nl x) (cg:nl x+4*nl y+4<=aI):
  Calls Tryz.prog 225 #[N,vy] w (mS w [N,vy] x y):=by
 unfold aI at cg;obtain⟨B,d,rfl,hd,cu,dp⟩:=id hy;obtain⟨b,o,rfl,hb,a6⟩:=cu.at_ (by rw[aJ];omega);have bt:y≠0:=by intro h;subst h;rw[dC] at ci;omega
 have c4:x≠0:=by intro h;subst h;rw[dC] at c5;omega
 obtain⟨bk,bm,bn⟩:=sU bt;obtain⟨s,an,bg,M,bh⟩:=sX _ bm bn;have Z:=aB (MK bt an M bh);have ac:=a6 (nl y-1) (by rw[aJ];omega);rw[bk] at ac;have b2:=iO;generalize y/BN^(nl y-1)=a at *;have ay:(a:Int)<aA:=by omega
 have ax:0<(a:Int):=by omega
 have ar:=aB bg;clear bk M bh bm bn b2 a6 bg;go_enter Tryz.func225,Tryz.ntmps225;go_wp2;go_loop [7] (fun i=>∃p:Nat,1<=p∧p<=nl y∧i= .int .i64 p) (fun i=>nl y-(intOf i).toNat)
 case atStart=>exact⟨1,aE,by omega,rfl⟩
 case round=>
  obtain⟨p,cm,cn,rfl⟩:=hrel;obtain⟨c,cb,ai,U,aj,di,ak⟩:=MQ cm cn;have dq:¬p=0:=by omega
  by_cases b9:80<=c
  ·have co:=ak b9;clear ac ax ay Z ar an c4 ai U ak;go_wp2;go_round
   case rel=>exact⟨p*2,by omega,co,by go_num⟩
   case measure=>simp[intOf];omega
  ·have dj:¬(80:Int)<=(c:Int):=by omega
   obtain⟨f,X,cy,du,de⟩:∃f:Nat,(c:Int)*(p:Int)=(f:Int)∧nl y<=f∧f<nl y+p∧Hid (f=c*p):=⟨c*p,by simp,ai,U,rfl⟩;obtain⟨l,cv,dr,au⟩:∃l:Nat,64*((f:Int)-(nl y:Int))+(s:Int)=(l:Int)∧l<64*(f-nl y)+64∧Hid (l=64*(f-nl y)+s):=⟨64*(f-nl y)+s,by omega,by omega,rfl⟩;clear ai U ak;have aq:Hid (BN^f<=2*(y*2^l)∧nl (y*2^l)=f):=by
    unfold Hid;rw[au.out];exact ML cy Z.out.1 Z.out.2 (by omega)
   go_wp2_with fail;refine(oW a s ax ay (by rw[Int.toNat_natCast];exact ar.out) _).mono ?_;rintro e d2 ⟨rfl,rfl⟩;go_wp2_with fail;refine(qJ y l _ _ hy (by omega) (by unfold aI;omega)).mono ?_;rintro e w1 ⟨v1,rfl,bp,f1,T⟩;have b0:From w [N,Value.slice (some ⟨b,o,none⟩) (nl y) d] v1:=f1.one aE (From.mem (by simp));clear f1;go_wp2_with fail;refine(qJ x l _ _ (hx.below T) (by omega) (by unfold aI;omega)).mono ?_;rintro e n ⟨v2,rfl,bq,f2,ag⟩;clear f2;have H:=aC T ag;have ba:=bp.below ag;have HQ:=aB (MM (x:=x) (y:=y) (k:=l));have a9:0<y*2^l:=Nat.mul_pos (by omega) (Nat.pow_pos (by decide));have dl:0<x*2^l:=Nat.mul_pos (by omega) (Nat.pow_pos (by decide));have dy:nl (x*2^l)<=nl x+(f-nl y)+1:=by
    refine bW ?_;rw[au.out,qH,Nat.add_assoc,Nat.pow_add,cU];refine Nat.mul_lt_mul'' (cJ x) (Nat.mul_lt_mul_of_pos_left ?_ (Nat.pow_pos (by decide)));rw[qG];exact Nat.pow_lt_pow_right (by decide) an
   generalize ce:y*2^l=g at *;generalize cd:x*2^l=dd at *;clear ce cd bp T ag ac cv X cb;have d0:=fI (show dd≠0 by omega);obtain⟨J,b5,b3,b4⟩:∃J:Nat,((nl dd:Int)-1)/(f:Int)=(J:Int)∧J*f+1<=nl dd∧nl dd<=J*f+f:=by
    have h1:=Nat.div_add_mod (nl dd-1) f;have h2:=Nat.mod_lt (nl dd-1) (show 0<f by omega);rw[dD] at h1;exact⟨(nl dd-1)/f,by rw[Int.natCast_ediv];congr 1;omega,by omega,by omega⟩
   obtain⟨t,cx,ab⟩:∃t:Nat,(J:Int)*(f:Int)=(t:Int)∧Hid (t=J*f):=⟨J*f,by simp,rfl⟩;have ds:t+1<=nl dd:=by have:=ab.out;omega
   have cw:nl dd<=t+f:=by have:=ab.out;omega
   have dt:¬f=0:=by omega
   clear b3 b4;obtain⟨m,dw,dx,dc⟩:∃m:Nat,nl dd+f<=m∧m<=nl dd+f∧Hid (nl dd+f=m):=⟨_,aE,aE,rfl⟩;obtain⟨A2,c2,rfl,U,cq,ck⟩:=id bq;go_wp2_with (at_make;refine iE rfl rfl .u64 181 8 Tryz.underlying57 fO m rfl rfl (by omega) (by omega) (by omega) (by omega) ?_;intro w3 bu M aj az);generalize [N,Value.slice (some ⟨b,o,none⟩) (nl y) d]=Fz at *;have av:=aq.out.2;have da:nl g<=f:=by omega
   have ap:=aB av;clear av cq ck b5 cx;have c6:0<BN^f:=Nat.pow_pos (by decide)
   go_loopg [13,14] (J+1) (fun k r i wr=>∃(q:List Int) (v:Nat),i= .int .i64 ((v:Int)-(f:Int))∧Hid (v=k*f)∧v<=t+f∧NatAt wr r (dd/BN^v%g)∧Cells .u64 wr n.heap.size 0 (List.replicate v 0++q)∧Soft wr n.heap.size∧n.heap.size<wr.heap.size∧
     InR aA q∧Hid (q.length+v=m)∧Hid (aF aA q=((dd/BN^v/g:Nat):Int))∧Below n.heap.size n wr∧From w Fz r∧r.ownBlock≠some n.heap.size)
   case atStart=>
    have hE:dd/BN^(t+f)=0:=Nat.div_eq_of_lt (aU (cJ dd) (cE (by decide) cw));refine⟨List.replicate (m-(t+f)) 0,t+f,?_,?_,aE,?_,?_,M,bu,InR.replicate aP _,?_,?_,az,From.none,by simp[Value.ownBlock]⟩
    ·congr 1;omega
    ·unfold Hid;rw[ab.out];grind
    ·rw[hE,Nat.zero_mod];exact NatAt.nil _
    ·rw[List.replicate_append_replicate,show t+f+(m-(t+f))=m by omega];exact aj
    ·unfold Hid;simp;omega
    ·unfold Hid;rw[hE,jN];simp
   case round=>
    obtain⟨q,v,rfl,O,dh,G,V,bj,z,bc,Q,R,A,fr,ct⟩:=hrel;clear M aj bu az;cases gk with
    |zero=>
     have h0:=O.out;rw[Nat.zero_mul] at h0;subst h0;have L:((0:Nat):Int)-(f:Int)= -(f:Int):=by omega
     have dm:¬(0:Int)<= -(f:Int):=by omega
     simp only[L];clear L;have cp:NatAt wr u13 (dd%g):=by rw[Nat.pow_zero,Nat.div_one] at G;exact G
     have c0:Hid (aF aA q=((dd/g:Nat):Int)):=by have:=R.out;rw[Nat.pow_zero,Nat.div_one] at this;exact this
     have bf:Hid (q.length=m):=Q.out;have a3:Cells .u64 wr n.heap.size 0 q:=by simpa using V
     clear G R Q V O;have d1:nl (dd%g)<=nl dd:=bX (Nat.mod_le _ _);go_wp2_with fail;refine(eM _ q m m _ bf.out (Rd.mk z a3) aE (by omega)).mono ?_;rintro e w4 ⟨rfl,rfl⟩;go_wp2_with fail;refine(CX (dd%g) l _ _ cp (by omega) (by unfold aI;omega)).mono ?_;rintro e w5 ⟨v5,rfl,W,f5,I⟩;go_wp2;go_ret2;have af:=aC H A;refine⟨_,_,rfl,?_,?_,From.new H.size,f5.one af.size fr,aC af I⟩
     ·rw[<-HQ.out.1];exact(NatAt.trim (Rd.mk z a3) bc c0.out (by rw[bf.out];exact aE) (Old.mk z)).below I
     ·rw[<-HQ.out.2];exact W
    |succ j=>
     obtain⟨a,HA,bx⟩:∃a:Nat,Hid (a=j*f)∧v=a+f:=⟨j*f,rfl,by have:=O.out;rw[Nat.succ_mul] at this;exact this⟩;subst bx;have L:((a+f:Nat):Int)-(f:Int)=(a:Int):=by omega
     simp only[L];clear L O;have al:dd/BN^(a+f)=dd/BN^a/BN^f:=by rw[Nat.div_div_eq_div_mul,<-Nat.pow_add]
     rw[al] at G;have HV:Hid (aF aA q=((dd/BN^a/BN^f/g:Nat):Int)):=by have:=R.out;rw[al] at this;exact this
     clear al R;have nE:nl (dd/BN^a)<=nl dd:=bX (Nat.div_le_self _ _);generalize aw:dd/BN^a=E at *;have Y:=aB aw;clear aw;have P:=aB (MN (E:=E) c6 a9);have nR:nl (E/BN^f%g)<=f:=aG (bX (Nat.le_of_lt (Nat.mod_lt _ a9))) da;have c8:nl (E%BN^f)<=f:=by have:=nO E f;omega
     have bw:nl ((E%BN^f+BN^f*(E/BN^f%g))/g)<=f:=bW (Nat.div_lt_of_lt_mul P.out.1);have a7:=bq.below A;have bb:=ba.below A;go_wp2_with fail;refine(tC dd a _ _ a7 (by unfold aI;omega) (by unfold aI;omega)).mono ?_;rintro e w4 ⟨v4,rfl,ao,f4,ah⟩;rw[Y.out] at ao;clear f4 a7;go_wp2_with fail;refine(wP E f _ _ ao (by unfold aI;omega) (by unfold aI;omega)).mono ?_;rintro e w5 ⟨v5,rfl,W,f5,I⟩;clear f5 ao;have D:=aC ah I;go_wp2_with fail;refine(qL (E/BN^f%g) (E%BN^f) f _ _ _ (G.below D) W c8 (by unfold aI;omega)).mono ?_;rintro e w6 ⟨v6,rfl,br,f6,a0⟩;clear W;have F:=aC D a0;go_wp2_with fail;refine(MV (E%BN^f+BN^f*(E/BN^f%g)) g _ _ _ br (bb.below F) (by unfold aI;omega) (by rw[ap.out];exact aq.out.1) (by rw[ap.out];exact P.out.1)).mono ?_;rintro e w7 ⟨v7,u7,rfl,c3,cz,f7,g7,a1⟩;have K:=aC F a1;have ae:v6.ownBlock≠some n.heap.size:=f6.ne (aU z D.size) (fun u hu=>by cases hu);have ad:v1.ownBlock≠some n.heap.size:=by
      obtain⟨A1,c1,rfl,_,_,cj⟩:=id ba;exact cj.ne aE
     have am:n.heap.size<w6.heap.size:=aU z F.size;have df:=f7.ne2 am ae ad;have bo:=g7.ne2 am ae ad;have bs:w.heap.size<=w6.heap.size:=aG H.size (aG A.size F.size);have b1:From w Fz u7:=g7.two bs (f6.wk (aG H.size (aG A.size D.size))) b0;have a4:=V.below K z;have bi:=bj.below K z;have ch:n.heap.size<w7.heap.size:=aU z K.size;have b7:=aC A K;clear V bj z ah I a0 a1 D F K br G f6 f7 g7 ae ad bb A ct fr am bs;generalize a8:(E%BN^f+BN^f*(E/BN^f%g))/g=gZ at *;have db:=aB a8;clear a8;obtain⟨A7,c7,rfl,dk,cr,dn⟩:=c3;have bv:(List.replicate (a+f) (0:Int)++q).length=m:=by have:=Q.out;simp;omega
     have S:=aB bv;clear bv;generalize X:List.replicate (a+f) (0:Int)++q=zs at *;have bz:=aB X;clear X;have cc:Cells .u64 w7 n.heap.size a (zs.drop a):=by have:=a4.drop a;rwa [aS] at this
     have i1:¬m=a:=by omega
     have i2:a<=m:=by omega
     go_wp2_with (with_reducible refine jM rfl (d:= .tmp 88) (s:= .tmp 89) rfl .u64 181 Tryz.underlying57 j9 rfl rfl n.heap.size a (zs.drop a) (dg gZ) (by rw[List.length_drop,S.out]) rfl (fun _=>rfl) cc bi cr ?_;intro w8 b8 C);rw[List.length_drop,S.out] at C;have a5:=C.patch a4 (by rw[j5,List.length_drop,S.out]) b8 (by have:=S.out;omega);rw[<-bz.out,MO (by rw[aJ];exact bw),aJ] at a5;go_wp2;go_roundg j
     case measure=>omega
     case rel=>
      refine⟨_,a,?_,HA,by omega,?_,a5,C.soft bi,aU ch C.grown.size,?_,?_,?_,C.belowOf b7 aE,b1,bo⟩
      ·congr 1
      ·rw[Y.out,P.out.2.2];obtain⟨A9,c9,rfl,ca,cs,cl⟩:=cz;refine⟨_,_,rfl,ca,C.rd cs ?_,cl.mono C.grown.size⟩;intro b' o' e _ b6;subst e b6;exact bo rfl
      ·exact((bV gZ).append (InR.replicate aP _)).append bc
      ·unfold Hid;have:=Q.out;simp[aJ];omega
      ·unfold Hid;rw[<-aJ,MP (by rw[aJ];exact bw),cB,HV.out,Y.out,P.out.2.1,<-gK];simp
theorem qK (x y:Nat) (j k:Value) (w:World) (l:NatAt w j x) (m:NatAt w k y) (G:y≠0) (z:nl x+4*nl y+4<=aI):
  Calls Tryz.prog 207 #[j,k] w (mS w [j,k] x y):=by
 have p:=D4 x y j k w l m G (by omega) (by omega);unfold aI at z;by_cases h:80<=nl y∧80+nl y<=nl x
 ·have t:=MR x y j k w l m h.1 (by omega) (by unfold aI;omega);obtain⟨o,n⟩:=h;obtain⟨A,c,rfl,u,E,C⟩:=l;obtain⟨B,d,rfl,v,F,D⟩:=m;go_enter Tryz.func207,Tryz.ntmps207;go_wp2_with fail;refine t.mono ?_;rintro e s ⟨q,r,rfl,g,i,a,b,f⟩;go_wp2;go_ret2;exact⟨_,_,rfl,g,i,a,b,f⟩
 ·obtain⟨A,c,rfl,u,E,C⟩:=l;obtain⟨B,d,rfl,v,F,D⟩:=m;by_cases o:80<=nl y
  ·have n:¬80+nl y<=nl x:=fun n=>h ⟨o,n⟩;have H:¬(80:Int)<=(nl x:Int)-(nl y:Int):=by omega
   clear h;go_enter Tryz.func207,Tryz.ntmps207;go_wp2_with fail;refine p.mono ?_;rintro e s ⟨q,r,rfl,g,i,a,b,f⟩;go_wp2;go_ret2;exact⟨_,_,rfl,g,i,a,b,f⟩
  ·clear h;go_enter Tryz.func207,Tryz.ntmps207;go_wp2_with fail;refine p.mono ?_;rintro e s ⟨q,r,rfl,g,i,a,b,f⟩;go_wp2;go_ret2;exact⟨_,_,rfl,g,i,a,b,f⟩
