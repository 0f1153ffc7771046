/-
  Contracts of functions that the statement reaches, and plain laws: NatAt, WordsC, WordsD.
-/
import Derived.Test.YtbhplgdbfmifkaaGreatDoorI03
import Derived.Test.YtbhplgdbfmifkaaGreatDoorI04
set_option linter.unusedVariables false
set_option linter.unusedSimpArgs false
set_option maxHeartbeats 8000000
set_option maxRecDepth 100000
namespace Go.Proofs.YtbhplgdbfmifkaaGreatDoor
open Go.RowKit Sos
def BN:Nat:=18446744073709551616
theorem gU:(BN:Int)=aA:=rfl
theorem kI:2≤BN:=by decide
def dg (n:Nat):List Int:=gG BN n
def nl (n:Nat):Nat:=(dg n).length
theorem aJ (n:Nat):(dg n).length=nl n:=rfl
theorem bC (n:Nat):aD aA (dg n)=n:=by rw[←gU];exact vU BN n kI
theorem sG (n:Nat):Canon aA (dg n):=by rw[←gU];exact wT BN n kI
theorem aW (n:Nat):InR aA (dg n):=(sG n).1
theorem BU {zs:List Int} (h:Canon aA zs):dg (aD aA zs).toNat=zs:=by
 unfold dg;rw[←gU] at h⊢;exact KG kI h
theorem pS:dg 0=[]:=C0 BN
theorem cC:nl 0=0:=by unfold nl;rw[pS];rfl
theorem lZ {zs:List Int} (h:InR aA zs) {n:Nat} (hv:aD aA zs=n):trimL zs=dg n:=by
 rw[←BU (K8 h),K6,hv,Int.toNat_natCast]
theorem sH {zs:List Int} (h:Canon aA zs) {n:Nat} (hv:aD aA zs=n):zs=dg n:=by
 rw[←BU h,hv,Int.toNat_natCast]
theorem fO (m:Nat):((BN^m:Nat):Int)=aA^m:=by rw[Int.natCast_pow,gU]
theorem bX (n:Nat):n<BN^nl n:=by
 have h:=fE aM (aW n);rw[bC,aJ,←fO] at h;omega
theorem bI {n m:Nat} (h:n<BN^m):nl n≤m:=by
 rcases Nat.lt_or_ge m (nl n) with hl|hl
 ·have hne:dg n≠[]:=by intro e;rw[←aJ,e] at hl;simp at hl
  have h1:=vR vV (aW n) (sG n).2 hne;rw[bC,aJ,←fO] at h1;have h2:BN^m≤BN^(nl n-1):=Nat.pow_le_pow_right (by decide) (by omega);omega
 ·exact hl
theorem vK {n:Nat} (h:n≠0):BN^(nl n-1)≤n:=by
 have hne:dg n≠[]:=by
  intro e;have:=bC n;rw[e] at this;have h0:(n:Int)=0:=this.symm;omega
 have h1:=vR vV (aW n) (sG n).2 hne;rw[bC,aJ,←fO] at h1;omega
theorem eQ {n:Nat} (h:n≠0):0<nl n:=by
 rcases Nat.eq_zero_or_pos (nl n) with h0|h0
 ·have:=bX n;rw[h0] at this;simp at this;omega
 ·exact h0
theorem mU {n:Nat} (h:nl n=0):n=0:=by
 rcases Nat.eq_zero_or_pos n with h0|h0
 ·exact h0
 ·have:=eQ (n:=n) (by omega);omega
theorem aX {m n:Nat} (h:m≤n):nl m≤nl n:=bI (Nat.lt_of_le_of_lt h (bX n))
theorem oL (m n:Nat):nl (m+n)≤max (nl m) (nl n)+1:=by
 refine bI ?_;have h1:=bX m;have h2:=bX n;have h3:BN^nl m≤BN^max (nl m) (nl n):=Nat.pow_le_pow_right (by decide) (by omega);have h4:BN^nl n≤BN^max (nl m) (nl n):=Nat.pow_le_pow_right (by decide) (by omega);rw[Nat.pow_succ];generalize BN^max (nl m) (nl n)=p at *;have:p*2≤p*BN:=Nat.mul_le_mul_left _ kI;omega
theorem cJ (m n:Nat):nl (m*n)≤nl m+nl n:=by
 rcases Nat.eq_zero_or_pos m with h0|h0
 ·subst h0;rw[Nat.zero_mul,cC];omega
 ·refine bI ?_;rw[Nat.pow_add];exact Nat.mul_lt_mul'' (bX m) (bX n)
theorem gM {n:Nat} (h0:n≠0) (h:n<BN):nl n=1:=by
 have h1:=eQ h0;have h2:=bI (n:=n) (m:=1) (by simpa using h);omega
theorem m5 {n:Nat} (h0:n≠0) (h:n<BN):dg n=[(n:Int)]:=by
 unfold dg;rw[gG,dif_neg (by have:=kI;omega),Nat.mod_eq_of_lt h,Nat.div_eq_of_lt h,C0]
def NatAt (w:World) (v:Value) (n:Nat):Prop:=∃A c,v= .slice A (nl n) c∧nl n≤c∧Rd .u64 w A (dg n)∧Old w A
def From (w:World) (vs:List Value) (v:Value):Prop:=∀b,v.ownBlock=some b→b<w.heap.size→∃u∈vs,u.ownBlock=some b
theorem From.mem {w:World} {vs:List Value} {v:Value} (h:v∈vs):From w vs v:=fun _ hb _=>⟨v,h,hb⟩
theorem From.new {w:World} {vs:List Value} {g off n c:Nat} {s:Option Nat} (h:w.heap.size≤g):From w vs (.slice (some ⟨g,off,s⟩) n c):=by
 intro b hb hlt;have:g=b:=by simpa [Value.ownBlock] using hb
 omega
theorem From.none {w:World} {vs:List Value} {n c:Nat}:From w vs (.slice none n c):=by
 intro b hb;simp[Value.ownBlock] at hb
theorem From.trans {w w1:World} {vs us:List Value} {v:Value} (h:From w1 us v) (hs:w.heap.size≤w1.heap.size) (hu:∀u∈us,From w vs u):From w vs v:=by
 intro b hb hlt;obtain⟨u,hm,hub⟩:=h b hb (by omega);exact hu u hm b hub hlt
theorem From.same {w:World} {vs:List Value} {A:Option Addr} {n c n' c':Nat} (h:From w vs (.slice A n c)):From w vs (.slice A n' c'):=by
 intro b hb hlt;refine h b ?_ hlt;cases A with
 |none=>simp[Value.ownBlock] at hb
 |some a=>simpa [Value.ownBlock] using hb
theorem From.shift {w:World} {vs:List Value} {b off off' n c n' c':Nat} {s s':Option Nat} (h:From w vs (.slice (some ⟨b,off,s⟩) n c)):From w vs (.slice (some ⟨b,off',s'⟩) n' c'):=by
 intro b' hb hlt;exact h b' (by simpa [Value.ownBlock] using hb) hlt
theorem From.ne {w:World} {vs:List Value} {v:Value} (h:From w vs v) {g:Nat} (hg:g<w.heap.size) (hn:∀u∈vs,u.ownBlock≠some g):v.ownBlock≠some g:=by
 intro e;obtain⟨u,hu,he⟩:=h g e hg;exact hn u hu he
theorem From.ne2 {w:World} {a b v:Value} (h:From w [a,b] v) {g:Nat} (hg:g<w.heap.size) (ha:a.ownBlock≠some g) (hb:b.ownBlock≠some g):v.ownBlock≠some g:=
 h.ne hg (fun u hu=>by
  rcases List.mem_cons.1 hu with rfl|hu
  ·exact ha
  ·rcases List.mem_cons.1 hu with rfl|hu
   ·exact hb
   ·cases hu)
theorem From.swap {w:World} {a b v:Value} (h:From w [a,b] v):From w [b,a] v:=by
 intro g hg hlt;obtain⟨u,hu,he⟩:=h g hg hlt;refine⟨u,?_,he⟩;rcases List.mem_cons.1 hu with rfl|hu
 ·exact List.mem_cons_of_mem _ (List.mem_cons_self ..)
 ·rcases List.mem_cons.1 hu with rfl|hu
  ·exact List.mem_cons_self ..
  ·cases hu
def fY (w:World) (vs:List Value) (n:Nat) (e:Ending) (w':World):Prop:=∃v,e= .returned v∧NatAt w' v n∧From w vs v∧Below w.heap.size w w'
theorem NatAt.below {w w':World} {v:Value} {n:Nat} (h:NatAt w v n) (hb:Below w.heap.size w w'):NatAt w' v n:=by
 obtain⟨A,c,hv,hc,hr,ho⟩:=h;exact⟨A,c,hv,hc,hr.below hb,ho.mono hb.size⟩
theorem NatAt.drewN {w:World} {v:Value} {n:Nat} (h:NatAt w v n) (k:Nat):NatAt (w.drewN k) v n:=h
theorem NatAt.drew {w:World} {v:Value} {n:Nat} (h:NatAt w v n):NatAt w.drew v n:=h
theorem NatAt.nil (w:World):NatAt w (.slice none 0 0) 0:=⟨none,0,by rw[cC],by rw[cC];exact Nat.le_refl _,by rw[pS];exact Rd.nil,Old.none⟩
theorem NatAt.of {w:World} {A:Option Addr} {zs:List Int} {c n:Nat} (hr:Rd .u64 w A zs) (hz:Canon aA zs) (hv:aD aA zs=n) (hc:zs.length≤c) (ho:Old w A):NatAt w (.slice A zs.length c) n:=by
 have e:=sH hz hv;subst e;exact⟨A,c,rfl,hc,hr,ho⟩
theorem NatAt.trim {w:World} {A:Option Addr} {zs:List Int} {c n:Nat} (hr:Rd .u64 w A zs) (hz:InR aA zs) (hv:aD aA zs=n) (hc:zs.length≤c) (ho:Old w A):NatAt w (.slice A (trimL zs).length c) n:=by
 have e:=lZ hz hv;have ht:=(nK zs).1;refine⟨A,c,?_,?_,?_,ho⟩
 ·rw[←aJ,←e]
 ·rw[←aJ,←e];have:=m6 zs;omega
 ·rw[←e,ht];exact hr.take _
theorem Only.belowOf {g off n:Nat} {w0 a b:World} (h:Only g off n a b) (h0:Below w0.heap.size w0 a) (hg:w0.heap.size≤g):Below w0.heap.size w0 b:=
 h0.trans (h.below h0.size hg)
theorem eY:(Tryz.prog.info? 161).map (fun i=>(i.zero,i.size,i.bytes))=some (some (.int .u64 0),1,8):=by kernel_rfl
theorem iI:(Tryz.prog.info? 161).map (·.size)=some 1:=by kernel_rfl
theorem pZ (n:Nat) (hn:n<BN) (w:World):Calls Tryz.prog 122 #[.int .u64 n] w (fY w [] n):=by
 by_cases h0:n=0
 ·subst h0;go_enter Tryz.func122,Tryz.ntmps122;go_wp2;go_ret;exact⟨_,rfl,NatAt.nil _,From.none,Below.refl _ _⟩
 ·have h1:((n:Int)==0)=false:=by simp;omega
  go_enter Tryz.func122,Tryz.ntmps122;go_wp2;go_ret;refine⟨_,rfl,⟨_,1,by rw[gM h0 hn];rfl,by rw[gM h0 hn];exact Nat.le_refl _,?_,Old.mk (by simp)⟩,From.new (Nat.le_refl _),(Below.refl _ _).alloc (Nat.le_refl _) _⟩;rw[m5 h0 hn];refine Rd.mk (by simp) ?_;intro i hi;obtain rfl:i=0:=by simpa using hi
  simp[go_sem]
def bM (x y:Int):Int:=if x<y then -1 else if y<x then 1 else 0
theorem iX {x y:Int} (h:x<y):bM x y= -1:=by unfold bM;rw[if_pos h]
theorem nU {x y:Int} (h:y<x):bM x y=1:=by unfold bM;rw[if_neg (by omega),if_pos h]
theorem wH (x:Int):bM x x=0:=by unfold bM;rw[if_neg (by omega),if_neg (by omega)]
theorem iY (x y:Int):(x<y∧bM x y= -1)∨(x=y∧bM x y=0)∨(y<x∧bM x y=1):=by
 rcases Int.lt_trichotomy x y with h|h|h
 ·exact .inl ⟨h,iX h⟩
 ·subst h;exact .inr (.inl ⟨rfl,wH x⟩)
 ·exact .inr (.inr ⟨h,nU h⟩)
theorem CD (x y:Int) (w:World):Calls Tryz.prog 168 #[.int .i64 x,.int .i64 y] w fun e w'=>e= .returned (.int .i64 (bM x y))∧w=w':=by
 rcases iY x y with ⟨h1,e⟩|⟨h1,e⟩|⟨h1,e⟩
 ·rw[e];clear e;go_enter Tryz.func168,Tryz.ntmps168;go_wp2;go_ret;exact⟨rfl,rfl⟩
 ·rw[e];clear e;subst h1;go_enter Tryz.func168,Tryz.ntmps168;go_wp2;go_ret;exact⟨rfl,rfl⟩
 ·rw[e];clear e;have h2:¬x<y:=by omega
  go_enter Tryz.func168,Tryz.ntmps168;go_wp2;go_ret;exact⟨rfl,rfl⟩
theorem LE (x y:Int) (w:World):Calls Tryz.prog 169 #[.int .u64 x,.int .u64 y] w fun e w'=>e= .returned (.int .i64 (bM x y))∧w=w':=by
 rcases iY x y with ⟨h1,e⟩|⟨h1,e⟩|⟨h1,e⟩
 ·rw[e];clear e;go_enter Tryz.func169,Tryz.ntmps169;go_wp2;go_ret;exact⟨rfl,rfl⟩
 ·rw[e];clear e;subst h1;go_enter Tryz.func169,Tryz.ntmps169;go_wp2;go_ret;exact⟨rfl,rfl⟩
 ·rw[e];clear e;have h2:¬x<y:=by omega
  go_enter Tryz.func169,Tryz.ntmps169;go_wp2;go_ret;exact⟨rfl,rfl⟩
theorem CE {xs ys:List Int} {k:Nat} (hx:InR aA xs) (hy:InR aA ys) (hl:xs.length=ys.length) (hk:k<xs.length) (hd:xs.drop (k+1)=ys.drop (k+1))
  (hlt:xs.getD k 0<ys.getD k 0):aD aA xs<aD aA ys:=by
 rw[iF aA xs k (by omega),iF aA ys k (by omega),iG aA xs k hk,iG aA ys k (by omega),hd];have h1:=fE aM (hx.take k);have h2:=dM aM (hy.take k);rw[List.length_take,Nat.min_eq_left (by omega)] at h1
 have h3:aA^k*(xs.getD k 0+aA*aD aA (ys.drop (k+1))+1)≤aA^k*(ys.getD k 0+aA*aD aA (ys.drop (k+1))):=
  Int.mul_le_mul_of_nonneg_left (by omega) (Int.le_of_lt (kM aM k))
 rw[Int.mul_add _ _ 1,Int.mul_one] at h3;omega
def sS (w:World) (n:Int) (e:Ending) (w':World):Prop:=e= .returned (.int .i64 n)∧Below w.heap.size w w'
theorem mA (x y:Nat) (vx vy:Value) (w:World) (hx:NatAt w vx x) (hy:NatAt w vy y) (bx:nl x≤17592186044416) (bY:nl y≤17592186044416):
  Calls Tryz.prog 124 #[vx,vy] w (sS w (bM x y)):=by
 obtain⟨A,c,rfl,hc,hrx,_⟩:=hx;obtain⟨B,d,rfl,hd,hry,_⟩:=hy;rcases Nat.lt_trichotomy (nl x) (nl y) with hl|hl|hl
 ·have e1:(nl x:Int)<nl y:=by omega
  have e2:((nl x:Int) != (nl y:Int))=true:=by simp;omega
  have e3:x<y:=by
   rcases Nat.lt_or_ge x y with h|h
   ·exact h
   ·have:=aX h;omega
  go_enter Tryz.func124,Tryz.ntmps124;go_wp2_with fail;refine(CD _ _ _).mono ?_;rintro e w' ⟨rfl,rfl⟩;go_wp2;go_ret;exact⟨by rw[iX e1,iX (show(x:Int)<y by omega)];rfl,Below.refl _ _⟩
 ·have e2:((nl x:Int) != (nl y:Int))=false:=by simp;omega
  have hX:=aW x;have hY:=aW y;have hvx:=bC x;have hvy:=bC y;have hlx:=aJ x;have hly:=aJ y;generalize dg x=xs at *;generalize dg y=ys at *;generalize nl x=n at *;generalize nl y=m at *;subst hl;have HX:=Lib.hid hvx;have HY:=Lib.hid hvy;have HLX:=Lib.hid hlx;have HLY:=Lib.hid hly;clear hvx hvy hlx hly;go_enter Tryz.func124,Tryz.ntmps124;go_wp2;go_loopw [5] (fun i wr=>∃q:Int, -1≤q∧q<n∧i= .int .i64 q∧Hid (xs.drop (q+1).toNat=ys.drop (q+1).toNat)∧Below w.heap.size w wr) (fun i _=>(intOf i+1).toNat)
  case atStart=>exact⟨(n:Int)-1,by omega,by omega,rfl,by
   have h1:=HLX.out;have h2:=HLY.out;rw[show((n:Int)-1+1).toNat=n by omega];unfold Hid;rw[List.drop_of_length_le (by omega),List.drop_of_length_le (by omega)],Below.refl _ _⟩
  case round=>
   obtain⟨q,hq1,hq2,rfl,hdr,hbel⟩:=hrel;by_cases h0:0≤q
   ·obtain⟨j,rfl⟩:=Int.eq_ofNat_of_zero_le h0;obtain⟨b,off,rfl,hb,hcx⟩:=(hrx.below hbel).at_ (by have:=HLX.out;omega);obtain⟨b',off',rfl,hb',hcy⟩:=(hry.below hbel).at_ (by have:=HLY.out;omega);have h1:=hcx j (by have:=HLX.out;omega);have h2:=hcy j (by have:=HLY.out;omega);clear hcx hcy;have hj:((j:Int)+1).toNat=j+1:=by omega
    rw[hj] at hdr;have hdx:=fun (h:xs.getD j 0<ys.getD j 0)=>CE hX hY (by have:=HLX.out;have:=HLY.out;omega) (by have:=HLX.out;omega) hdr.out h;have hdy:=fun (h:ys.getD j 0<xs.getD j 0)=>CE hY hX (by have:=HLX.out;have:=HLY.out;omega) (by have:=HLY.out;omega) hdr.out.symm h;have hde:xs.getD j 0=ys.getD j 0→xs.drop j=ys.drop j:=fun h=>by
     have hlx:j<xs.length:=by have:=HLX.out;omega
     have hly:j<ys.length:=by have:=HLY.out;omega
     rw[List.drop_eq_getElem_cons hlx,List.drop_eq_getElem_cons hly,hdr.out];rw[List.getD_eq_getElem?_getD,List.getD_eq_getElem?_getD,List.getElem?_eq_getElem hlx,List.getElem?_eq_getElem hly] at h;simp only[Option.getD_some] at h;rw[h]
    generalize xs.getD j 0=a at *;generalize ys.getD j 0=b0 at *;have HDX:=Lib.hid hdx;have HDY:=Lib.hid hdy;have HDE:=Lib.hid hde;clear hdx hdy hde hj;by_cases hab:a=b0
    ·have hb0:(a != b0)=false:=by simp[hab]
     have HDE2:=Lib.hid (HDE.out hab);subst hab;go_wp2;go_quiet (fail);go_wp2;go_roundw
     case rel=>exact⟨(j:Int)-1,by omega,by omega,rfl,by
      rw[show((j:Int)-1+1).toNat=j by omega];exact HDE2,cH hbel _⟩
     case measure=>simp[intOf]
    ·have hb0:(a != b0)=true:=by simp[hab]
     have hcmp:bM a b0=bM x y:=by
      have hvx:=HX.out;have hvy:=HY.out;rcases Int.lt_trichotomy a b0 with h|h|h
      ·have:=HDX.out h;rw[iX h,iX (by omega)]
      ·exact absurd h hab
      ·have:=HDY.out h;rw[nU h,nU (by omega)]
     have HCMP:=Lib.hid hcmp;clear hcmp hab;go_wp2;go_quiet (fail);go_wp2;go_quiet ((go_at_call 169;exact BX (LE _ _ _)));go_wp2;go_ret;exact⟨by rw[←HCMP.out];rfl,cH (cH hbel _) _⟩
   ·obtain rfl:q= -1:=by omega
    go_wp2;go_ret;refine⟨?_,hbel⟩;have hvx:=HX.out;have hvy:=HY.out;have e:xs=ys:=by simpa using hdr.out
    rw[show(x:Int)=y by rw[←hvx,←hvy,e],wH];rfl
 ·have e1:(nl y:Int)<nl x:=by omega
  have e2:((nl x:Int) != (nl y:Int))=true:=by simp;omega
  have e3:y<x:=by
   rcases Nat.lt_or_ge y x with h|h
   ·exact h
   ·have:=aX h;omega
  go_enter Tryz.func124,Tryz.ntmps124;go_wp2_with fail;refine(CD _ _ _).mono ?_;rintro e w' ⟨rfl,rfl⟩;go_wp2;go_ret;exact⟨by rw[nU e1,nU (show(y:Int)<x by omega)];rfl,Below.refl _ _⟩
def LC (w:World) (zs:List Int) (e:Ending) (w':World):Prop:=∃v,e= .returned v∧BW .u64 w' w.heap.size v zs∧Below w.heap.size w w'
theorem Rd.src {k:IntKind} {w:World} {A:Option Addr} {zs:List Int} (h:Rd k w A zs):Src w A (zs.map (Value.int k)):=by
 rcases h with rfl|⟨b,off,rfl,_,hc⟩
 ·exact .inl rfl
 ·exact .inr ⟨b,off,rfl,hc.vc⟩
theorem wG (w:World) (e:TypeId) (size:Nat):(w.alloc (.cells #[] e)).ownsRow w.heap.size e size (.slice (some ⟨w.heap.size,0,none⟩) 0 0) 0 []:=
 ⟨by simp,.inr ⟨w.heap.size,0,#[],rfl,Nat.le_refl _,heap_alloc_new w _,Nat.le_refl _,Nat.zero_le _,by simp,by simp⟩⟩
theorem LD (A:Option Addr) (zs:List Int) (c:Nat) (w:World) (hs:Rd .u64 w A zs) (hl:zs.length*8≤140737488355328):
  Calls Tryz.prog 152 #[.slice A zs.length c] w (LC w zs):=by
 cases A with
 |none=>
  have h0:zs=[]:=by
   rcases hs with h|⟨_,_,h,_⟩
   ·exact h
   ·cases h
  subst h0;have hq:∀w:World,(binOp .eql 48 (.slice none 0 c) (.slice none 0 0)).run Tryz.prog w= .ok (.bool true) w:=fun w=>Lib.run_eql_slice_nil w _ 161 none 0 c 0 0 Tryz.underlying48;go_enter Tryz.func152,Tryz.ntmps152;go_wp2;go_ret;exact⟨_,rfl,⟨none,0,rfl,Nat.le_refl _,.inl rfl⟩,Below.refl _ _⟩
 |some ad=>
  have hq:∀w:World,(binOp .eql 48 (.slice (some ad) zs.length c) (.slice none 0 0)).run Tryz.prog w= .ok (.bool false) w:=fun w=>Lib.run_eql_slice_nil w _ 161 (some ad) zs.length c 0 0 Tryz.underlying48;go_enter Tryz.func152,Tryz.ntmps152;have hsrc:Src (w.alloc (.cells #[] 161)) (some ad) (zs.map (Value.int .u64)):=(hs.below ((Below.refl _ _).alloc (Nat.le_refl _) _)).src;have hown0:=wG w 161 1;go_wp2_with (at_builtin;refine eJ rfl rfl 161 _ 1 8 Tryz.underlying48 eY rfl (by decide) w.heap.size (.slice (some ⟨w.heap.size,0,none⟩) 0 0) 0 [] rfl hown0 (zs.map (Value.int .u64)) rfl (by simp) hsrc (ints_oneCell _ _) (by omega) (by omega) (by simp) ?_;intro v1 w1 ho1 hg1 hat1);go_ret;refine⟨v1,rfl,K5 (e:=161) (by simpa using ho1),?_⟩;exact((Below.refl w.heap.size w).alloc (Nat.le_refl _) _).grown hg1 (by simp) (by simp[Value.ownBlock])
theorem iW (n:Nat) (ys:List Int) (h:ys.length≤n):aD aA (bJ (List.replicate n 0) ys)=aD aA ys:=by
 unfold bJ;rw[List.length_replicate,List.take_of_length_le h,List.drop_replicate,gV,iU];simp
theorem pW {xs ys:List Int} (hx:InR aA xs) (hy:InR aA ys):InR aA (bJ xs ys):=(hy.take _).append (hx.drop _)
theorem CC {a b:Int} {n:Nat} (ha:a<aA^n) (hb:b<aA^n):a+b<aA^(n+1):=by
 rw[Int.pow_succ];have h0:=kM aM n;have:aA^n*2≤aA^n*aA:=Int.mul_le_mul_of_nonneg_left (by decide) (by omega);omega
theorem oQ (x y:Nat) (vx vy:Value) (w:World) (hx:NatAt w vx x) (hy:NatAt w vy y) (bx:nl x≤17592186044415) (bY:nl y≤17592186044415):
  Calls Tryz.prog 123 #[vx,vy] w (fY w [vx,vy] (x+y)):=by
 obtain⟨A,c,rfl,hc,hrx,hox⟩:=hx;obtain⟨B,d,rfl,hd,hry,hoy⟩:=hy;by_cases hlt:nl x<nl y
 ·by_cases h0:nl x=0
  ·obtain rfl:=mU h0;rw[Nat.zero_add];have e1:((nl 0:Nat):Int)<nl y:=by omega
   have e2:(((nl 0:Nat):Int)==0)=true:=by simp[cC]
   go_enter Tryz.func123,Tryz.ntmps123;go_wp2;go_ret;exact⟨_,rfl,⟨B,d,rfl,hd,hry,hoy⟩,From.mem (by simp),Below.refl _ _⟩
  ·have e1:((nl x:Nat):Int)<nl y:=by omega
   have e2:(((nl x:Nat):Int)==0)=false:=by simp;omega
   go_enter Tryz.func123,Tryz.ntmps123
   go_wp2_with (first
    |(at_make;refine gN rfl rfl .u64 161 8 Tryz.underlying48 eY (nl y+1) rfl rfl (by omega) (by omega) (by omega) (by omega) ?_;intro w1 hz1 hs1 hc1 hb1)
    |(with_reducible refine iT rfl rfl .u64 161 Tryz.underlying48 iI rfl rfl w.heap.size 0 (List.replicate (nl y+1) 0) (dg y) (by simp) rfl (fun _=>rfl) hc1 hs1 (hry.below hb1) ?_;intro w2 hc2 ho2))
   rw[List.length_replicate] at ho2;have hb2:Below w.heap.size w w2:=ho2.belowOf hb1 (Nat.le_refl _);refine(sM w.heap.size 0 (nl y+1) _ (nl y+1) A (nl x) (dg x) c w2 (by rw[iE];simp) rfl hc2 (ho2.soft hs1) (Nat.le_refl _) (by omega) (hrx.below hb2) ?hn (by omega) (pW (InR.replicate aM _) (aW y)) (aW x) ?hv).mono ?_
   case hn=>
    rintro b o rfl h;obtain⟨b',o',e,hb',_⟩:=hrx.at_ h;injection e with e;injection e;omega
   case hv=>
    rw[iW _ _ (by rw[aJ];omega)];have h1:=fE aM (aW y);have h2:=fE aM (aW x);rw[aJ] at h1 h2;exact CC h1 (Int.lt_of_lt_of_le h2 (sK (by decide) (by omega)))
   rintro e w3 ⟨rfl,zs,hzl,hz,hv,hc3,ho3⟩;rw[iW _ _ (by rw[aJ];omega),bC,bC] at hv;have HV:=Lib.hid hv;have HL:=Lib.hid hzl;clear hv hzl;have hlt3:w.heap.size<w3.heap.size:=Nat.lt_of_lt_of_le hz1 (Nat.le_trans ho2.grown.size ho3.grown.size);go_wp2_with fail;refine(dI _ zs (nl y+1) (nl y+1) w3 HL.out (Rd.mk hlt3 hc3) (Nat.le_refl _) (by omega)).mono ?_;rintro e w4 ⟨rfl,rfl⟩;go_wp2;go_ret;exact⟨_,rfl,NatAt.trim (Rd.mk hlt3 hc3) hz (by rw[HV.out];omega) (by rw[HL.out];exact Nat.le_refl _) (Old.mk hlt3),From.new (Nat.le_refl _),ho3.belowOf hb2 (Nat.le_refl _)⟩
 ·by_cases h0:nl y=0
  ·obtain rfl:=mU h0;rw[Nat.add_zero];have e1:¬((nl x:Nat):Int)<((nl 0:Nat):Int):=by omega
   have e2:(((nl 0:Nat):Int)==0)=true:=by simp[cC]
   go_enter Tryz.func123,Tryz.ntmps123;go_wp2;go_ret;exact⟨_,rfl,⟨A,c,rfl,hc,hrx,hox⟩,From.mem (by simp),Below.refl _ _⟩
  ·have e1:¬((nl x:Nat):Int)<nl y:=by omega
   have e2:(((nl y:Nat):Int)==0)=false:=by simp;omega
   go_enter Tryz.func123,Tryz.ntmps123
   go_wp2_with (first
    |(at_make;refine gN rfl rfl .u64 161 8 Tryz.underlying48 eY (nl x+1) rfl rfl (by omega) (by omega) (by omega) (by omega) ?_;intro w1 hz1 hs1 hc1 hb1)
    |(with_reducible refine iT rfl rfl .u64 161 Tryz.underlying48 iI rfl rfl w.heap.size 0 (List.replicate (nl x+1) 0) (dg x) (by simp) rfl (fun _=>rfl) hc1 hs1 (hrx.below hb1) ?_;intro w2 hc2 ho2))
   rw[List.length_replicate] at ho2;have hb2:Below w.heap.size w w2:=ho2.belowOf hb1 (Nat.le_refl _);refine(sM w.heap.size 0 (nl x+1) _ (nl x+1) B (nl y) (dg y) d w2 (by rw[iE];simp) rfl hc2 (ho2.soft hs1) (Nat.le_refl _) (by omega) (hry.below hb2) ?hn (by omega) (pW (InR.replicate aM _) (aW x)) (aW y) ?hv).mono ?_
   case hn=>
    rintro b o rfl h;obtain⟨b',o',e,hb',_⟩:=hry.at_ h;injection e with e;injection e;omega
   case hv=>
    rw[iW _ _ (by rw[aJ];omega)];have h1:=fE aM (aW x);have h2:=fE aM (aW y);rw[aJ] at h1 h2;exact CC h1 (Int.lt_of_lt_of_le h2 (sK (by decide) (by omega)))
   rintro e w3 ⟨rfl,zs,hzl,hz,hv,hc3,ho3⟩;rw[iW _ _ (by rw[aJ];omega),bC,bC] at hv;have HV:=Lib.hid hv;have HL:=Lib.hid hzl;clear hv hzl;have hlt3:w.heap.size<w3.heap.size:=Nat.lt_of_lt_of_le hz1 (Nat.le_trans ho2.grown.size ho3.grown.size);go_wp2_with fail;refine(dI _ zs (nl x+1) (nl x+1) w3 HL.out (Rd.mk hlt3 hc3) (Nat.le_refl _) (by omega)).mono ?_;rintro e w4 ⟨rfl,rfl⟩;go_wp2;go_ret;exact⟨_,rfl,NatAt.trim (Rd.mk hlt3 hc3) hz (by rw[HV.out];omega) (by rw[HL.out];exact Nat.le_refl _) (Old.mk hlt3),From.new (Nat.le_refl _),ho3.belowOf hb2 (Nat.le_refl _)⟩
theorem nQ (x y:Nat) (vx vy:Value) (w:World) (hx:NatAt w vx x) (hy:NatAt w vy y) (bx:nl x≤17592186044415) (hle:y≤x):
  Calls Tryz.prog 125 #[vx,vy] w (fY w [vx,vy] (x-y)):=by
 obtain⟨A,c,rfl,hc,hrx,hox⟩:=hx;obtain⟨B,d,rfl,hd,hry,hoy⟩:=hy;have hm:=aX hle;by_cases h0:nl y=0
 ·obtain rfl:=mU h0;have e2:(((nl 0:Nat):Int)==0)=true:=by simp[cC]
  go_enter Tryz.func125,Tryz.ntmps125;go_wp2;go_ret;exact⟨_,rfl,⟨A,c,rfl,hc,hrx,hox⟩,From.mem (by simp),Below.refl _ _⟩
 ·have e2:(((nl y:Nat):Int)==0)=false:=by simp;omega
  go_enter Tryz.func125,Tryz.ntmps125;go_wp2_with fail;refine(LD A (dg x) c w hrx (by rw[aJ];omega)).mono ?_;rintro e w1 ⟨v1,rfl,⟨A1,c1,rfl,hc1,hr1⟩,hb1⟩;rcases hr1 with hr1|⟨g,rfl,hg,hs1,hcl⟩
  ·have:=congrArg List.length hr1;rw[aJ] at this;simp at this;omega
  go_wp2_with fail;refine(C7 g 0 (nl x) (dg x) c1 B (nl y) (dg y) d w1 rfl rfl hcl hs1 hc1 (by omega) (hry.below hb1) ?hn hm (aW x) (aW y) ?hv).mono ?_
  case hn=>
   rintro b o rfl h;obtain⟨b',o',e,hb',_⟩:=hry.at_ h;injection e with e;injection e;omega
  case hv=>rw[bC,bC];omega
  rintro e w3 ⟨rfl,zs,hzl,hz,hv,hc3,ho3⟩;rw[bC,bC] at hv;have HV:=Lib.hid hv;have HL:=Lib.hid hzl;clear hv hzl;have hlt3:g<w3.heap.size:=Nat.lt_of_lt_of_le hs1.lt ho3.grown.size;go_wp2_with fail;refine(dI _ zs (nl x) c1 w3 HL.out (Rd.mk hlt3 hc3) hc1 (by omega)).mono ?_;rintro e w4 ⟨rfl,rfl⟩;go_wp2;go_ret;exact⟨_,rfl,NatAt.trim (Rd.mk hlt3 hc3) hz (by rw[HV.out];omega) (by rw[HL.out];exact hc1) (Old.mk hlt3),From.new hg,ho3.belowOf hb1 hg⟩
end Go.Proofs.YtbhplgdbfmifkaaGreatDoor
