/-
  Contracts of functions that the statement reaches, and plain laws: NatAt, WordsC, WordsD.
-/
import Derived.Test.YtlojjipfnejbnaaGreatDoorA03
import Derived.Test.YtlojjipfnejbnaaGreatDoorA04
set_option linter.unusedVariables false
set_option linter.unusedSimpArgs false
set_option maxHeartbeats 8000000
set_option maxRecDepth 100000
namespace Go.Proofs.YtlojjipfnejbnaaGreatDoor
open Go.RowKit Sos
def BN:Nat:=18446744073709551616
theorem BN_cast:(BN:Int)=B64:=rfl
theorem BN_two:2≤BN:=by decide
def dg (n:Nat):List Int:=dig BN n
def nl (n:Nat):Nat:=(dg n).length
theorem dg_len (n:Nat):(dg n).length=nl n:=rfl
theorem val_dg (n:Nat):val B64 (dg n)=n:=by rw[←BN_cast];exact val_dig BN n BN_two
theorem canon_dg (n:Nat):Canon B64 (dg n):=by rw[←BN_cast];exact canon_dig BN n BN_two
theorem inR_dg (n:Nat):InR B64 (dg n):=(canon_dg n).1
theorem dg_of_canon {zs:List Int} (h:Canon B64 zs):dg (val B64 zs).toNat=zs:=by
 unfold dg;rw[←BN_cast] at h⊢;exact dig_of_canon BN_two h
theorem dg_zero:dg 0=[]:=dig_zero BN
theorem nl_zero:nl 0=0:=by unfold nl;rw[dg_zero];rfl
theorem dg_trim {zs:List Int} (h:InR B64 zs) {n:Nat} (hv:val B64 zs=n):trimL zs=dg n:=by
 rw[←dg_of_canon (canon_trimL h),val_trimL,hv,Int.toNat_natCast]
theorem dg_eq {zs:List Int} (h:Canon B64 zs) {n:Nat} (hv:val B64 zs=n):zs=dg n:=by
 rw[←dg_of_canon h,hv,Int.toNat_natCast]
theorem pow_cast (m:Nat):((BN^m:Nat):Int)=B64^m:=by rw[Int.natCast_pow,BN_cast]
theorem lt_pow_nl (n:Nat):n<BN^nl n:=by
 have h:=val_lt B64_pos (inR_dg n)
 rw[val_dg,dg_len,←pow_cast] at h
 omega
theorem nl_le {n m:Nat} (h:n<BN^m):nl n≤m:=by
 rcases Nat.lt_or_ge m (nl n) with hl|hl
 ·have hne:dg n≠[]:=by intro e;rw[←dg_len,e] at hl;simp at hl
  have h1:=val_lower B64_gt1 (inR_dg n) (canon_dg n).2 hne
  rw[val_dg,dg_len,←pow_cast] at h1
  have h2:BN^m≤BN^(nl n-1):=Nat.pow_le_pow_right (by decide) (by omega)
  omega
 ·exact hl
theorem pow_nl_le {n:Nat} (h:n≠0):BN^(nl n-1)≤n:=by
 have hne:dg n≠[]:=by
  intro e
  have:=val_dg n
  rw[e] at this
  have h0:(n:Int)=0:=this.symm
  omega
 have h1:=val_lower B64_gt1 (inR_dg n) (canon_dg n).2 hne
 rw[val_dg,dg_len,←pow_cast] at h1
 omega
theorem nl_pos {n:Nat} (h:n≠0):0<nl n:=by
 rcases Nat.eq_zero_or_pos (nl n) with h0|h0
 ·have:=lt_pow_nl n
  rw[h0] at this;simp at this;omega
 ·exact h0
theorem nl_eq_zero {n:Nat} (h:nl n=0):n=0:=by
 rcases Nat.eq_zero_or_pos n with h0|h0
 ·exact h0
 ·have:=nl_pos (n:=n) (by omega);omega
theorem nl_mono {m n:Nat} (h:m≤n):nl m≤nl n:=nl_le (Nat.lt_of_le_of_lt h (lt_pow_nl n))
theorem nl_add (m n:Nat):nl (m+n)≤max (nl m) (nl n)+1:=by
 refine nl_le ?_
 have h1:=lt_pow_nl m
 have h2:=lt_pow_nl n
 have h3:BN^nl m≤BN^max (nl m) (nl n):=Nat.pow_le_pow_right (by decide) (by omega)
 have h4:BN^nl n≤BN^max (nl m) (nl n):=Nat.pow_le_pow_right (by decide) (by omega)
 rw[Nat.pow_succ]
 generalize BN^max (nl m) (nl n)=p at *
 have:p*2≤p*BN:=Nat.mul_le_mul_left _ BN_two
 omega
theorem nl_mul (m n:Nat):nl (m*n)≤nl m+nl n:=by
 rcases Nat.eq_zero_or_pos m with h0|h0
 ·subst h0;rw[Nat.zero_mul,nl_zero];omega
 ·refine nl_le ?_
  rw[Nat.pow_add]
  exact Nat.mul_lt_mul'' (lt_pow_nl m) (lt_pow_nl n)
theorem nl_one {n:Nat} (h0:n≠0) (h:n<BN):nl n=1:=by
 have h1:=nl_pos h0
 have h2:=nl_le (n:=n) (m:=1) (by simpa using h)
 omega
theorem dg_one {n:Nat} (h0:n≠0) (h:n<BN):dg n=[(n:Int)]:=by
 unfold dg
 rw[dig,dif_neg (by have:=BN_two;omega),Nat.mod_eq_of_lt h,Nat.div_eq_of_lt h,dig_zero]
def NatAt (w:World) (v:Value) (n:Nat):Prop:=∃A c,v= .slice A (nl n) c∧nl n≤c∧Rd .u64 w A (dg n)∧Old w A
def From (w:World) (vs:List Value) (v:Value):Prop:=∀b,v.ownBlock=some b→b<w.heap.size→∃u∈vs,u.ownBlock=some b
theorem From.mem {w:World} {vs:List Value} {v:Value} (h:v∈vs):From w vs v:=fun _ hb _=>⟨v,h,hb⟩
theorem From.new {w:World} {vs:List Value} {g off n c:Nat} {s:Option Nat} (h:w.heap.size≤g):From w vs (.slice (some ⟨g,off,s⟩) n c):=by
 intro b hb hlt
 have:g=b:=by simpa [Value.ownBlock] using hb
 omega
theorem From.none {w:World} {vs:List Value} {n c:Nat}:From w vs (.slice none n c):=by
 intro b hb;simp[Value.ownBlock] at hb
theorem From.trans {w w1:World} {vs us:List Value} {v:Value} (h:From w1 us v) (hs:w.heap.size≤w1.heap.size) (hu:∀u∈us,From w vs u):From w vs v:=by
 intro b hb hlt
 obtain⟨u,hm,hub⟩:=h b hb (by omega)
 exact hu u hm b hub hlt
theorem From.same {w:World} {vs:List Value} {A:Option Addr} {n c n' c':Nat} (h:From w vs (.slice A n c)):From w vs (.slice A n' c'):=by
 intro b hb hlt
 refine h b ?_ hlt
 cases A with
 |none=>simp[Value.ownBlock] at hb
 |some a=>simpa [Value.ownBlock] using hb
theorem From.shift {w:World} {vs:List Value} {b off off' n c n' c':Nat} {s s':Option Nat} (h:From w vs (.slice (some ⟨b,off,s⟩) n c)):From w vs (.slice (some ⟨b,off',s'⟩) n' c'):=by
 intro b' hb hlt
 exact h b' (by simpa [Value.ownBlock] using hb) hlt
theorem From.ne {w:World} {vs:List Value} {v:Value} (h:From w vs v) {g:Nat} (hg:g<w.heap.size) (hn:∀u∈vs,u.ownBlock≠some g):v.ownBlock≠some g:=by
 intro e
 obtain⟨u,hu,he⟩:=h g e hg
 exact hn u hu he
theorem From.ne2 {w:World} {a b v:Value} (h:From w [a,b] v) {g:Nat} (hg:g<w.heap.size) (ha:a.ownBlock≠some g) (hb:b.ownBlock≠some g):v.ownBlock≠some g:=
 h.ne hg (fun u hu=>by
  rcases List.mem_cons.1 hu with rfl|hu
  ·exact ha
  ·rcases List.mem_cons.1 hu with rfl|hu
   ·exact hb
   ·cases hu)
theorem From.swap {w:World} {a b v:Value} (h:From w [a,b] v):From w [b,a] v:=by
 intro g hg hlt
 obtain⟨u,hu,he⟩:=h g hg hlt
 refine⟨u,?_,he⟩
 rcases List.mem_cons.1 hu with rfl|hu
 ·exact List.mem_cons_of_mem _ (List.mem_cons_self ..)
 ·rcases List.mem_cons.1 hu with rfl|hu
  ·exact List.mem_cons_self ..
  ·cases hu
def RetNat (w:World) (vs:List Value) (n:Nat) (e:Ending) (w':World):Prop:=∃v,e= .returned v∧NatAt w' v n∧From w vs v∧Below w.heap.size w w'
theorem NatAt.below {w w':World} {v:Value} {n:Nat} (h:NatAt w v n) (hb:Below w.heap.size w w'):NatAt w' v n:=by
 obtain⟨A,c,hv,hc,hr,ho⟩:=h
 exact⟨A,c,hv,hc,hr.below hb,ho.mono hb.size⟩
theorem NatAt.drewN {w:World} {v:Value} {n:Nat} (h:NatAt w v n) (k:Nat):NatAt (w.drewN k) v n:=h
theorem NatAt.drew {w:World} {v:Value} {n:Nat} (h:NatAt w v n):NatAt w.drew v n:=h
theorem NatAt.nil (w:World):NatAt w (.slice none 0 0) 0:=⟨none,0,by rw[nl_zero],by rw[nl_zero];exact Nat.le_refl _,by rw[dg_zero];exact Rd.nil,Old.none⟩
theorem NatAt.of {w:World} {A:Option Addr} {zs:List Int} {c n:Nat} (hr:Rd .u64 w A zs) (hz:Canon B64 zs) (hv:val B64 zs=n) (hc:zs.length≤c) (ho:Old w A):NatAt w (.slice A zs.length c) n:=by
 have e:=dg_eq hz hv
 subst e
 exact⟨A,c,rfl,hc,hr,ho⟩
theorem NatAt.trim {w:World} {A:Option Addr} {zs:List Int} {c n:Nat} (hr:Rd .u64 w A zs) (hz:InR B64 zs) (hv:val B64 zs=n) (hc:zs.length≤c) (ho:Old w A):NatAt w (.slice A (trimL zs).length c) n:=by
 have e:=dg_trim hz hv
 have ht:=(trimL_take zs).1
 refine⟨A,c,?_,?_,?_,ho⟩
 ·rw[←dg_len,←e]
 ·rw[←dg_len,←e];have:=trimL_len zs;omega
 ·rw[←e,ht];exact hr.take _
theorem Only.belowOf {g off n:Nat} {w0 a b:World} (h:Only g off n a b) (h0:Below w0.heap.size w0 a) (hg:w0.heap.size≤g):Below w0.heap.size w0 b:=
 h0.trans (h.below h0.size hg)
theorem info64:(Tryz.prog.info? 118).map (fun i=>(i.zero,i.size,i.bytes))=some (some (.int .u64 0),1,8):=by kernel_rfl
theorem size64:(Tryz.prog.info? 118).map (·.size)=some 1:=by kernel_rfl
theorem fromWord_any (n:Nat) (hn:n<BN) (w:World):Calls Tryz.prog 91 #[.int .u64 n] w (RetNat w [] n):=by
 by_cases h0:n=0
 ·subst h0
  go_enter Tryz.func91,Tryz.ntmps91
  go_wp2
  go_ret
  exact⟨_,rfl,NatAt.nil _,From.none,Below.refl _ _⟩
 ·have h1:((n:Int)==0)=false:=by simp;omega
  go_enter Tryz.func91,Tryz.ntmps91
  go_wp2
  go_ret
  refine⟨_,rfl,⟨_,1,by rw[nl_one h0 hn];rfl,by rw[nl_one h0 hn];exact Nat.le_refl _,?_,Old.mk (by simp)⟩,From.new (Nat.le_refl _),(Below.refl _ _).alloc (Nat.le_refl _) _⟩
  rw[dg_one h0 hn]
  refine Rd.mk (by simp) ?_
  intro i hi
  obtain rfl:i=0:=by simpa using hi
  simp[go_sem]
def cmpI (x y:Int):Int:=if x<y then -1 else if y<x then 1 else 0
theorem cmpI_lt {x y:Int} (h:x<y):cmpI x y= -1:=by unfold cmpI;rw[if_pos h]
theorem cmpI_gt {x y:Int} (h:y<x):cmpI x y=1:=by unfold cmpI;rw[if_neg (by omega),if_pos h]
theorem cmpI_eq (x:Int):cmpI x x=0:=by unfold cmpI;rw[if_neg (by omega),if_neg (by omega)]
theorem cmpI_cases (x y:Int):(x<y∧cmpI x y= -1)∨(x=y∧cmpI x y=0)∨(y<x∧cmpI x y=1):=by
 rcases Int.lt_trichotomy x y with h|h|h
 ·exact .inl ⟨h,cmpI_lt h⟩
 ·subst h;exact .inr (.inl ⟨rfl,cmpI_eq x⟩)
 ·exact .inr (.inr ⟨h,cmpI_gt h⟩)
theorem cmpInt_any (x y:Int) (w:World):Calls Tryz.prog 172 #[.int .i64 x,.int .i64 y] w fun e w'=>e= .returned (.int .i64 (cmpI x y))∧w=w':=by
 rcases cmpI_cases x y with ⟨h1,e⟩|⟨h1,e⟩|⟨h1,e⟩
 ·rw[e];clear e
  go_enter Tryz.func172,Tryz.ntmps172
  go_wp2
  go_ret
  exact⟨rfl,rfl⟩
 ·rw[e];clear e;subst h1
  go_enter Tryz.func172,Tryz.ntmps172
  go_wp2
  go_ret
  exact⟨rfl,rfl⟩
 ·rw[e];clear e
  have h2:¬x<y:=by omega
  go_enter Tryz.func172,Tryz.ntmps172
  go_wp2
  go_ret
  exact⟨rfl,rfl⟩
theorem cmpU64_any (x y:Int) (w:World):Calls Tryz.prog 173 #[.int .u64 x,.int .u64 y] w fun e w'=>e= .returned (.int .i64 (cmpI x y))∧w=w':=by
 rcases cmpI_cases x y with ⟨h1,e⟩|⟨h1,e⟩|⟨h1,e⟩
 ·rw[e];clear e
  go_enter Tryz.func173,Tryz.ntmps173
  go_wp2
  go_ret
  exact⟨rfl,rfl⟩
 ·rw[e];clear e;subst h1
  go_enter Tryz.func173,Tryz.ntmps173
  go_wp2
  go_ret
  exact⟨rfl,rfl⟩
 ·rw[e];clear e
  have h2:¬x<y:=by omega
  go_enter Tryz.func173,Tryz.ntmps173
  go_wp2
  go_ret
  exact⟨rfl,rfl⟩
theorem cmp_top {xs ys:List Int} {k:Nat} (hx:InR B64 xs) (hy:InR B64 ys) (hl:xs.length=ys.length) (hk:k<xs.length) (hd:xs.drop (k+1)=ys.drop (k+1))
  (hlt:xs.getD k 0<ys.getD k 0):val B64 xs<val B64 ys:=by
 rw[val_take_drop B64 xs k (by omega),val_take_drop B64 ys k (by omega),val_drop_cons B64 xs k hk,val_drop_cons B64 ys k (by omega),hd]
 have h1:=val_lt B64_pos (hx.take k)
 have h2:=val_nonneg B64_pos (hy.take k)
 rw[List.length_take,Nat.min_eq_left (by omega)] at h1
 have h3:B64^k*(xs.getD k 0+B64*val B64 (ys.drop (k+1))+1)≤B64^k*(ys.getD k 0+B64*val B64 (ys.drop (k+1))):=
  Int.mul_le_mul_of_nonneg_left (by omega) (Int.le_of_lt (pow_pos' B64_pos k))
 rw[Int.mul_add _ _ 1,Int.mul_one] at h3
 omega
def RetI (w:World) (n:Int) (e:Ending) (w':World):Prop:=e= .returned (.int .i64 n)∧Below w.heap.size w w'
theorem compareWords_any (x y:Nat) (vx vy:Value) (w:World) (hx:NatAt w vx x) (hy:NatAt w vy y) (bx:nl x≤17592186044416) (bY:nl y≤17592186044416):
  Calls Tryz.prog 139 #[vx,vy] w (RetI w (cmpI x y)):=by
 obtain⟨A,c,rfl,hc,hrx,_⟩:=hx
 obtain⟨B,d,rfl,hd,hry,_⟩:=hy
 rcases Nat.lt_trichotomy (nl x) (nl y) with hl|hl|hl
 ·have e1:(nl x:Int)<nl y:=by omega
  have e2:((nl x:Int) != (nl y:Int))=true:=by simp;omega
  have e3:x<y:=by
   rcases Nat.lt_or_ge x y with h|h
   ·exact h
   ·have:=nl_mono h;omega
  go_enter Tryz.func139,Tryz.ntmps139
  go_wp2_with fail
  refine(cmpInt_any _ _ _).mono ?_
  rintro e w' ⟨rfl,rfl⟩
  go_wp2
  go_ret
  exact⟨by rw[cmpI_lt e1,cmpI_lt (show(x:Int)<y by omega)];rfl,Below.refl _ _⟩
 ·have e2:((nl x:Int) != (nl y:Int))=false:=by simp;omega
  have hX:=inR_dg x
  have hY:=inR_dg y
  have hvx:=val_dg x
  have hvy:=val_dg y
  have hlx:=dg_len x
  have hly:=dg_len y
  generalize dg x=xs at *
  generalize dg y=ys at *
  generalize nl x=n at *
  generalize nl y=m at *
  subst hl
  have HX:=Lib.hid hvx
  have HY:=Lib.hid hvy
  have HLX:=Lib.hid hlx
  have HLY:=Lib.hid hly
  clear hvx hvy hlx hly
  go_enter Tryz.func139,Tryz.ntmps139
  go_wp2
  go_loopw [5] (fun i wr=>∃q:Int, -1≤q∧q<n∧i= .int .i64 q∧Hid (xs.drop (q+1).toNat=ys.drop (q+1).toNat)∧Below w.heap.size w wr) (fun i _=>(intOf i+1).toNat)
  case atStart=>exact⟨(n:Int)-1,by omega,by omega,rfl,by
   have h1:=HLX.out
   have h2:=HLY.out
   rw[show((n:Int)-1+1).toNat=n by omega]
   unfold Hid
   rw[List.drop_of_length_le (by omega),List.drop_of_length_le (by omega)],Below.refl _ _⟩
  case round=>
   obtain⟨q,hq1,hq2,rfl,hdr,hbel⟩:=hrel
   by_cases h0:0≤q
   ·obtain⟨j,rfl⟩:=Int.eq_ofNat_of_zero_le h0
    obtain⟨b,off,rfl,hb,hcx⟩:=(hrx.below hbel).at_ (by have:=HLX.out;omega)
    obtain⟨b',off',rfl,hb',hcy⟩:=(hry.below hbel).at_ (by have:=HLY.out;omega)
    have h1:=hcx j (by have:=HLX.out;omega)
    have h2:=hcy j (by have:=HLY.out;omega)
    clear hcx hcy
    have hj:((j:Int)+1).toNat=j+1:=by omega
    rw[hj] at hdr
    have hdx:=fun (h:xs.getD j 0<ys.getD j 0)=>cmp_top hX hY (by have:=HLX.out;have:=HLY.out;omega) (by have:=HLX.out;omega) hdr.out h
    have hdy:=fun (h:ys.getD j 0<xs.getD j 0)=>cmp_top hY hX (by have:=HLX.out;have:=HLY.out;omega) (by have:=HLY.out;omega) hdr.out.symm h
    have hde:xs.getD j 0=ys.getD j 0→xs.drop j=ys.drop j:=fun h=>by
     have hlx:j<xs.length:=by have:=HLX.out;omega
     have hly:j<ys.length:=by have:=HLY.out;omega
     rw[List.drop_eq_getElem_cons hlx,List.drop_eq_getElem_cons hly,hdr.out]
     rw[List.getD_eq_getElem?_getD,List.getD_eq_getElem?_getD,List.getElem?_eq_getElem hlx,List.getElem?_eq_getElem hly] at h
     simp only[Option.getD_some] at h
     rw[h]
    generalize xs.getD j 0=a at *
    generalize ys.getD j 0=b0 at *
    have HDX:=Lib.hid hdx
    have HDY:=Lib.hid hdy
    have HDE:=Lib.hid hde
    clear hdx hdy hde hj
    by_cases hab:a=b0
    ·have hb0:(a != b0)=false:=by simp[hab]
     have HDE2:=Lib.hid (HDE.out hab)
     subst hab
     go_wp2
     go_quiet (fail)
     go_wp2
     go_roundw
     case rel=>exact⟨(j:Int)-1,by omega,by omega,rfl,by
      rw[show((j:Int)-1+1).toNat=j by omega];exact HDE2,below_drewN hbel _⟩
     case measure=>simp[intOf]
    ·have hb0:(a != b0)=true:=by simp[hab]
     have hcmp:cmpI a b0=cmpI x y:=by
      have hvx:=HX.out
      have hvy:=HY.out
      rcases Int.lt_trichotomy a b0 with h|h|h
      ·have:=HDX.out h
       rw[cmpI_lt h,cmpI_lt (by omega)]
      ·exact absurd h hab
      ·have:=HDY.out h
       rw[cmpI_gt h,cmpI_gt (by omega)]
     have HCMP:=Lib.hid hcmp
     clear hcmp hab
     go_wp2
     go_quiet (fail)
     go_wp2
     go_quiet ((go_at_call 173;exact quiet_left2 (cmpU64_any _ _ _)))
     go_wp2
     go_ret
     exact⟨by rw[←HCMP.out];rfl,below_drewN (below_drewN hbel _) _⟩
   ·obtain rfl:q= -1:=by omega
    go_wp2
    go_ret
    refine⟨?_,hbel⟩
    have hvx:=HX.out
    have hvy:=HY.out
    have e:xs=ys:=by simpa using hdr.out
    rw[show(x:Int)=y by rw[←hvx,←hvy,e],cmpI_eq];rfl
 ·have e1:(nl y:Int)<nl x:=by omega
  have e2:((nl x:Int) != (nl y:Int))=true:=by simp;omega
  have e3:y<x:=by
   rcases Nat.lt_or_ge y x with h|h
   ·exact h
   ·have:=nl_mono h;omega
  go_enter Tryz.func139,Tryz.ntmps139
  go_wp2_with fail
  refine(cmpInt_any _ _ _).mono ?_
  rintro e w' ⟨rfl,rfl⟩
  go_wp2
  go_ret
  exact⟨by rw[cmpI_gt e1,cmpI_gt (show(y:Int)<x by omega)];rfl,Below.refl _ _⟩
def RetOwn (w:World) (zs:List Int) (e:Ending) (w':World):Prop:=∃v,e= .returned v∧Own .u64 w' w.heap.size v zs∧Below w.heap.size w w'
theorem Rd.src {k:IntKind} {w:World} {A:Option Addr} {zs:List Int} (h:Rd k w A zs):Src w A (zs.map (Value.int k)):=by
 rcases h with rfl|⟨b,off,rfl,_,hc⟩
 ·exact .inl rfl
 ·exact .inr ⟨b,off,rfl,hc.vc⟩
theorem ownsRow_empty (w:World) (e:TypeId) (size:Nat):(w.alloc (.cells #[] e)).ownsRow w.heap.size e size (.slice (some ⟨w.heap.size,0,none⟩) 0 0) 0 []:=
 ⟨by simp,.inr ⟨w.heap.size,0,#[],rfl,Nat.le_refl _,heap_alloc_new w _,Nat.le_refl _,Nat.zero_le _,by simp,by simp⟩⟩
theorem clone64_any (A:Option Addr) (zs:List Int) (c:Nat) (w:World) (hs:Rd .u64 w A zs) (hl:zs.length*8≤140737488355328):
  Calls Tryz.prog 175 #[.slice A zs.length c] w (RetOwn w zs):=by
 cases A with
 |none=>
  have h0:zs=[]:=by
   rcases hs with h|⟨_,_,h,_⟩
   ·exact h
   ·cases h
  subst h0
  have hq:∀w:World,(binOp .eql 51 (.slice none 0 c) (.slice none 0 0)).run Tryz.prog w= .ok (.bool true) w:=fun w=>Lib.run_eql_slice_nil w _ 118 none 0 c 0 0 Tryz.underlying51
  go_enter Tryz.func175,Tryz.ntmps175
  go_wp2
  go_ret
  exact⟨_,rfl,⟨none,0,rfl,Nat.le_refl _,.inl rfl⟩,Below.refl _ _⟩
 |some ad=>
  have hq:∀w:World,(binOp .eql 51 (.slice (some ad) zs.length c) (.slice none 0 0)).run Tryz.prog w= .ok (.bool false) w:=fun w=>Lib.run_eql_slice_nil w _ 118 (some ad) zs.length c 0 0 Tryz.underlying51
  go_enter Tryz.func175,Tryz.ntmps175
  have hsrc:Src (w.alloc (.cells #[] 118)) (some ad) (zs.map (Value.int .u64)):=(hs.below ((Below.refl _ _).alloc (Nat.le_refl _) _)).src
  have hown0:=ownsRow_empty w 118 1
  go_wp2_with (at_builtin;refine wpList_append rfl rfl 118 _ 1 8 Tryz.underlying51 info64 rfl (by decide) w.heap.size (.slice (some ⟨w.heap.size,0,none⟩) 0 0) 0 [] rfl hown0 (zs.map (Value.int .u64)) rfl (by simp) hsrc (ints_oneCell _ _) (by omega) (by omega) (by simp) ?_;intro v1 w1 ho1 hg1 hat1)
  go_ret
  refine⟨v1,rfl,own_of_row (e:=118) (by simpa using ho1),?_⟩
  exact((Below.refl w.heap.size w).alloc (Nat.le_refl _) _).grown hg1 (by simp) (by simp[Value.ownBlock])
theorem over_zeros (n:Nat) (ys:List Int) (h:ys.length≤n):val B64 (over (List.replicate n 0) ys)=val B64 ys:=by
 unfold over
 rw[List.length_replicate,List.take_of_length_le h,List.drop_replicate,val_append,val_replicate]
 simp
theorem inR_over {xs ys:List Int} (hx:InR B64 xs) (hy:InR B64 ys):InR B64 (over xs ys):=(hy.take _).append (hx.drop _)
theorem pow_succ_lt {a b:Int} {n:Nat} (ha:a<B64^n) (hb:b<B64^n):a+b<B64^(n+1):=by
 rw[Int.pow_succ]
 have h0:=pow_pos' B64_pos n
 have:B64^n*2≤B64^n*B64:=Int.mul_le_mul_of_nonneg_left (by decide) (by omega)
 omega
theorem addWords_any (x y:Nat) (vx vy:Value) (w:World) (hx:NatAt w vx x) (hy:NatAt w vy y) (bx:nl x≤17592186044415) (bY:nl y≤17592186044415):
  Calls Tryz.prog 141 #[vx,vy] w (RetNat w [vx,vy] (x+y)):=by
 obtain⟨A,c,rfl,hc,hrx,hox⟩:=hx
 obtain⟨B,d,rfl,hd,hry,hoy⟩:=hy
 by_cases hlt:nl x<nl y
 ·by_cases h0:nl x=0
  ·obtain rfl:=nl_eq_zero h0
   rw[Nat.zero_add]
   have e1:((nl 0:Nat):Int)<nl y:=by omega
   have e2:(((nl 0:Nat):Int)==0)=true:=by simp[nl_zero]
   go_enter Tryz.func141,Tryz.ntmps141
   go_wp2
   go_ret
   exact⟨_,rfl,⟨B,d,rfl,hd,hry,hoy⟩,From.mem (by simp),Below.refl _ _⟩
  ·have e1:((nl x:Nat):Int)<nl y:=by omega
   have e2:(((nl x:Nat):Int)==0)=false:=by simp;omega
   go_enter Tryz.func141,Tryz.ntmps141
   go_wp2_with (first
    |(at_make;refine wpList_make_ints rfl rfl .u64 118 8 Tryz.underlying51 info64 (nl y+1) rfl rfl (by omega) (by omega) (by omega) (by omega) ?_;intro w1 hz1 hs1 hc1 hb1)
    |(with_reducible refine wpList_copy_ints rfl rfl .u64 118 Tryz.underlying51 size64 rfl rfl w.heap.size 0 (List.replicate (nl y+1) 0) (dg y) (by simp) rfl (fun _=>rfl) hc1 hs1 (hry.below hb1) ?_;intro w2 hc2 ho2))
   rw[List.length_replicate] at ho2
   have hb2:Below w.heap.size w w2:=ho2.belowOf hb1 (Nat.le_refl _)
   refine(addInto_at w.heap.size 0 (nl y+1) _ (nl y+1) A (nl x) (dg x) c w2 (by rw[length_over];simp) rfl hc2 (ho2.soft hs1) (Nat.le_refl _) (by omega) (hrx.below hb2) ?hn (by omega) (inR_over (InR.replicate B64_pos _) (inR_dg y)) (inR_dg x) ?hv).mono ?_
   case hn=>
    rintro b o rfl h
    obtain⟨b',o',e,hb',_⟩:=hrx.at_ h
    injection e with e;injection e;omega
   case hv=>
    rw[over_zeros _ _ (by rw[dg_len];omega)]
    have h1:=val_lt B64_pos (inR_dg y)
    have h2:=val_lt B64_pos (inR_dg x)
    rw[dg_len] at h1 h2
    exact pow_succ_lt h1 (Int.lt_of_lt_of_le h2 (ipow_mono (by decide) (by omega)))
   rintro e w3 ⟨rfl,zs,hzl,hz,hv,hc3,ho3⟩
   rw[over_zeros _ _ (by rw[dg_len];omega),val_dg,val_dg] at hv
   have HV:=Lib.hid hv
   have HL:=Lib.hid hzl
   clear hv hzl
   have hlt3:w.heap.size<w3.heap.size:=Nat.lt_of_lt_of_le hz1 (Nat.le_trans ho2.grown.size ho3.grown.size)
   go_wp2_with fail
   refine(trim_at _ zs (nl y+1) (nl y+1) w3 HL.out (Rd.mk hlt3 hc3) (Nat.le_refl _) (by omega)).mono ?_
   rintro e w4 ⟨rfl,rfl⟩
   go_wp2
   go_ret
   exact⟨_,rfl,NatAt.trim (Rd.mk hlt3 hc3) hz (by rw[HV.out];omega) (by rw[HL.out];exact Nat.le_refl _) (Old.mk hlt3),From.new (Nat.le_refl _),ho3.belowOf hb2 (Nat.le_refl _)⟩
 ·by_cases h0:nl y=0
  ·obtain rfl:=nl_eq_zero h0
   rw[Nat.add_zero]
   have e1:¬((nl x:Nat):Int)<((nl 0:Nat):Int):=by omega
   have e2:(((nl 0:Nat):Int)==0)=true:=by simp[nl_zero]
   go_enter Tryz.func141,Tryz.ntmps141
   go_wp2
   go_ret
   exact⟨_,rfl,⟨A,c,rfl,hc,hrx,hox⟩,From.mem (by simp),Below.refl _ _⟩
  ·have e1:¬((nl x:Nat):Int)<nl y:=by omega
   have e2:(((nl y:Nat):Int)==0)=false:=by simp;omega
   go_enter Tryz.func141,Tryz.ntmps141
   go_wp2_with (first
    |(at_make;refine wpList_make_ints rfl rfl .u64 118 8 Tryz.underlying51 info64 (nl x+1) rfl rfl (by omega) (by omega) (by omega) (by omega) ?_;intro w1 hz1 hs1 hc1 hb1)
    |(with_reducible refine wpList_copy_ints rfl rfl .u64 118 Tryz.underlying51 size64 rfl rfl w.heap.size 0 (List.replicate (nl x+1) 0) (dg x) (by simp) rfl (fun _=>rfl) hc1 hs1 (hrx.below hb1) ?_;intro w2 hc2 ho2))
   rw[List.length_replicate] at ho2
   have hb2:Below w.heap.size w w2:=ho2.belowOf hb1 (Nat.le_refl _)
   refine(addInto_at w.heap.size 0 (nl x+1) _ (nl x+1) B (nl y) (dg y) d w2 (by rw[length_over];simp) rfl hc2 (ho2.soft hs1) (Nat.le_refl _) (by omega) (hry.below hb2) ?hn (by omega) (inR_over (InR.replicate B64_pos _) (inR_dg x)) (inR_dg y) ?hv).mono ?_
   case hn=>
    rintro b o rfl h
    obtain⟨b',o',e,hb',_⟩:=hry.at_ h
    injection e with e;injection e;omega
   case hv=>
    rw[over_zeros _ _ (by rw[dg_len];omega)]
    have h1:=val_lt B64_pos (inR_dg x)
    have h2:=val_lt B64_pos (inR_dg y)
    rw[dg_len] at h1 h2
    exact pow_succ_lt h1 (Int.lt_of_lt_of_le h2 (ipow_mono (by decide) (by omega)))
   rintro e w3 ⟨rfl,zs,hzl,hz,hv,hc3,ho3⟩
   rw[over_zeros _ _ (by rw[dg_len];omega),val_dg,val_dg] at hv
   have HV:=Lib.hid hv
   have HL:=Lib.hid hzl
   clear hv hzl
   have hlt3:w.heap.size<w3.heap.size:=Nat.lt_of_lt_of_le hz1 (Nat.le_trans ho2.grown.size ho3.grown.size)
   go_wp2_with fail
   refine(trim_at _ zs (nl x+1) (nl x+1) w3 HL.out (Rd.mk hlt3 hc3) (Nat.le_refl _) (by omega)).mono ?_
   rintro e w4 ⟨rfl,rfl⟩
   go_wp2
   go_ret
   exact⟨_,rfl,NatAt.trim (Rd.mk hlt3 hc3) hz (by rw[HV.out];omega) (by rw[HL.out];exact Nat.le_refl _) (Old.mk hlt3),From.new (Nat.le_refl _),ho3.belowOf hb2 (Nat.le_refl _)⟩
theorem subtractWords_any (x y:Nat) (vx vy:Value) (w:World) (hx:NatAt w vx x) (hy:NatAt w vy y) (bx:nl x≤17592186044415) (hle:y≤x):
  Calls Tryz.prog 142 #[vx,vy] w (RetNat w [vx,vy] (x-y)):=by
 obtain⟨A,c,rfl,hc,hrx,hox⟩:=hx
 obtain⟨B,d,rfl,hd,hry,hoy⟩:=hy
 have hm:=nl_mono hle
 by_cases h0:nl y=0
 ·obtain rfl:=nl_eq_zero h0
  have e2:(((nl 0:Nat):Int)==0)=true:=by simp[nl_zero]
  go_enter Tryz.func142,Tryz.ntmps142
  go_wp2
  go_ret
  exact⟨_,rfl,⟨A,c,rfl,hc,hrx,hox⟩,From.mem (by simp),Below.refl _ _⟩
 ·have e2:(((nl y:Nat):Int)==0)=false:=by simp;omega
  go_enter Tryz.func142,Tryz.ntmps142
  go_wp2_with fail
  refine(clone64_any A (dg x) c w hrx (by rw[dg_len];omega)).mono ?_
  rintro e w1 ⟨v1,rfl,⟨A1,c1,rfl,hc1,hr1⟩,hb1⟩
  rcases hr1 with hr1|⟨g,rfl,hg,hs1,hcl⟩
  ·have:=congrArg List.length hr1
   rw[dg_len] at this;simp at this;omega
  go_wp2_with fail
  refine(subtractFrom_at g 0 (nl x) (dg x) c1 B (nl y) (dg y) d w1 rfl rfl hcl hs1 hc1 (by omega) (hry.below hb1) ?hn hm (inR_dg x) (inR_dg y) ?hv).mono ?_
  case hn=>
   rintro b o rfl h
   obtain⟨b',o',e,hb',_⟩:=hry.at_ h
   injection e with e;injection e;omega
  case hv=>rw[val_dg,val_dg];omega
  rintro e w3 ⟨rfl,zs,hzl,hz,hv,hc3,ho3⟩
  rw[val_dg,val_dg] at hv
  have HV:=Lib.hid hv
  have HL:=Lib.hid hzl
  clear hv hzl
  have hlt3:g<w3.heap.size:=Nat.lt_of_lt_of_le hs1.lt ho3.grown.size
  go_wp2_with fail
  refine(trim_at _ zs (nl x) c1 w3 HL.out (Rd.mk hlt3 hc3) hc1 (by omega)).mono ?_
  rintro e w4 ⟨rfl,rfl⟩
  go_wp2
  go_ret
  exact⟨_,rfl,NatAt.trim (Rd.mk hlt3 hc3) hz (by rw[HV.out];omega) (by rw[HL.out];exact hc1) (Old.mk hlt3),From.new hg,ho3.belowOf hb1 hg⟩
end Go.Proofs.YtlojjipfnejbnaaGreatDoor
