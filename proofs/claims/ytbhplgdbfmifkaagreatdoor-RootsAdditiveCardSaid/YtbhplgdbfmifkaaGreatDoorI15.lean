/-
  Contracts of functions that the statement reaches, and plain laws: DivV, DivW, DivX, DivY.
-/
import Derived.Test.YtbhplgdbfmifkaaGreatDoorI14
import Derived.Deep.RegionLaw
set_option linter.unusedVariables false
set_option linter.unusedSimpArgs false
set_option maxHeartbeats 8000000
set_option maxRecDepth 100000
namespace Go.Proofs.YtbhplgdbfmifkaaGreatDoor
open Go.RowKit Sos
theorem MV (n:Nat):aD aA (List.replicate n 18446744073709551615)=aA^n-1:=by
 induction n with
 |zero=>rfl
 |succ n ih=>
  rw[List.replicate_succ,val_cons,ih,Int.pow_succ];have:aA=18446744073709551616:=rfl;generalize aA^n=p;rw[this];omega
theorem MW (n:Nat):Canon aA (List.replicate n 18446744073709551615):=by
 refine⟨fun z hz=> ?_,?_⟩
 ·have:=List.eq_of_mem_replicate hz;subst this;exact⟨by decide,by decide⟩
 ·unfold gO;cases n with
  |zero=>simp
  |succ n=>simp[List.getLast?_replicate]
theorem MX {n k:Nat} {v:Int} (hk:k≤n):
  bJ ((List.replicate k v++List.replicate (n-k) 0).drop k) (List.replicate k v)=List.replicate (min k (n-k)) v++List.replicate (n-k-k) 0:=by
 rw[List.drop_append,List.drop_of_length_le (by simp)];unfold bJ;simp only[List.length_replicate,List.nil_append,Nat.sub_self,List.drop_zero,List.drop_replicate];rw[List.take_replicate];congr 2;omega
theorem MY {n k:Nat} {v:Int} (hk:k≤n):
  patch (List.replicate k v++List.replicate (n-k) 0) (bJ ((List.replicate k v++List.replicate (n-k) 0).drop k) (List.replicate k v)) k=
   List.replicate (k+min k (n-k)) v++List.replicate (n-(k+min k (n-k))) 0:=by
 rw[MX hk];unfold patch;have h1:(List.replicate (min k (n-k)) v++List.replicate (n-k-k) 0).length=n-k:=by simp;omega
 rw[h1,List.take_append_of_le_length (by simp),List.take_replicate,Nat.min_self,List.drop_of_length_le (by simp<;>omega),List.append_nil,←List.append_assoc,List.replicate_append_replicate];congr 2<;>omega
theorem MZ (x y:Nat) (hx:x<18446744073709551616) (hy:y<18446744073709551616) (h:x*y<18446744073709551616) (w:World):
  Calls Tryz.prog 222 #[.int .u64 x,.int .u64 y] w fun e w'=>e= .returned (.tuple #[.int .u64 0,.int .u64 ((x*y:Nat):Int)])∧w=w':=by
 refine(Tryz.bits_Mul x y hx hy w).mono fun e w' hh=>⟨?_,hh.2.symm⟩;rw[hh.1,Nat.div_eq_of_lt h,Nat.mod_eq_of_lt h];rfl
theorem N0 (n:Nat) (hy:n<18446744073709551616) (w:World):
  Calls Tryz.prog 222 #[.int .u64 1,.int .u64 n] w fun e w'=>e= .returned (.tuple #[.int .u64 0,.int .u64 n])∧w=w':=by
 have:=MZ 1 n (by omega) hy (by omega) w;rw[Nat.one_mul] at this;exact this
theorem N4 (v:Int) (n:Nat) (A:Option Addr) (c:Nat) (w:World) (h1:1≤n) (hlim:n≤aF) (hr:Rd .u64 w A [v]):
  Calls Tryz.prog 221 #[.slice A 1 c,.int .i64 n] w fun e w'=>∃g,e= .returned (.slice (some ⟨g,0,none⟩) n n)∧w.heap.size≤g∧g<w'.heap.size∧Cells .u64 w' g 0 (List.replicate n v)∧Below w.heap.size w w':=by
 unfold aF at hlim;have hmin:Nat.min 1 n=1:=Nat.min_eq_left h1;have hnn:¬(n:Int)<0:=by omega
 have hdec:decide ((9223372036854775807:Int)<(n:Int))=false:=by simp;omega
 go_enter Tryz.func221,Tryz.ntmps221
 go_wp2_with (first
  |(go_at_call 222;refine(N0 n (by omega) _).mono ?_;rintro e w' ⟨rfl,rfl⟩)
  |(at_make;refine gN rfl rfl .u64 161 8 Tryz.underlying48 eY n rfl rfl (by omega) (by omega) (by omega) (by omega) ?_;intro w1 hz1 hs1 hc1 hb1)
  |(with_reducible refine iT rfl (d:= .tmp 31) (s:= .tmp 32) rfl .u64 161 Tryz.underlying48 iI rfl rfl w.heap.size 0 (List.replicate n 0) [v] (by simp) rfl (fun _=>rfl) hc1 hs1 (hr.below hb1) ?_;intro w2 hc2 ho2))
 rw[List.length_replicate] at ho2;have hc2':Cells .u64 w2 w.heap.size 0 (List.replicate 1 v++List.replicate (n-1) 0):=by
  have e:bJ (List.replicate n (0:Int)) [v]=List.replicate 1 v++List.replicate (n-1) 0:=by
   rw[wF n _ (by simp;omega)];simp
  rw[e] at hc2;exact hc2
 have hb2:Below w.heap.size w w2:=ho2.belowOf hb1 (Nat.le_refl _);have hs2:=ho2.soft hs1;have hlt2:w.heap.size<w2.heap.size:=Nat.lt_of_lt_of_le hz1 ho2.grown.size;clear hc2 hc1 hs1 hb1
 go_loopw [8] (fun i wr=>∃k:Nat,1≤k∧k≤n∧i= .int .i64 k∧Cells .u64 wr w.heap.size 0 (List.replicate k v++List.replicate (n-k) 0)∧Soft wr w.heap.size∧Below w.heap.size w wr∧w.heap.size<wr.heap.size)
  (fun i _=>n-(intOf i).toNat)
 case atStart=>exact⟨1,Nat.le_refl _,h1,rfl,hc2',hs2,hb2,hlt2⟩
 case round=>
  clear hc2' hs2 hb2 hlt2;obtain⟨k,hk1,hk2,rfl,hc,hs,hb,hlt⟩:=hrel;by_cases hkn:k<n
  ·have hdst:Cells .u64 wr.drew w.heap.size k ((List.replicate k (v:Int)++List.replicate (n-k) 0).drop k):=by have:=hc.drop k;rwa [Nat.zero_add] at this
   have hsrc:Rd .u64 wr.drew (some ⟨w.heap.size,0,none⟩) (List.replicate k v):=by
    have:=hc.take k;rw[List.take_append_of_le_length (by simp),List.take_of_length_le (by simp)] at this;exact Rd.mk hlt this
   have hs':Soft wr.drew w.heap.size:=hs;have hcd:Cells .u64 wr.drew w.heap.size 0 (List.replicate k v++List.replicate (n-k) 0):=hc;have hdl:((List.replicate k (v:Int)++List.replicate (n-k) 0).drop k).length=n-k:=by simp
   have i1:¬n=k:=by omega
   have i2:k≤n:=by omega
   have HDL:=Lib.hid hdl;clear hdl;obtain⟨m,hm1,hm2,hm3,HM⟩:∃m:Nat,1≤m∧k+m≤n∧Nat.min k (n-k)=m∧Hid (min k (n-k)=m):=⟨min k (n-k),by omega,by omega,rfl,rfl⟩;go_wp2;go_region_law (refine JZ rfl (d:= .tmp 41) (s:= .tmp 44) (dT:=48) (sT:=48) rfl .u64 161 Tryz.underlying48 iI (dp:=some ⟨w.heap.size,k,none⟩) (dLen:=n-k) (dCap:=n-k) (sp:=some ⟨w.heap.size,0,none⟩) (sLen:=k) (sCap:=n) (by go_simp) (by go_simp) w.heap.size k _ (List.replicate k v) HDL.out List.length_replicate (fun _=>rfl) hdst hs' hsrc ?_;intro w3 hc3 ho3);rw[HDL.out] at ho3;have hc4:=ho3.patch hcd (by rw[iE,HDL.out]) hc3 (by simp);rw[MY i2,HM.out] at hc4;have hb4:Below w.heap.size w w3:=ho3.belowOf (hb.drew) (Nat.le_refl _);have hs4:=ho3.soft hs';have hlt4:w.heap.size<w3.heap.size:=Nat.lt_of_lt_of_le hlt ho3.grown.size;clear hc3 ho3 hdst hsrc hs';go_wp2;have hwr:IntKind.i64.wrap ((k:Int)+(m:Int))=((k+m:Nat):Int):=by
    have:((k+m:Nat):Int)<9223372036854775808:=by omega
    simp[IntKind.wrap,IntKind.bits,IntKind.signed];omega
   simp[Act.put,hwr];go_roundw
   case rel=>exact⟨k+m,by omega,by omega,by simp,hc4,hs4,hb4,hlt4⟩
   case measure=>simp[intOf];omega
  ·obtain rfl:k=n:=by omega
   have hc':Cells .u64 wr w.heap.size 0 (List.replicate k v):=by simpa using hc
   clear hc;go_wp2;go_ret;exact⟨_,rfl,Nat.le_refl _,hlt,hc',hb⟩
theorem N5 (n:Nat) (A:Option Addr) (c:Nat) (w:World) (h1:1≤n) (hlim:n≤aF) (hr:Rd .u64 w A [18446744073709551615]):
  Calls Tryz.prog 221 #[.slice A 1 c,.int .i64 n] w (fY w [] (BN^n-1)):=by
 refine(N4 18446744073709551615 n A c w h1 hlim hr).mono ?_;rintro e w' ⟨g,rfl,hg,hlt,hc,hb⟩;have hp:1≤BN^n:=Nat.pow_pos (by decide);have hna:=NatAt.of (n:=BN^n-1) (Rd.mk hlt hc) (MW n) (by rw[MV,←fO];omega) (c:=n) (by simp) (Old.mk hlt);rw[List.length_replicate] at hna;exact⟨_,rfl,hna,From.new hg,hb⟩
theorem CW (w:World) (n:Nat) (ty:TypeId):Rd .u64 (w.alloc (.cells #[.int .u64 n] ty)) (some ⟨w.heap.size,0,none⟩) [(n:Int)]:=by
 refine Rd.mk (by simp) ?_;intro i hi;obtain rfl:i=0:=by simpa using hi
 simp[go_sem]
theorem t8 (w:World) (n:Nat) (h0:n≠0) (hn:n<BN) (ty:TypeId):NatAt (w.alloc (.cells #[.int .u64 n] ty)) (.slice (some ⟨w.heap.size,0,none⟩) 1 1) n:=by
 refine⟨_,1,by rw[gM h0 hn],by rw[gM h0 hn];exact Nat.le_refl _,?_,Old.mk (by simp)⟩;rw[m5 h0 hn];exact CW w n ty
theorem mD (w:World) (o:Obj):Below w.heap.size w (w.alloc o):=(Below.refl _ _).alloc (Nat.le_refl _) _
theorem MN {P L H y x:Nat} (hP:2≤P) (hev:P%2=0) (hy:y=P*H+L) (hL:L<P) (htop:P*P≤2*y) (hlt:x<y*P):
  P≤2*H∧x/P<y∧(x/P/P<H→x/P<H*P)∧(¬x/P/P<H→P*H≤x/P):=by
 have hxp:x/P<y:=Nat.div_lt_of_lt_mul (by rw[Nat.mul_comm];exact hlt);have h1:P≤2*H:=by
  have h2:P*P<P*(2*H+2):=by
   rw[Nat.mul_add];have:P*(2*H)=2*(P*H):=by grind
   omega
  have h3:=Nat.lt_of_mul_lt_mul_left h2;omega
 refine⟨h1,hxp,fun h=> ?_,fun h=> ?_⟩
 ·exact(Nat.div_lt_iff_lt_mul (by omega)).1 h
 ·have h6:=Nat.div_mul_le_self (x/P) P;have h7:P*H≤P*(x/P/P):=Nat.mul_le_mul_left _ (by omega);rw[Nat.mul_comm P (x/P/P)] at h7;omega
theorem MO {P L H y x q r:Nat} (hy:y=P*H+L) (heq:x/P=q*H+r):x+q*L=q*y+(x%P+P*r):=by
 have h:=Nat.div_add_mod x P;have:P*(x/P)=P*(q*H+r):=by rw[heq]
 subst hy;grind
theorem MP {P L H y x q r:Nat} (hy:y=P*H+L) (hr:r<H) (hP:0<P):x%P+P*r<q*L+y:=by
 have h1:=Nat.mod_lt x hP;have h2:P*(r+1)≤P*H:=Nat.mul_le_mul_left _ hr;rw[Nat.mul_add] at h2;omega
theorem MQ {P y x q r p:Nat} (hlt:x<y*P) (hq:q=P-1) (hP:0<P) (heq:x+p=q*y+r):r<p+y:=by
 have:y*P=q*y+y:=by
  obtain rfl:P=q+1:=by omega
  grind
 omega
theorem MR {x p q y r:Nat} (heq:x+p=q*y+r) (h1:p≤r) (h2:r<p+y):x/y=q∧x%y=r-p:=by
 have h3:x=q*y+(r-p):=by omega
 have h4:r-p<y:=by omega
 constructor
 ·rw[h3,Nat.mul_comm,Nat.mul_add_div (by omega),Nat.div_eq_of_lt h4,Nat.add_zero]
 ·rw[h3,Nat.mul_comm,Nat.mul_add_mod,Nat.mod_eq_of_lt h4]
theorem MS {x p q y r:Nat} (heq:x+p=q*y+r) (h1:r<p):1≤q∧x+p=(q-1)*y+(r+y):=by
 cases q with
 |zero=>simp at heq;omega
 |succ q=>refine⟨by omega,?_⟩;rw[heq,Nat.add_sub_cancel];grind
theorem MU (n:Nat) (h:1≤n):BN^n%2=0:=by
 obtain⟨m,rfl⟩:∃m,n=m+1:=⟨n-1,by omega⟩;rw[Nat.pow_succ,show BN=9223372036854775808*2 from rfl,←Nat.mul_assoc,Nat.mul_mod_left]
theorem tC (n:Nat) (h:1≤n):2≤BN^n:=by
 have:=Nat.pow_le_pow_right (n:=BN) (by decide) h;have:BN^1=BN:=Nat.pow_one _;have:=kI;omega
def tE (N:Nat):Prop:=∀(x y:Nat) (vx vy:Value) (w:World),nl y<N→NatAt w vx x→NatAt w vy y→nl y+nl y+2≤aF→BN^nl y≤2*y→x<y*BN^nl y→
 Calls Tryz.prog 208 #[vx,vy] w (mV w [vx,vy] x y)
theorem From.one {w w1:World} {vs:List Value} {a v:Value} (h:From w1 [a] v) (hs:w.heap.size≤w1.heap.size) (ha:From w vs a):From w vs v:=
 h.trans hs (fun u hu=>by rcases List.mem_singleton.1 hu with rfl;exact ha)
theorem From.two {w w1:World} {vs:List Value} {a b v:Value} (h:From w1 [a,b] v) (hs:w.heap.size≤w1.heap.size) (ha:From w vs a) (hb:From w vs b):From w vs v:=
 h.trans hs (fun u hu=>by
  rcases List.mem_cons.1 hu with rfl|hu
  ·exact ha
  ·rcases List.mem_singleton.1 hu with rfl;exact hb)
theorem From.wk {w w1:World} {vs:List Value} {v:Value} (h:From w1 [] v) (hs:w.heap.size≤w1.heap.size):From w vs v:=h.trans hs (fun u hu=>by cases hu)
theorem CX (N:Nat) (ih:tE N) (x y half:Nat) (vx vy:Value) (w:World) (hx:NatAt w vx x) (hy:NatAt w vy y) (hh1:1≤half) (hh2:half+half≤nl y) (hh3:nl y≤half+half) (hN:half<N)
  (hlim:nl y+nl y+2≤aF) (hlx:nl x≤nl y+half) (htop:BN^nl y≤2*y) (hlt:x<y*BN^half):
  Calls Tryz.prog 219 #[vx,vy] w (mV w [vx,vy] x y):=by
 unfold aF at hlim;obtain⟨B,d,rfl,hd,hry,hoy⟩:=id hy;obtain⟨b,o,rfl,hb,hcy⟩:=hry.at_ (by rw[aJ];omega);obtain⟨h2,hh2e,HH2⟩:∃h2:Nat,2*(half:Int)=(h2:Int)∧Hid (h2=half+half):=⟨half+half,by omega,rfl⟩;have hh2n:h2≤17592186044416:=by have:=HH2.out;omega
 have hhe:(nl y:Int)/2=(half:Int):=by omega
 have i1:¬d=half:=by omega
 have i3:half≤nl y:=by omega
 have i5:half≤d:=by omega
 have hl1:((dg y).take half).length=half:=by rw[List.length_take,aJ];omega
 have hr1:Rd .u64 w (some ⟨b,o,none⟩) ((dg y).take half):=hry.take half;have nlo:NatAt w (.slice (some ⟨b,o,none⟩) (trimL ((dg y).take half)).length d) (y%BN^half):=NatAt.trim hr1 ((aW y).take _) (nM y half) (by omega) hoy
 have nhi:NatAt w (.slice (some ⟨b,o+half,none⟩) (nl y-half) (d-half)) (y/BN^half):=
  ⟨_,_,by rw[gW],by rw[gW];omega,by rw[←oN];exact Rd.mk hb (hcy.drop half),Old.mk hb⟩
 have HM:=Lib.hid (MN (x:=x) (tC half hh1) (MU half hh1) (Nat.div_add_mod y (BN^half)).symm (Nat.mod_lt _ (Nat.pow_pos (by decide))) (by rw[←Nat.pow_add,show half+half=nl y by omega];exact htop) hlt);have HY:=Lib.hid (Nat.div_add_mod y (BN^half)).symm;have HLP:=Lib.hid (Nat.mod_lt y (Nat.pow_pos (n:=half) (show 0<BN by decide)));have nH:nl (y/BN^half)≤half:=by rw[gW];omega
 have nH':half≤nl (y/BN^half):=by rw[gW];omega
 have nL:nl (y%BN^half)≤half:=by have:=nN y half;omega
 have nT:nl (x/BN^half)≤nl y:=by rw[gW];omega
 have nT2:nl (x/BN^h2)≤nl x:=aX (Nat.div_le_self _ _);have nX:nl (x%BN^half)≤half:=by have:=nN x half;omega
 have HX2:Hid (x/BN^h2=x/BN^half/BN^half):=by unfold Hid;rw[Nat.div_div_eq_div_mul,←Nat.pow_add,HH2.out]
 have HL1:=Lib.hid hl1;have HT:=Lib.hid htop;have HLT:=Lib.hid hlt;clear hl1 htop hlt;generalize (dg y).take half=us at *;generalize hHe:y/BN^half=H at *;generalize hLe:y%BN^half=L at *;clear hHe hLe;have fhi:From w [vx,.slice (some ⟨b,o,none⟩) (nl y) d] (.slice (some ⟨b,o+half,none⟩) (nl y-half) (d-half)):=(From.mem (by simp)).shift (off:=o) (n:=nl y) (c:=d) (s:=none);have flo:From w [vx,.slice (some ⟨b,o,none⟩) (nl y) d] (.slice (some ⟨b,o,none⟩) (trimL us).length d):=(From.mem (by simp)).shift (off:=o) (n:=nl y) (c:=d) (s:=none);have fx:From w [vx,.slice (some ⟨b,o,none⟩) (nl y) d] vx:=From.mem (by simp);have fy:From w [vx,.slice (some ⟨b,o,none⟩) (nl y) d] (.slice (some ⟨b,o,none⟩) (nl y) d):=From.mem (by simp);go_enter Tryz.func219,Tryz.ntmps219;go_wp2;go_quiet ((go_at_call 127;exact sI (dI _ us half d _ HL1.out (hr1.drewN _) i5 (by omega))));generalize hvl:Value.slice (some ⟨b,o,none⟩) (trimL us).length d=vl at *;generalize hvh:Value.slice (some ⟨b,o+half,none⟩) (nl y-half) (d-half)=vh at *;clear hvl hvh;go_wp2_with fail;refine(tF x half vx _ (hx.drewN _) (by unfold aF;omega) (by unfold aF;omega)).mono ?_;rintro e w1 ⟨vt,rfl,hvt,hft,hb1'⟩;have hb1:Below w.heap.size w w1:=(cH (Below.refl _ _) _).trans hb1';have ft:From w [vx,.slice (some ⟨b,o,none⟩) (nl y) d] vt:=hft.one (Nat.le_refl _) fx;clear hb1' hft;generalize hvy:Value.slice (some ⟨b,o,none⟩) (nl y) d=vy at *;clear hvy hry hcy hoy hr1;generalize hFz:[vx,vy]=Fz at *;clear hFz;generalize hTe:x/BN^half=T at *;have HTE:=Lib.hid hTe;clear hTe;generalize hT2e:x/BN^h2=T2 at *;have HT2E:=Lib.hid hT2e;clear hT2e;go_wp2_with fail;refine(tF x h2 vx _ (hx.below hb1) (by unfold aF;omega) (by unfold aF;omega)).mono ?_;rintro e w2 ⟨vt2,rfl,hvt2,hft2,hb2⟩;rw[HT2E.out] at hvt2;clear hft2;go_wp2_with fail;refine(mA T2 H _ _ _ hvt2 ((nhi.below hb1).below hb2) (by omega) (by omega)).mono ?_;rintro e w3 ⟨rfl,hb3⟩;have hb13:Below w1.heap.size w1 w3:=aB hb2 hb3;have hb03:Below w.heap.size w w3:=aB hb1 hb13;have hvt3:=hvt.below hb13;have hvh3:=nhi.below hb03;have hvl3:=nlo.below hb03;have hvx3:=hx.below hb03;have hvy3:=hy.below hb03;clear hvt2 hb2 hb3 hb13 hb1 hvt nhi nlo hx hy;go_upto_if 32 with (fail);go_cut [10,11] (fun q r wx=>∃(q0 r0:Nat),NatAt wx q q0∧NatAt wx r r0∧nl q0≤half∧nl r0≤half+1∧From w Fz q∧Below w3.heap.size w3 wx∧Hid (T=q0*H+r0)∧Hid (q0<BN^half)∧Hid (r0<H∨q0=BN^half-1))
 case first=>
  by_cases hc:T2<H
  ·have hcm:bM (T2:Int) (H:Int)= -1:=iX (by omega);have hTH:T<H*BN^half:=HM.out.2.2.1 (by rw[←HX2.out];exact hc);have HTH:=Lib.hid hTH;clear hTH;go_wp2_with fail;refine(ih T H _ _ _ (by omega) hvt3 hvh3 (by unfold aF;omega) ?_ ?_).mono ?_
   ·rw[show nl H=half by omega];exact HM.out.1
   ·rw[show nl H=half by omega];exact HTH.out
   rintro e w4 ⟨vq,vr,rfl,hvq,hvr,hfq,hfr,hb4⟩;clear hcm;go_wp2;go_meet
   case rel=>
    have hH0:0<H:=by
     rcases Nat.eq_zero_or_pos H with h|h
     ·subst h;rw[cC] at nH';omega
     ·exact h
    have hq:T/H<BN^half:=Nat.div_lt_of_lt_mul HTH.out;have hr:=Nat.mod_lt T hH0;exact⟨T/H,T%H,hvq,hvr,bI hq,Nat.le_trans (aX (Nat.le_of_lt hr)) (by omega),hfq.two hb03.size ft fhi,hb4,by unfold Hid;rw[Nat.mul_comm,Nat.div_add_mod],hq,.inl hr⟩
  ·have hcm:bM (T2:Int) (H:Int)=0∨bM (T2:Int) (H:Int)=1:=by
    rcases iY (T2:Int) (H:Int) with h|h|h
    ·omega
    ·exact .inl h.2
    ·exact .inr h.2
   have hcc:¬bM (T2:Int) (H:Int)<0:=by rcases hcm with h|h<;>rw[h]<;>decide
   clear hcm;generalize bM (T2:Int) (H:Int)=cc at *;have hTH:BN^half*H≤T:=HM.out.2.2.2 (by rw[←HX2.out];exact hc);have HTH:=Lib.hid hTH;clear hTH;go_wp2_with fail;refine(N5 half _ _ _ hh1 (by unfold aF;omega) (CW w3 18446744073709551615 _)).mono ?_;rintro e w5 ⟨vq,rfl,hvq,hfq,hb5'⟩;have hb5:=(mD w3 _).trans (hb5'.mono (mD w3 _).size);clear hb5';go_wp2_with fail;refine(qD H 0 half _ _ _ (hvh3.below hb5) (NatAt.nil _) (by rw[cC];omega) (by unfold aF;omega)).mono ?_;rintro e w6 ⟨vj,rfl,hvj,hfj,hb6⟩;rw[Nat.zero_add] at hvj;clear hfj;go_wp2_with fail;refine(nQ T (BN^half*H) _ _ _ ((hvt3.below hb5).below hb6) hvj (by omega) HTH.out).mono ?_;rintro e w7 ⟨vs,rfl,hvs,hfs,hb7⟩;clear hfs;have nS:=aX (Nat.sub_le T (BN^half*H));have hb57:Below w5.heap.size w5 w7:=aB hb6 hb7;have hb37:Below w3.heap.size w3 w7:=aB hb5 hb57;go_wp2_with fail;refine(oQ (T-BN^half*H) H _ _ _ hvs (hvh3.below hb37) (by omega) (by omega)).mono ?_;rintro e w8 ⟨va,rfl,hva,hfa,hb8⟩;clear hfa;go_wp2;go_meet
   case rel=>
    have hp:=tC half hh1;have hb58:=aB hb57 hb8;have hmh:=HM.out.2.1;have hy:=HY.out;have hlp:=HLP.out;refine⟨BN^half-1,T-BN^half*H+H,hvq.below hb58,hva,bI (by omega),bI ?_,hfq.wk (Nat.le_trans hb03.size (mD w3 _).size),aB hb37 hb8,?_,?_,.inr rfl⟩
    ·have h1:=bX H;have h2:BN^nl H≤BN^half:=Nat.pow_le_pow_right (by decide) nH;have h3:2*BN^half≤BN^(half+1):=by rw[Nat.pow_succ,Nat.mul_comm];exact Nat.mul_le_mul_left _ kI
     omega
    ·unfold Hid;rw[Nat.sub_mul,Nat.one_mul];have h4:=HTH.out;have h5:H≤BN^half*H:=Nat.le_mul_of_pos_left _ (by omega);omega
    ·unfold Hid;omega
 case rest=>
  obtain⟨q0,r0,hq0,hr0,nq0,nr0,fq,hb4,HE,HQ,HR⟩:=hcut;have hb04:Below w.heap.size w wc:=aB hb03 hb4;have hvl4:=hvl3.below hb4;have hvx4:=hvx3.below hb4;have hvy4:=hvy3.below hb4;clear hvl3 hvx3 hvy3 hvt3 hvh3 hb4 hb03;go_wp2_with fail;refine(mB q0 L _ _ _ hq0 hvl4 (by unfold aF;omega)).mono ?_;rintro e w5 ⟨vp,rfl,hvp,hfp,hb5⟩;have nP:=cJ q0 L;have fp:From w Fz vp:=hfp.two hb04.size fq flo;clear hfp hvl4;go_wp2_with fail;refine(wW x half _ _ (hvx4.below hb5) (by unfold aF;omega) (by unfold aF;omega)).mono ?_;rintro e w6 ⟨vo,rfl,hvo,hfo,hb6⟩;clear hfo;have hb46:Below wc.heap.size wc w6:=aB hb5 hb6;go_wp2_with fail;refine(qD r0 (x%BN^half) half _ _ _ (hr0.below hb46) hvo (by omega) (by unfold aF;omega)).mono ?_;rintro e w7 ⟨vr,rfl,hvr,hfr,hb7⟩;have hb47:=aB hb46 hb7;have hb57:=aB hb6 hb7;have hb07:=aB hb04 hb47;have fr:From w Fz vr:=hfr.wk (Nat.le_trans hb04.size hb46.size);have hq7:=hq0.below hb47;have hy7:=hvy4.below hb47;have hp7:=hvp.below hb57;have HS:=Lib.hid (MO (x:=x) (P:=BN^half) HY.out (HTE.out.trans HE.out));have HB:Hid (x%BN^half+BN^half*r0<q0*L+y):=by
   rcases HR.out with h|h
   ·exact MP HY.out h (by have:=tC half hh1;omega)
   ·exact MQ HLT.out h (by have:=tC half hh1;omega) HS.out
  have hPB:q0*L<BN^(nl y):=by
   rw[show nl y=half+half by omega,Nat.pow_add];exact Nat.mul_lt_mul'' HQ.out HLP.out
  have hPB2:∀r,r<q0*L+y→nl r≤nl y+1:=by
   intro r hr;refine bI ?_;have h1:=bX y;have h3:2*BN^nl y≤BN^(nl y+1):=by rw[Nat.pow_succ,Nat.mul_comm];exact Nat.mul_le_mul_left _ kI
   omega
  have HPB:=Lib.hid hPB2;clear hPB hPB2;generalize x%BN^half+BN^half*r0=R0 at *;generalize q0*L=p at *;clear hfr hb5 hb6 hb7 hb46 hb47 hb57 hvo hvp hq0 hr0 hvx4 hvy4;go_wp2;go_loopg [10,11] q0 (fun k q r wr=>∃(ri:Nat),NatAt wr q k∧NatAt wr r ri∧From w Fz q∧From w Fz r∧Below w7.heap.size w7 wr∧nl k≤half∧Hid (x+p=k*y+ri)∧Hid (ri<p+y))
  case atStart=>exact⟨R0,hq7,hvr,fq,fr,Below.refl _ _,nq0,HS,HB⟩
  case round=>
   obtain⟨ri,hq,hr,fq,fr,hbr,nk,HSk,HBk⟩:=hrel;have nri:=HPB.out ri HBk.out;have hpr:=hp7.below hbr;have hyr:=hy7.below hbr;go_wp2_with fail;refine(mA ri p _ _ _ hr hpr (by omega) (by omega)).mono ?_;rintro e w8 ⟨rfl,hb8⟩;by_cases hc:ri<p
   ·have hcm:bM (ri:Int) (p:Int)= -1:=iX (by omega);have HRD:=Lib.hid (MS HSk.out hc);have hk1:1≤gk:=HRD.out.1;go_wp2_with fail;refine(oQ ri y _ _ _ (hr.below hb8) (hyr.below hb8) (by omega) (by omega)).mono ?_;rintro e w9 ⟨va,rfl,hva,hfa,hb9⟩;have hb89:=aB hb8 hb9;have hb79:=aB hbr hb89;have fa:From w Fz va:=hfa.two (Nat.le_trans hb07.size (Nat.le_trans hbr.size hb8.size)) fr fy;have hq9:=hq.below hb89;clear hfa hcm;go_wp2_with fail;((refine(nQ gk 1 _ _ _ (hq9.below (mD _ _)) (t8 _ 1 (by decide) (by decide) _) (by omega) hk1).mono ?_));rintro e w10 ⟨vs,rfl,hvs,hfs,hb10'⟩;have hb10:=(mD w9 _).trans (hb10'.mono (mD w9 _).size);go_wp2;go_roundg (gk-1)
    case measure=>omega
    case rel=>
     refine⟨ri+y,hvs,hva.below hb10,hfs.two (Nat.le_trans (Nat.le_trans hb07.size hb79.size) (mD w9 _).size) fq (From.new (Nat.le_trans hb07.size hb79.size)),fa,aB hb79 hb10,Nat.le_trans (aX (Nat.sub_le _ _)) nk,HRD.out.2,by unfold Hid;omega⟩
   ·have hcc:¬bM (ri:Int) (p:Int)<0:=by
     rcases iY (ri:Int) (p:Int) with h|h|h
     ·omega
     ·rw[h.2];decide
     ·rw[h.2];decide
    have HEN:=Lib.hid (MR HSk.out (by omega) HBk.out);have hpri:p≤ri:=by omega
    generalize bM (ri:Int) (p:Int)=cc at *;go_wp2_with fail;refine(nQ ri p _ _ _ (hr.below hb8) (hpr.below hb8) (by omega) hpri).mono ?_;rintro e w9 ⟨va,rfl,hva,hfa,hb9⟩;have hb89:=aB hb8 hb9;have hb79:=aB hbr hb89;go_wp2;go_ret2;refine⟨_,_,rfl,?_,?_,fq,hfa.two (Nat.le_trans hb07.size (Nat.le_trans hbr.size hb8.size)) fr fp,aB hb07 hb79⟩
    ·rw[HEN.out.1];exact hq.below hb89
    ·rw[HEN.out.2];exact hva
theorem MJ {P y x:Nat} (hP:0<P) (hlt:x<y*(P*P)) (x1 x2:Nat) (h1:x1=x/P) (h2:x2=x%P+P*(x1%y)):
  x1<y*P∧x2<y*P∧x/y=x2/y+P*(x1/y)∧x%y=x2%y:=by
 have hy:0<y:=by
  rcases Nat.eq_zero_or_pos y with h|h
  ·subst h;omega
  ·exact h
 have e1:x=P*x1+x%P:=by rw[h1];exact(Nat.div_add_mod x P).symm
 have e2:x=y*(P*(x1/y))+x2:=by
  have:=Nat.div_add_mod x1 y;have h3:P*x1=P*(y*(x1/y)+x1%y):=by rw[this]
  grind
 refine⟨?_,?_,?_,?_⟩
 ·rw[h1];refine Nat.div_lt_of_lt_mul ?_;have:P*(y*P)=y*(P*P):=by grind
  omega
 ·have h3:=Nat.mod_lt x hP;have h4:P*(x1%y+1)≤P*y:=Nat.mul_le_mul_left _ (Nat.mod_lt x1 hy);rw[Nat.mul_add] at h4;rw[Nat.mul_comm y P];omega
 ·rw[e2,Nat.mul_add_div hy,Nat.add_comm]
 ·rw[e2,Nat.mul_add_mod]
theorem MK (N:Nat) (ih:tE N):tE (N+1):=by
 intro x y vx vy w hN hx hy hlim htop hlt;have hxl:nl x≤nl y+nl y:=by
  refine bI ?_;rw[Nat.pow_add];exact Nat.lt_of_lt_of_le hlt (Nat.mul_le_mul_right _ (Nat.le_of_lt (bX y)))
 have hy0:y≠0:=by intro h;subst h;simp at hlt
 obtain⟨B,d,hve,hd,hry,hoy⟩:=id hy;have HT:=Lib.hid htop;have HLT:=Lib.hid hlt;clear htop hlt;unfold aF at hlim;by_cases hsm:nl y<80∨nl y%2=1
 ·subst hve;have hsimple:=(CZ x y _ _ w hx hy hy0 (by unfold aF;omega) (by unfold aF;omega));rcases hsm with hsm|hsm
  ·go_enter Tryz.func208,Tryz.ntmps208;go_wp2_with fail;refine hsimple.mono ?_;rintro e w1 ⟨vq,vr,rfl,hq,hr,fq,fr,hb⟩;go_wp2;go_ret2;exact⟨_,_,rfl,hq,hr,fq,fr,hb⟩
  ·have hrem:((nl y:Int)%2==0)=false:=by simp;omega
   have hrem2:((nl y:Int)%2)=1:=by omega
   by_cases hs8:nl y<80
   ·go_enter Tryz.func208,Tryz.ntmps208;go_wp2_with fail;refine hsimple.mono ?_;rintro e w1 ⟨vq,vr,rfl,hq,hr,fq,fr,hb⟩;go_wp2;go_ret2;exact⟨_,_,rfl,hq,hr,fq,fr,hb⟩
   ·go_enter Tryz.func208,Tryz.ntmps208;go_wp2_with fail;refine hsimple.mono ?_;rintro e w1 ⟨vq,vr,rfl,hq,hr,fq,fr,hb⟩;go_wp2;go_ret2;exact⟨_,_,rfl,hq,hr,fq,fr,hb⟩
 ·obtain⟨half,hh2,hh3,hhe⟩:∃half:Nat,half+half≤nl y∧nl y≤half+half∧(nl y:Int)/2=(half:Int):=⟨nl y/2,by omega,by omega,by omega⟩;have hs8:¬nl y<80:=by omega
  have hrem:((nl y:Int)%2==0)=true:=by simp;omega
  have hrem2:((nl y:Int)%2)=0:=by omega
  clear hsm;obtain⟨x1,hx1⟩:∃x1,x1=x/BN^half:=⟨_,rfl⟩;obtain⟨x2,hx2⟩:∃x2,x2=x%BN^half+BN^half*(x1%y):=⟨_,rfl⟩;have hm:=MJ (P:=BN^half) (Nat.pow_pos (by decide)) (by rw[←Nat.pow_add,show half+half=nl y by omega];exact HLT.out) x1 x2 hx1 hx2;have nx1:nl x1≤nl y+half:=by rw[hx1,gW];omega
  have nx2:nl x2≤nl y+half:=by
   refine bI ?_;rw[Nat.pow_add];exact Nat.lt_of_lt_of_le hm.2.1 (Nat.mul_le_mul_right _ (Nat.le_of_lt (bX y)))
  have nxl:nl (x%BN^half)≤half:=by have:=nN x half;omega
  have nr1:nl (x1%y)≤nl y:=aX (Nat.le_of_lt (Nat.mod_lt _ (by omega)));have nq1:nl (x1/y)≤half:=bI (Nat.div_lt_of_lt_mul hm.1);have nq2:nl (x2/y)≤half:=bI (Nat.div_lt_of_lt_mul hm.2.1);have HX1:=Lib.hid hx1;have HX2:=Lib.hid hx2;have HM:=Lib.hid hm;clear hx1 hx2 hm;subst hve;go_enter Tryz.func208,Tryz.ntmps208;go_wp2_with fail;refine(tF x half _ _ hx (by unfold aF;omega) (by unfold aF;omega)).mono ?_;rintro e w1 ⟨v1,rfl,hv1,f1,hb1⟩;rw[←HX1.out] at hv1;have hy1:=hy.below hb1;have f1':From w [vx,Value.slice B (nl y) d] v1:=f1.one (Nat.le_refl _) (From.mem (by simp));clear f1;go_wp2_with fail;refine(CX N ih x1 y half _ _ _ hv1 hy1 (by omega) hh2 hh3 (by omega) (by unfold aF;omega) nx1 HT.out HM.out.1).mono ?_;rintro e w2 ⟨vq,vr,rfl,hq,hr,fq,fr,hb2⟩;have hb02:=aB hb1 hb2;have fq':From w [vx,Value.slice B (nl y) d] vq:=fq.two hb1.size f1' (From.mem (by simp));clear fq fr f1' hb2 hv1 hy1;go_wp2_with fail;refine(wW x half _ _ (hx.below hb02) (by unfold aF;omega) (by unfold aF;omega)).mono ?_;rintro e w3 ⟨vl,rfl,hvl,fl,hb3⟩;clear fl;go_wp2_with fail;refine(qD (x1%y) (x%BN^half) half _ _ _ (hr.below hb3) hvl (by omega) (by unfold aF;omega)).mono ?_;rintro e w4 ⟨vj,rfl,hvj,fj,hb4⟩;have fj':From w [vx,Value.slice B (nl y) d] vj:=fj.wk (Nat.le_trans hb02.size hb3.size);rw[←HX2.out] at hvj;have hb24:=aB hb3 hb4;have hb04:=aB hb02 hb24;have hy4:=hy.below hb04;go_wp2_with fail;refine(CX N ih x2 y half _ _ _ hvj hy4 (by omega) hh2 hh3 (by omega) (by unfold aF;omega) nx2 HT.out HM.out.2.1).mono ?_;rintro e w5 ⟨vq2,vr2,rfl,hq2,hr2,fq2,fr2,hb5⟩;have fr':From w [vx,Value.slice B (nl y) d] vr2:=fr2.two hb04.size fj' (From.mem (by simp));have hb25:=aB hb24 hb5;have hb05:=aB hb02 hb25;clear fq2 fr2 fj' fj hvj hvl hr;go_wp2_with fail;refine(qD (x1/y) (x2/y) half _ _ _ (hq.below hb25) hq2 (by omega) (by unfold aF;omega)).mono ?_;rintro e w6 ⟨vz,rfl,hvz,fz,hb6⟩;go_wp2;go_ret2;refine⟨_,_,rfl,?_,?_,fz.wk hb05.size,fr',aB hb05 hb6⟩
  ·rw[HM.out.2.2.1];exact hvz
  ·rw[HM.out.2.2.2];exact hr2.below hb6
theorem ML (N:Nat):tE N:=by
 induction N with
 |zero=>intro x y vx vy w h;omega
 |succ N ih=>exact MK N ih
theorem MM (x y:Nat) (vx vy:Value) (w:World) (hx:NatAt w vx x) (hy:NatAt w vy y) (hlim:nl y+nl y+2≤aF) (htop:BN^nl y≤2*y) (hlt:x<y*BN^nl y):
  Calls Tryz.prog 208 #[vx,vy] w (mV w [vx,vy] x y):=ML _ x y vx vy w (Nat.lt_succ_self _) hx hy hlim htop hlt
theorem MB {y s:Nat} (hy0:y≠0) (hs:s<64) (hs3:2^63≤y/BN^(nl y-1)*2^s) (hs4:y/BN^(nl y-1)*2^s<BN):
  BN^nl y≤2*(y*2^s)∧y*2^s<BN^nl y:=by
 have h1:=CM hy0 (by omega) hs4;have h2:=bX (y*2^s);rw[h1] at h2;refine⟨?_,h2⟩;have h3:=eQ hy0;obtain⟨m,hm⟩:∃m,nl y=m+1:=⟨nl y-1,by omega⟩;rw[hm,Nat.add_sub_cancel] at hs3;rw[hm,Nat.pow_succ];have h4:=Nat.div_mul_le_self y (BN^m);have h5:(y/BN^m*2^s)*BN^m≤y*2^s:=by
  have:(y/BN^m*2^s)*BN^m=(y/BN^m*BN^m)*2^s:=by grind
  rw[this];exact Nat.mul_le_mul_right _ h4
 have h6:2^63*BN^m≤(y/BN^m*2^s)*BN^m:=Nat.mul_le_mul_right _ hs3;have h7:BN^m*BN=2*(2^63*BN^m):=by rw[show BN=2*2^63 from rfl];grind
 omega
theorem MC {y s n size:Nat} (hn:n≤size) (h1:BN^n≤2*(y*2^s)) (h2:y*2^s<BN^n) (hs1:1≤size):
  BN^size≤2*(y*2^(64*(size-n)+s))∧nl (y*2^(64*(size-n)+s))=size:=by
 have e:y*2^(64*(size-n)+s)=(y*2^s)*BN^(size-n):=by rw[qA];grind
 rw[e];have e2:BN^size=BN^n*BN^(size-n):=by rw[←Nat.pow_add];congr 1;omega
 generalize y*2^s=z at *;have hp:0<BN^(size-n):=Nat.pow_pos (by decide);have h3:BN^size≤2*(z*BN^(size-n)):=by
  rw[e2,←Nat.mul_assoc];exact Nat.mul_le_mul_right _ h1
 refine⟨h3,Nat.le_antisymm (bI ?_) ?_⟩
 ·rw[e2];exact Nat.mul_lt_mul_of_pos_right h2 hp
 ·rcases Nat.lt_or_ge (nl (z*BN^(size-n))) size with hl|hl
  ·exfalso;have h4:=bX (z*BN^(size-n));have h5:BN^nl (z*BN^(size-n))≤BN^(size-1):=Nat.pow_le_pow_right (by decide) (by omega);have h6:2*BN^(size-1)≤BN^size:=by
    obtain⟨m,rfl⟩:∃m,size=m+1:=⟨size-1,by omega⟩;rw[Nat.add_sub_cancel,Nat.pow_succ,Nat.mul_comm];exact Nat.mul_le_mul_left _ kI
   omega
  ·exact hl
theorem MD {x y k:Nat}:x*2^k/(y*2^k)=x/y∧x*2^k%(y*2^k)/2^k=x%y:=by
 have hk:0<2^k:=Nat.pow_pos (by decide);refine⟨Nat.mul_div_mul_right _ _ hk,?_⟩;rw[Nat.mul_mod_mul_right,Nat.mul_div_cancel _ hk]
theorem ME {E D dv:Nat} (hD:0<D) (hdv:0<dv):
  E%D+D*(E/D%dv)<dv*D∧E/dv=(E%D+D*(E/D%dv))/dv+D*(E/D/dv)∧E%dv=(E%D+D*(E/D%dv))%dv:=by
 have h1:=Nat.div_add_mod E D;have h2:=Nat.div_add_mod (E/D) dv;have e:E=dv*(D*(E/D/dv))+(E%D+D*(E/D%dv)):=by
  have h3:D*(E/D)=D*(dv*(E/D/dv)+E/D%dv):=by rw[h2]
  grind
 refine⟨?_,?_,?_⟩
 ·have h3:=Nat.mod_lt E hD;have h4:D*(E/D%dv+1)≤D*dv:=Nat.mul_le_mul_left _ (Nat.mod_lt _ hdv);rw[Nat.mul_add] at h4;rw[Nat.mul_comm dv D];omega
 ·conv=>lhs;rw[e]
  rw[Nat.mul_add_div hdv,Nat.add_comm]
 ·conv=>lhs;rw[e]
  rw[Nat.mul_add_mod]
theorem MF {a s:Nat} {ds hs:List Int} (hd:ds.length≤s):
  patch (List.replicate (a+s) 0++hs) (bJ ((List.replicate (a+s) 0++hs).drop a) ds) a=List.replicate a 0++(ds++List.replicate (s-ds.length) 0++hs):=by
 have e1:(List.replicate (a+s) (0:Int)++hs).drop a=List.replicate s 0++hs:=by
  rw[List.drop_append_of_le_length (by simp),List.drop_replicate,Nat.add_sub_cancel_left]
 rw[e1];unfold patch bJ;rw[List.take_of_length_le (l:=ds) (by simp;omega),List.drop_append_of_le_length (by simpa using hd),List.drop_replicate];rw[List.take_append_of_le_length (by simp),List.take_replicate,Nat.min_eq_left (by omega)];rw[List.drop_of_length_le (by simp;omega)];simp
theorem MG {s:Nat} {ds hs:List Int} (hd:ds.length≤s):aD aA (ds++List.replicate (s-ds.length) 0++hs)=aD aA ds+aA^s*aD aA hs:=by
 rw[gV,gV,iU,List.length_append,List.length_replicate,show ds.length+(s-ds.length)=s by omega];simp
theorem MH {n p:Nat} (hp:1≤p) (hpn:p≤n):∃c:Nat,((n:Int)+p-1)/(p:Int)=(c:Int)∧n≤c*p∧c*p<n+p∧1≤c∧c≤n∧(80≤c→p*2≤n):=by
 refine⟨(n+p-1)/p,?_,?_,?_,?_,?_,?_⟩
 ·rw[Int.natCast_ediv];congr 1;omega
 ·have:=Nat.div_add_mod (n+p-1) p;have:=Nat.mod_lt (n+p-1) (show 0<p by omega);rw[Nat.mul_comm];omega
 ·have:=Nat.div_mul_le_self (n+p-1) p;omega
 ·exact(Nat.le_div_iff_mul_le (by omega)).2 (by omega)
 ·refine Nat.div_le_of_le_mul ?_;have:p*n=n+(p-1)*n:=by
   obtain⟨k,rfl⟩:∃k,p=k+1:=⟨p-1,by omega⟩;simp;grind
  have:(p-1)*1≤(p-1)*n:=Nat.mul_le_mul_left _ (by omega);omega
 ·intro h;have h1:=(Nat.le_div_iff_mul_le (show 0<p by omega)).1 h;omega
theorem MI (x y:Nat) (vx vy:Value) (w:World) (hx:NatAt w vx x) (hy:NatAt w vy y) (hn80:80≤nl y) (hxy:nl y≤nl x) (hlim:nl x+4*nl y+4≤aF):
  Calls Tryz.prog 186 #[vx,vy] w (mV w [vx,vy] x y):=by
 unfold aF at hlim;obtain⟨B,d,rfl,hd,hry,hoy⟩:=id hy;obtain⟨b,o,rfl,hb,hcy⟩:=hry.at_ (by rw[aJ];omega);have hy0:y≠0:=by intro h;subst h;rw[cC] at hn80;omega
 have hx0:x≠0:=by intro h;subst h;rw[cC] at hxy;omega
 obtain⟨htw,htw0,htwB⟩:=sW hy0;obtain⟨s,hs1,hs2,hs3,hs4⟩:=sZ _ htw0 htwB;have HNF:=Lib.hid (MB hy0 hs1 hs3 hs4);have gtop:=hcy (nl y-1) (by rw[aJ];omega);rw[htw] at gtop;have hBc:=gU;generalize y/BN^(nl y-1)=a at *;have ha1:(a:Int)<aA:=by omega
 have ha0:0<(a:Int):=by omega
 have HS2:=Lib.hid hs2;clear htw hs3 hs4 htw0 htwB hBc hcy hs2;go_enter Tryz.func186,Tryz.ntmps186;go_wp2;go_loop [7] (fun i=>∃p:Nat,1≤p∧p≤nl y∧i= .int .i64 p) (fun i=>nl y-(intOf i).toNat)
 case atStart=>exact⟨1,Nat.le_refl _,by omega,rfl⟩
 case round=>
  obtain⟨p,hp1,hp2,rfl⟩:=hrel;obtain⟨c,hce,hc1,hc2,hc3,hc4,hc5⟩:=MH hp1 hp2;have hp0:¬p=0:=by omega
  by_cases hc80:80≤c
  ·have hp3:=hc5 hc80;clear gtop ha0 ha1 HNF HS2 hs1 hx0 hc1 hc2 hc5;go_wp2;go_round
   case rel=>exact⟨p*2,by omega,hp3,by go_num⟩
   case measure=>simp[intOf];omega
  ·have hc80':¬(80:Int)≤(c:Int):=by omega
   obtain⟨size,hze,hsz1,hsz2,HZE⟩:∃size:Nat,(c:Int)*(p:Int)=(size:Int)∧nl y≤size∧size<nl y+p∧Hid (size=c*p):=⟨c*p,by simp,hc1,hc2,rfl⟩;obtain⟨sh,hse,hsh2,HSE⟩:∃sh:Nat,64*((size:Int)-(nl y:Int))+(s:Int)=(sh:Int)∧sh<64*(size-nl y)+64∧Hid (sh=64*(size-nl y)+s):=⟨64*(size-nl y)+s,by omega,by omega,rfl⟩;clear hc1 hc2 hc5;have HDV:Hid (BN^size≤2*(y*2^sh)∧nl (y*2^sh)=size):=by
    unfold Hid;rw[HSE.out];exact MC hsz1 HNF.out.1 HNF.out.2 (by omega)
   go_wp2_with fail;refine(oS a s ha0 ha1 (by rw[Int.toNat_natCast];exact HS2.out) _).mono ?_;rintro e w1' ⟨rfl,rfl⟩;go_wp2_with fail;refine(t6 y sh _ _ hy (by omega) (by unfold aF;omega)).mono ?_;rintro e w1 ⟨v1,rfl,hv1,f1,hb1⟩;have fdv:From w [vx,Value.slice (some ⟨b,o,none⟩) (nl y) d] v1:=f1.one (Nat.le_refl _) (From.mem (by simp));clear f1;go_wp2_with fail;refine(t6 x sh _ _ (hx.below hb1) (by omega) (by unfold aF;omega)).mono ?_;rintro e w2 ⟨v2,rfl,hv2,f2,hb2⟩;clear f2;have hb02:=aB hb1 hb2;have hdv1:=hv1.below hb2;have HQ:=Lib.hid (MD (x:=x) (y:=y) (k:=sh));have hdv0:0<y*2^sh:=Nat.mul_pos (by omega) (Nat.pow_pos (by decide));have hdd0:0<x*2^sh:=Nat.mul_pos (by omega) (Nat.pow_pos (by decide));have ndd:nl (x*2^sh)≤nl x+(size-nl y)+1:=by
    refine bI ?_;rw[HSE.out,qA,Nat.add_assoc,Nat.pow_add,Nat.pow_succ];refine Nat.mul_lt_mul'' (bX x) (Nat.mul_lt_mul_of_pos_left ?_ (Nat.pow_pos (by decide)));rw[nV];exact Nat.pow_lt_pow_right (by decide) hs1
   generalize hdve:y*2^sh=dv at *;generalize hdde:x*2^sh=dd at *;clear hdve hdde hv1 hb1 hb2 gtop hse hze hce;have ndd0:=eQ (show dd≠0 by omega);obtain⟨J,hJe,hJ1,hJ2⟩:∃J:Nat,((nl dd:Int)-1)/(size:Int)=(J:Int)∧J*size+1≤nl dd∧nl dd≤J*size+size:=by
    have h1:=Nat.div_add_mod (nl dd-1) size;have h2:=Nat.mod_lt (nl dd-1) (show 0<size by omega);rw[Nat.mul_comm] at h1;exact⟨(nl dd-1)/size,by rw[Int.natCast_ediv];congr 1;omega,by omega,by omega⟩
   obtain⟨st,hste,HST⟩:∃st:Nat,(J:Int)*(size:Int)=(st:Int)∧Hid (st=J*size):=⟨J*size,by simp,rfl⟩;have hst1:st+1≤nl dd:=by have:=HST.out;omega
   have hst2:nl dd≤st+size:=by have:=HST.out;omega
   have hsz0:¬size=0:=by omega
   clear hJ1 hJ2;obtain⟨tot,ht1,ht2,HTOT⟩:∃tot:Nat,nl dd+size≤tot∧tot≤nl dd+size∧Hid (nl dd+size=tot):=⟨_,Nat.le_refl _,Nat.le_refl _,rfl⟩;obtain⟨A2,c2,rfl,hc2,hr2,ho2⟩:=id hv2;go_wp2_with (at_make;refine gN rfl rfl .u64 161 8 Tryz.underlying48 eY tot rfl rfl (by omega) (by omega) (by omega) (by omega) ?_;intro w3 hz3 hs3 hc3 hb3);generalize [vx,Value.slice (some ⟨b,o,none⟩) (nl y) d]=Fz at *;have hDV2:=HDV.out.2;have ndv:nl dv≤size:=by omega
   have HDL:=Lib.hid hDV2;clear hDV2 hr2 ho2 hJe hste;have hzpos:0<BN^size:=Nat.pow_pos (by decide)
   go_loopg [13,14] (J+1) (fun k r i wr=>∃(hs:List Int) (a2:Nat),i= .int .i64 ((a2:Int)-(size:Int))∧Hid (a2=k*size)∧a2≤st+size∧NatAt wr r (dd/BN^a2%dv)∧Cells .u64 wr w2.heap.size 0 (List.replicate a2 0++hs)∧Soft wr w2.heap.size∧w2.heap.size<wr.heap.size∧
     InR aA hs∧Hid (hs.length+a2=tot)∧Hid (aD aA hs=((dd/BN^a2/dv:Nat):Int))∧Below w2.heap.size w2 wr∧From w Fz r∧r.ownBlock≠some w2.heap.size)
   case atStart=>
    have hE:dd/BN^(st+size)=0:=Nat.div_eq_of_lt (Nat.lt_of_lt_of_le (bX dd) (Nat.pow_le_pow_right (by decide) hst2));refine⟨List.replicate (tot-(st+size)) 0,st+size,?_,?_,Nat.le_refl _,?_,?_,hs3,hz3,InR.replicate aM _,?_,?_,hb3,From.none,by simp[Value.ownBlock]⟩
    ·congr 1;omega
    ·unfold Hid;rw[HST.out];grind
    ·rw[hE,Nat.zero_mod];exact NatAt.nil _
    ·rw[List.replicate_append_replicate,show st+size+(tot-(st+size))=tot by omega];exact hc3
    ·unfold Hid;simp;omega
    ·unfold Hid;rw[hE,iU];simp
   case round=>
    obtain⟨hs,a2,rfl,HA2,ha2,hr,hcell,hsoft,hlt,hin,HLN,HVAL,hbr,fr,hrne⟩:=hrel;clear hs3 hc3 hz3 hb3;cases gk with
    |zero=>
     have h0:=HA2.out;rw[Nat.zero_mul] at h0;subst h0;have hi:((0:Nat):Int)-(size:Int)= -(size:Int):=by omega
     have hneg:¬(0:Int)≤ -(size:Int):=by omega
     simp only[hi];clear hi;have hr':NatAt wr u13 (dd%dv):=by rw[Nat.pow_zero,Nat.div_one] at hr;exact hr
     have hv':Hid (aD aA hs=((dd/dv:Nat):Int)):=by have:=HVAL.out;rw[Nat.pow_zero,Nat.div_one] at this;exact this
     have hl':Hid (hs.length=tot):=HLN.out;have hc':Cells .u64 wr w2.heap.size 0 hs:=by simpa using hcell
     clear hr HVAL HLN hcell HA2;have ndr:nl (dd%dv)≤nl dd:=aX (Nat.mod_le _ _);go_wp2_with fail;refine(dI _ hs tot tot _ hl'.out (Rd.mk hlt hc') (Nat.le_refl _) (by omega)).mono ?_;rintro e w4 ⟨rfl,rfl⟩;go_wp2_with fail;refine(CV (dd%dv) sh _ _ hr' (by omega) (by unfold aF;omega)).mono ?_;rintro e w5 ⟨v5,rfl,hv5,f5,hb5⟩;go_wp2;go_ret2;have hb0r:=aB hb02 hbr;refine⟨_,_,rfl,?_,?_,From.new hb02.size,f5.one hb0r.size fr,aB hb0r hb5⟩
     ·rw[←HQ.out.1];exact(NatAt.trim (Rd.mk hlt hc') hin hv'.out (by rw[hl'.out];exact Nat.le_refl _) (Old.mk hlt)).below hb5
     ·rw[←HQ.out.2];exact hv5
    |succ j=>
     obtain⟨a,HA,HAe⟩:∃a:Nat,Hid (a=j*size)∧a2=a+size:=⟨j*size,rfl,by have:=HA2.out;rw[Nat.succ_mul] at this;exact this⟩;subst HAe;have hi:((a+size:Nat):Int)-(size:Int)=(a:Int):=by omega
     simp only[hi];clear hi HA2;have hea:dd/BN^(a+size)=dd/BN^a/BN^size:=by rw[Nat.div_div_eq_div_mul,←Nat.pow_add]
     rw[hea] at hr;have HV:Hid (aD aA hs=((dd/BN^a/BN^size/dv:Nat):Int)):=by have:=HVAL.out;rw[hea] at this;exact this
     clear hea HVAL;have nE:nl (dd/BN^a)≤nl dd:=aX (Nat.div_le_self _ _);generalize hEe:dd/BN^a=E at *;have HEE:=Lib.hid hEe;clear hEe;have HB:=Lib.hid (ME (E:=E) hzpos hdv0);have nR:nl (E/BN^size%dv)≤size:=Nat.le_trans (aX (Nat.le_of_lt (Nat.mod_lt _ hdv0))) ndv;have nbl:nl (E%BN^size)≤size:=by have:=nN E size;omega
     have ndig:nl ((E%BN^size+BN^size*(E/BN^size%dv))/dv)≤size:=bI (Nat.div_lt_of_lt_mul HB.out.1);have hddr:=hv2.below hbr;have hdvr:=hdv1.below hbr;go_wp2_with fail;refine(tF dd a _ _ hddr (by unfold aF;omega) (by unfold aF;omega)).mono ?_;rintro e w4 ⟨v4,rfl,hv4,f4,hb4⟩;rw[HEE.out] at hv4;clear f4 hddr;go_wp2_with fail;refine(wW E size _ _ hv4 (by unfold aF;omega) (by unfold aF;omega)).mono ?_;rintro e w5 ⟨v5,rfl,hv5,f5,hb5⟩;clear f5 hv4;have hbr5:=aB hb4 hb5;go_wp2_with fail;refine(qD (E/BN^size%dv) (E%BN^size) size _ _ _ (hr.below hbr5) hv5 nbl (by unfold aF;omega)).mono ?_;rintro e w6 ⟨v6,rfl,hv6,f6,hb6⟩;clear hv5;have hbr6:=aB hbr5 hb6;go_wp2_with fail;refine(MM (E%BN^size+BN^size*(E/BN^size%dv)) dv _ _ _ hv6 (hdvr.below hbr6) (by unfold aF;omega) (by rw[HDL.out];exact HDV.out.1) (by rw[HDL.out];exact HB.out.1)).mono ?_;rintro e w7 ⟨v7,u7,rfl,hv7,hu7,f7,g7,hb7⟩;have hbr7:=aB hbr6 hb7;have h6ne:v6.ownBlock≠some w2.heap.size:=f6.ne (Nat.lt_of_lt_of_le hlt hbr5.size) (fun u hu=>by cases hu);have h1ne:v1.ownBlock≠some w2.heap.size:=by
      obtain⟨A1,c1,rfl,_,_,ho1⟩:=id hdv1;exact ho1.ne (Nat.le_refl _)
     have hlt6:w2.heap.size<w6.heap.size:=Nat.lt_of_lt_of_le hlt hbr6.size;have h7ne:=f7.ne2 hlt6 h6ne h1ne;have hu7ne:=g7.ne2 hlt6 h6ne h1ne;have hw6:w.heap.size≤w6.heap.size:=Nat.le_trans hb02.size (Nat.le_trans hbr.size hbr6.size);have fu7:From w Fz u7:=g7.two hw6 (f6.wk (Nat.le_trans hb02.size (Nat.le_trans hbr.size hbr5.size))) fdv;have hc7:=hcell.below hbr7 hlt;have hs7:=hsoft.below hbr7 hlt;have hlt7:w2.heap.size<w7.heap.size:=Nat.lt_of_lt_of_le hlt hbr7.size;have hb27:=aB hbr hbr7;clear hcell hsoft hlt hb4 hb5 hb6 hb7 hbr5 hbr6 hbr7 hv6 hr f6 f7 g7 h6ne h1ne hdvr hbr hrne fr hlt6 hw6;generalize hdge:(E%BN^size+BN^size*(E/BN^size%dv))/dv=gG at *;have HDG:=Lib.hid hdge;clear hdge;obtain⟨A7,c7,rfl,hcc7,hr7,ho7⟩:=hv7;have hzl:(List.replicate (a+size) (0:Int)++hs).length=tot:=by have:=HLN.out;simp;omega
     have HZL:=Lib.hid hzl;clear hzl;generalize hze:List.replicate (a+size) (0:Int)++hs=zs at *;have HZE2:=Lib.hid hze;clear hze;have hczd:Cells .u64 w7 w2.heap.size a (zs.drop a):=by have:=hc7.drop a;rwa [Nat.zero_add] at this
     have i1:¬tot=a:=by omega
     have i2:a≤tot:=by omega
     go_wp2_with (with_reducible refine iT rfl (d:= .tmp 88) (s:= .tmp 89) rfl .u64 161 Tryz.underlying48 iI rfl rfl w2.heap.size a (zs.drop a) (dg gG) (by rw[List.length_drop,HZL.out]) rfl (fun _=>rfl) hczd hs7 hr7 ?_;intro w8 hc8 ho8);rw[List.length_drop,HZL.out] at ho8;have hc8z:=ho8.patch hc7 (by rw[iE,List.length_drop,HZL.out]) hc8 (by have:=HZL.out;omega);rw[←HZE2.out,MF (by rw[aJ];exact ndig),aJ] at hc8z;go_wp2;go_roundg j
     case measure=>omega
     case rel=>
      refine⟨_,a,?_,HA,by omega,?_,hc8z,ho8.soft hs7,Nat.lt_of_lt_of_le hlt7 ho8.grown.size,?_,?_,?_,ho8.belowOf hb27 (Nat.le_refl _),fu7,hu7ne⟩
      ·congr 1
      ·rw[HEE.out,HB.out.2.2];obtain⟨A9,c9,rfl,hcc9,hr9,ho9⟩:=hu7;refine⟨_,_,rfl,hcc9,ho8.rd hr9 ?_,ho9.mono ho8.grown.size⟩;intro b' o' e _ hb';subst e hb';exact hu7ne rfl
      ·exact((aW gG).append (InR.replicate aM _)).append hin
      ·unfold Hid;have:=HLN.out;simp[aJ];omega
      ·unfold Hid;rw[←aJ,MG (by rw[aJ];exact ndig),bC,HV.out,HEE.out,HB.out.2.1,←fO];simp
theorem qC (x y:Nat) (vx vy:Value) (w:World) (hx:NatAt w vx x) (hy:NatAt w vy y) (hy0:y≠0) (hlim:nl x+4*nl y+4≤aF):
  Calls Tryz.prog 154 #[vx,vy] w (mV w [vx,vy] x y):=by
 have hS:=CZ x y vx vy w hx hy hy0 (by omega) (by omega);unfold aF at hlim;by_cases h:80≤nl y∧80+nl y≤nl x
 ·have hB:=MI x y vx vy w hx hy h.1 (by omega) (by unfold aF;omega);obtain⟨h1,h2⟩:=h;obtain⟨A,c,rfl,hc,hrx,hox⟩:=hx;obtain⟨B,d,rfl,hd,hry,hoy⟩:=hy;go_enter Tryz.func154,Tryz.ntmps154;go_wp2_with fail;refine hB.mono ?_;rintro e w1 ⟨vq,vr,rfl,hq,hr,fq,fr,hb⟩;go_wp2;go_ret2;exact⟨_,_,rfl,hq,hr,fq,fr,hb⟩
 ·obtain⟨A,c,rfl,hc,hrx,hox⟩:=hx;obtain⟨B,d,rfl,hd,hry,hoy⟩:=hy;by_cases h1:80≤nl y
  ·have h2:¬80+nl y≤nl x:=fun h2=>h ⟨h1,h2⟩;have h3:¬(80:Int)≤(nl x:Int)-(nl y:Int):=by omega
   clear h;go_enter Tryz.func154,Tryz.ntmps154;go_wp2_with fail;refine hS.mono ?_;rintro e w1 ⟨vq,vr,rfl,hq,hr,fq,fr,hb⟩;go_wp2;go_ret2;exact⟨_,_,rfl,hq,hr,fq,fr,hb⟩
  ·clear h;go_enter Tryz.func154,Tryz.ntmps154;go_wp2_with fail;refine hS.mono ?_;rintro e w1 ⟨vq,vr,rfl,hq,hr,fq,fr,hb⟩;go_wp2;go_ret2;exact⟨_,_,rfl,hq,hr,fq,fr,hb⟩
end Go.Proofs.YtbhplgdbfmifkaaGreatDoor
