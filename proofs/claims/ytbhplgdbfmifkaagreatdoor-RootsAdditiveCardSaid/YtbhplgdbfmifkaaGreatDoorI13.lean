/-
  Contracts of functions that the statement reaches, and plain laws: GcdC.
-/
import Derived.Test.YtbhplgdbfmifkaaGreatDoorI11
import Derived.Test.YtbhplgdbfmifkaaGreatDoorI12
set_option linter.unusedVariables false
set_option linter.unusedSimpArgs false
set_option maxHeartbeats 8000000
set_option maxRecDepth 100000
namespace Go.Proofs.YtbhplgdbfmifkaaGreatDoor
open Go.RowKit Sos
theorem wO (x k:Nat):(dg x).getD k 0=((x/BN^k%BN:Nat):Int):=by
 rcases Nat.lt_or_ge k (nl x) with h|h
 ·have e:=iG aA (dg x) k (by rw[aJ];exact h);rw[pU,pU] at e;have hd:=(aW x).getD aM k;have e2:x/BN^(k+1)=x/BN^k/BN:=by rw[Nat.pow_succ,Nat.div_div_eq_div_mul]
  rw[e2] at e;have hB:aA=(BN:Int):=rfl;rw[hB] at e hd;generalize x/BN^k=T at *;generalize (dg x).getD k 0=d at *;have h1:=Nat.div_add_mod T BN;have h2:(T:Int)=BN*((T/BN:Nat):Int)+((T%BN:Nat):Int):=by rw[←Int.natCast_mul,←Int.natCast_add,h1]
  omega
 ·rw[List.getD_eq_getElem?_getD,List.getElem?_eq_none (by rw[aJ];exact h)];have:x<BN^k:=Nat.lt_of_lt_of_le (bX x) (Nat.pow_le_pow_right (by decide) h);rw[Nat.div_eq_of_lt this];rfl
theorem CH {T s:Nat} (hs:s<64):T/2^(64-s)=T/BN*2^s+T%BN/2^(64-s)∧T%BN/2^(64-s)<2^s:=by
 have e:BN=2^(64-s)*2^s:=by rw[←Nat.pow_add,show 64-s+s=64 by omega];rfl
 have hp:0<2^(64-s):=Nat.pow_pos (by decide);refine⟨?_,Nat.div_lt_of_lt_mul (by rw[←e];exact Nat.mod_lt _ (by decide))⟩;have h1:=Nat.div_add_mod T BN;conv=>lhs;rw[←h1]
 have h2:BN*(T/BN)=2^(64-s)*(T/BN*2^s):=by
  conv=>lhs;rw[e]
  grind
 rw[h2,Nat.mul_add_div hp]
theorem CI {a1 a0 s A:Nat} (hs:s<64) (h1:a1*2^s<BN) (h0:a0/2^(64-s)<2^s) (hA:A=a1*2^s+a0/2^(64-s)):
  bits .or .u64 (IntKind.u64.wrap ((a1:Int)*2^s)) ((a0:Int)/2^(64-s))=(A:Int):=by
 have e1:(a1:Int)*2^s=((a1*2^s:Nat):Int):=by push_cast;rfl
 have e0:(a0:Int)/2^(64-s)=((a0/2^(64-s):Nat):Int):=by push_cast;rfl
 have hB:=gU;have ew:IntKind.u64.wrap ((a1*2^s:Nat):Int)=((a1*2^s:Nat):Int):=by
  rw[IntKind.wrap_u64];have:a1*2^s<18446744073709551616:=h1;omega
 have hd:∃q:Int,((a1*2^s:Nat):Int)=2^s*q:=⟨(a1:Int),by push_cast;rw[Int.mul_comm]⟩;have e2:((2^s:Nat):Int)=2^s:=by push_cast;rfl
 rw[e1,ew,e0];generalize a1*2^s=X at *;generalize a0/2^(64-s)=Y at *;rw[CQ (z:=(Y:Int)) (y:=(X:Int)) (sh:=s) (by omega) (by omega) (by omega) (by omega) (by omega) hd,hA];push_cast;rfl
def LM (w:World) (a b:Nat) (e:Ending) (w':World):Prop:=∃(u0 u1 v0 v1:Nat) (odd:Bool),e= .returned (.agg #[.int .u64 u0,.int .u64 u1,.int .u64 v0,.int .u64 v1,.bool odd])∧
 u0<BN∧u1<BN∧v0<BN∧v1<BN∧(v0=0∨∃na nb,Leh a b u0 u1 v0 v1 odd na nb)∧Below w.heap.size w w'
theorem Blk.set {w:World} {g:Nat} {cs:List Value} (h:Blk w g cs) (i:Nat) (v:Value):Blk (w.setCell ⟨g,i,none⟩ v) g (cs.set i v):=by
 obtain⟨t,h⟩:=h;exact⟨t,by simp[World.setCell,Array.getElem?_modify,h]⟩
theorem Blk.soft {w:World} {g:Nat} {cs:List Value} (h:Blk w g cs):Soft w g:=by
 obtain⟨t,h⟩:=h;exact⟨_,t,h⟩
theorem Blk.drewN {w:World} {g:Nat} {cs:List Value} (h:Blk w g cs) (n:Nat):Blk (w.drewN n) g cs:=h
theorem Blk.drew {w:World} {g:Nat} {cs:List Value} (h:Blk w g cs):Blk w.drew g cs:=h
theorem Blk.new' (w:World) (cs:List Value) (t:TypeId) (g:Nat) (hg:w.heap.size=g):Blk (w.alloc (.cells cs.toArray t)) g cs:=by subst hg;exact Blk.new w cs t
theorem Blk.alloc {w:World} {g:Nat} {cs:List Value} (h:Blk w g cs) (o:Obj):Blk (w.alloc o) g cs:=h.keep (Below.heap_alloc w o g h.soft.lt)
def wQ (fA fB SB:Nat) (w:World) (p q u v:Value) (wr:World):Prop:=∃(f t u0 u1 u2 v0 v1 v2:Nat) (odd:Bool),p= .int .u64 f∧q= .int .u64 t∧u= .int .u64 u2∧v= .int .u64 v2∧
 Sim fA fB f t u1 u2 v1 v2 (dJ odd)∧(v0=0∨Prev fA fB u0 u1 v0 v1 (dJ odd))∧u0<18446744073709551616∧u1<18446744073709551616∧u2<18446744073709551616∧v0<18446744073709551616∧v1<18446744073709551616∧v2<18446744073709551616∧
 Blk wr (SB+1) [.int .u64 u0,.int .u64 u1,.int .u64 v0,.int .u64 v1,.bool odd]∧Blk wr SB [.int .u64 0,.int .u64 0,.int .u64 0,.int .u64 0,.bool false]∧Below w.heap.size w wr
theorem wR {fA fB f t u1 u2 v1 v2:Nat} {g:Int} (h:Sim fA fB f t u1 u2 v1 v2 g) (c1:v2≤t) (c2:v1+v2≤f-t) (hA:fA<18446744073709551616) (hF:f<18446744073709551616):
  ∃q r qu qv:Nat,q<18446744073709551616∧(f:Int)/(t:Int)=(q:Int)∧(f:Int)%(t:Int)=(r:Int)∧(q:Int)*(u2:Int)=(qu:Int)∧(q:Int)*(v2:Int)=(qv:Int)∧u1+qu<18446744073709551616∧v1+qv<18446744073709551616∧
   Sim fA fB t r u2 ((u1+qu:Nat):Int) v2 ((v1+qv:Nat):Int) (-g)∧(v1=0∨Prev fA fB u1 u2 v1 v2 (-g))∧r<t:=by
 have hv2:=h.hv2;have htf:=h.htf;have hs:=h.step (q:=(f:Int)/t) rfl (by omega) (by omega);have e1:(f:Int)/(t:Int)=((f/t:Nat):Int):=by push_cast;rfl
 have e2:(f:Int)%(t:Int)=((f%t:Nat):Int):=by push_cast;rfl
 rw[e1,e2] at hs;obtain⟨s1,s2,s3,s4,s5,s6,s7⟩:=hs;refine⟨f/t,f%t,f/t*u2,f/t*v2,Nat.lt_of_le_of_lt (Nat.div_le_self _ _) hF,e1,e2,by push_cast;rfl,by push_cast;rfl,?_,?_,?_,?_,Nat.mod_lt _ (by omega)⟩
 ·have:((u1+f/t*u2:Nat):Int)≤fA:=by push_cast;push_cast at s6 s7;omega
  omega
 ·have:((v1+f/t*v2:Nat):Int)≤fA:=by push_cast;push_cast at s7;omega
  omega
 ·have:((u1+f/t*u2:Nat):Int)=(u1:Int)+((f/t:Nat):Int)*u2:=by push_cast;rfl
  rw[this];have:((v1+f/t*v2:Nat):Int)=(v1:Int)+((f/t:Nat):Int)*v2:=by push_cast;rfl
  rw[this];exact s1
 ·rcases s2 with h|h
  ·left;omega
  ·exact .inr h
theorem oR (odd:Bool):dJ (!odd)= -dJ odd:=by cases odd<;>rfl
theorem CJ (a b:Nat) (va vb:Value) (w:World) (ha:NatAt w va a) (hb:NatAt w vb b) (hab:b≤a) (h2:2≤nl b) (hlim:nl a≤aF):
  Calls Tryz.prog 153 #[va,vb] w (LM w a b):=by
 unfold aF at hlim;have hnab:=aX hab;have ha0:a≠0:=by intro h;subst h;rw[cC] at hnab;omega
 obtain⟨A,c,rfl,hc,hra,hoa⟩:=ha;obtain⟨B,d,rfl,hd,hrb,hob⟩:=hb;obtain⟨ba,oa,rfl,hba,hca⟩:=hra.at_ (by rw[aJ];omega);obtain⟨bb,ob,rfl,hbb,hcb⟩:=hrb.at_ (by rw[aJ];omega);obtain⟨htw,htw0,htwB⟩:=sW ha0;obtain⟨s,hs1,hs2,hs3,hs4⟩:=sZ _ htw0 htwB;obtain⟨n,hn⟩:∃n,nl a=n+2:=⟨nl a-2,by omega⟩;have p1:a/BN^(nl a-1)=a/BN^n/BN:=by rw[Nat.div_div_eq_div_mul,←Nat.pow_succ];congr 2;omega
 have pb1:b/BN^(nl a-1)=b/BN^n/BN:=by rw[Nat.div_div_eq_div_mul,←Nat.pow_succ];congr 2;omega
 have g1:=hca (n+1) (by rw[aJ];omega);have g0:=hca n (by rw[aJ];omega);rw[wO] at g1 g0;have eA:a/BN^(n+1)=a/BN^n/BN:=by rw[Nat.div_div_eq_div_mul,←Nat.pow_succ]
 have eB:b/BN^(n+1)=b/BN^n/BN:=by rw[Nat.div_div_eq_div_mul,←Nat.pow_succ]
 have tA:=CH (T:=a/BN^n) hs1;have tB:=CH (T:=b/BN^n) hs1;have hTab:b/BN^n≤a/BN^n:=Nat.div_le_div_right hab;rw[p1] at hs2 hs3 hs4 htwB htw0;rw[eA] at g1;have eAm:a/BN^n/BN%BN=a/BN^n/BN:=Nat.mod_eq_of_lt htwB;rw[eAm] at g1;have hTb:b/BN^n/BN≤a/BN^n/BN:=Nat.div_le_div_right hTab;obtain⟨P,hP⟩:∃P,P=BN^n*2^(64-s):=⟨_,rfl⟩;have hP0:0<P:=by rw[hP];exact Nat.mul_pos (Nat.pow_pos (by decide)) (Nat.pow_pos (by decide))
 obtain⟨fA,hfA⟩:∃fA,fA=a/P:=⟨_,rfl⟩;obtain⟨fB,hfB⟩:∃fB,fB=b/P:=⟨_,rfl⟩;have hA1:fA=a/BN^n/BN*2^s+a/BN^n%BN/2^(64-s):=by rw[hfA,hP,←Nat.div_div_eq_div_mul];exact tA.1
 have hB1:fB=b/BN^n/BN*2^s+b/BN^n%BN/2^(64-s):=by rw[hfB,hP,←Nat.div_div_eq_div_mul];exact tB.1
 have hbs:b/BN^n/BN*2^s<BN:=Nat.lt_of_le_of_lt (Nat.mul_le_mul_right _ hTb) hs4;have orA:=CI hs1 hs4 tA.2 hA1;have orB:=CI hs1 hbs tB.2 hB1;have hfAB:fB≤fA:=by rw[hfA,hfB];exact Nat.div_le_div_right hab
 have hfAl:fA<18446744073709551616:=by
  have e:BN=2^(64-s)*2^s:=by rw[←Nat.pow_add,show 64-s+s=64 by omega];rfl
  have h1:a/BN^n/BN<2^(64-s):=by
   have:a/BN^n/BN*2^s<2^(64-s)*2^s:=by rw[←e];exact hs4
   exact Nat.lt_of_mul_lt_mul_right this
  have h2:(a/BN^n/BN+1)*2^s≤2^(64-s)*2^s:=Nat.mul_le_mul_right _ h1;rw[←e,Nat.add_mul] at h2;have h3:=tA.2;rw[hA1];show _<BN
  omega
 have hLeh:∀(u0 u1 v0 v1:Nat) (odd:Bool),Prev fA fB u0 u1 v0 v1 (if odd then -1 else 1)→∃na nb,Leh a b u0 u1 v0 v1 odd na nb:=by
  intro u0 u1 v0 v1 odd h;have:=JS h (Nat.mod_lt a hP0) (Nat.mod_lt b hP0);rw[hfA,hfB,Nat.mul_comm,Nat.div_add_mod,Nat.mul_comm,Nat.div_add_mod] at this;exact this
 have HLEH:=Lib.hid hLeh;have hBc:=gU;have hgb1:nl b=n+2→w.cell? ⟨bb,ob+(n+1),none⟩=some (.int .u64 ((b/BN^n/BN:Nat):Int)):=by
  intro h;have:=hcb (n+1) (by rw[aJ];omega);rw[wO,eB,Nat.mod_eq_of_lt (Nat.lt_of_le_of_lt hTb htwB)] at this;exact this
 have hgb0:n+1≤nl b→w.cell? ⟨bb,ob+n,none⟩=some (.int .u64 ((b/BN^n%BN:Nat):Int)):=by
  intro h;have:=hcb n (by rw[aJ];omega);rw[wO] at this;exact this
 have hB2:nl b=n+1→(fB:Int)=((b/BN^n%BN:Nat):Int)/2^(64-s):=by
  intro h;have h1:b/BN^n/BN=0:=by
   rw[Nat.div_div_eq_div_mul,←Nat.pow_succ];exact Nat.div_eq_of_lt (by have:=bX b;rw[h] at this;exact this)
  rw[hB1,h1,Nat.zero_mul,Nat.zero_add];push_cast;rfl
 have hB3:nl b<n+1→fB=0:=by
  intro h;have h1:b/BN^n=0:=Nat.div_eq_of_lt (Nat.lt_of_lt_of_le (bX b) (Nat.pow_le_pow_right (by decide) (by omega)));rw[hB1,h1];simp
 have ha1:(a/BN^n/BN:Nat)<aA:=by omega
 have ha00:(0:Int)<(a/BN^n/BN:Nat):=by omega
 generalize a/BN^n/BN=a1 at *;generalize a/BN^n%BN=a0 at *;generalize b/BN^n/BN=b1 at *;generalize b/BN^n%BN=b0 at *;have HS2:=Lib.hid hs2;have i1:((nl a:Int)-1).toNat=n+1:=by omega
 have i2:((nl a:Int)-2).toNat=n:=by omega
 clear p1 pb1 eA eB tA tB hTab hs2 hs3 hs4 htwB htw0 htw eAm hTb hP hfA hfB hA1 hB1 hbs hLeh hBc hca hcb hra hrb hoa hob;generalize BN^n=X at *;clear i1 i2;rw[hn] at hc hlim hnab⊢;clear hn;by_cases hb2:nl b=n+2
 ·have gb1:=hgb1 hb2;have gb0:=hgb0 (by omega);rw[hb2] at hd h2 hnab⊢;clear hgb1 hgb0 hB2 hB3 hb2;go_enter Tryz.func153,Tryz.ntmps153;go_wp2_with fail;refine(oS a1 s ha00 ha1 (by rw[Int.toNat_natCast];exact HS2.out) _).mono ?_;rintro e w1' ⟨rfl,rfl⟩;go_wp2_with fail;go_quiet (fail);go_wp2_with fail;go_quiet (fail);go_wp2_with fail;clear orA orB g1 g0 gb1 gb0 ha00 ha1 HS2 hs1;have hend:∀(u0 u1 v0 v1:Nat) (odd:Bool),v0=0∨Prev fA fB u0 u1 v0 v1 (dJ odd)→v0=0∨∃na nb,Leh a b u0 u1 v0 v1 odd na nb:=fun u0 u1 v0 v1 odd h=>h.imp id (fun h=>HLEH.out u0 u1 v0 v1 odd h);have HEND:=Lib.hid hend;clear hend HLEH;go_loopw [7,8,10,11] (fun p q u v wr=>wQ fA fB w.heap.size w p q u v wr) (fun _ q _ _ _=>(intOf q).toNat)
  case atStart=>
   refine⟨fA,fB,0,1,0,0,0,1,false,rfl,rfl,rfl,rfl,?_,.inl rfl,by decide,by decide,by decide,by decide,by decide,by decide,?_,?_,?_⟩
   ·have:=Sim.start (A:=(fA:Int)) (B:=(fB:Int)) (by omega) (by omega);simpa [dJ] using this
   ·exact Blk.new' _ [Value.int IntKind.u64 0,Value.int IntKind.u64 1,Value.int IntKind.u64 0,Value.int IntKind.u64 0,Value.bool false] 201 _ (by simp)
   ·exact((Blk.new w [Value.int IntKind.u64 0,Value.int IntKind.u64 0,Value.int IntKind.u64 0,Value.int IntKind.u64 0,Value.bool false] 201).drewN _).alloc _
   ·exact((cH ((Below.refl _ _).alloc (Nat.le_refl _) _) _).alloc (by simp) _)
  case round=>
   obtain⟨f,t,u0,u1,u2,v0,v1,v2,odd,rfl,rfl,rfl,rfl,hsim,hprev,bu0,bu1,bu2,bv0,bv1,bv2,hblk,hblk0,hbel⟩:=hrel;have hroom:=hsim.room;have htf:t≤f:=by have:=hsim.htf;omega
   have hv2:1≤v2:=by have:=hsim.hv2;omega
   have hfl:f<18446744073709551616:=by
    have h1:=hsim.sum;have h3:(1:Int)*f≤v2*f:=Int.mul_le_mul_of_nonneg_right (by omega) (by omega);have h4:(0:Int)≤v1*t:=Int.mul_nonneg (by omega) (by omega);omega
   have c0:=hblk.cell (i:=0) rfl;have c1:=hblk.cell (i:=1) rfl;have c2:=hblk.cell (i:=2) rfl;have c3:=hblk.cell (i:=3) rfl;have c4:=hblk.cell (i:=4) rfl;have hfr:=hblk.soft.free;have r0:=hblk0.cell (i:=0) rfl;have r1:=hblk0.cell (i:=1) rfl;have r2:=hblk0.cell (i:=2) rfl;have r3:=hblk0.cell (i:=3) rfl;have r4:=hblk0.cell (i:=4) rfl;have hfr0:=hblk0.soft.free;have HSIM:=Lib.hid hsim;have HPREV:=Lib.hid hprev;clear hsim hprev;by_cases k1:v2≤t
   ·have hvv:v1+v2≤fA:=by have:=hroom.1 (by omega);omega
    have k3:v1+v2<18446744073709551616:=by omega
    clear hroom;by_cases k2:v1+v2≤f-t
    ·obtain⟨q,r,qu,qv,bq,eq1,er1,equ,eqv,bqu,bqv,hsim',hprev',hrt⟩:=wR HSIM.out k1 k2 hfAl hfl;have ht0:¬t=0:=by omega
     have HS':=Lib.hid hsim';have HP':=Lib.hid hprev';clear hsim' hprev' HPREV HSIM;go_wp2_with fail;go_quiet (fail);go_wp2_with fail;go_roundw
     case rel=>
      refine⟨t,r,u1,u2,u1+qu,v1,v2,v1+qv,!odd,rfl,by rw[er1],by go_num,by go_num,?_,?_,bu1,bu2,bqu,bv1,bv2,bqv,?_,?_,?_⟩
      ·rw[oR];exact HS'.out
      ·rw[oR];exact HP'.out
      ·exact((((((hblk.drewN _).set 0 _).set 1 _).set 2 _).set 3 _).set 4 _)
      ·exact((((((hblk0.drewN _).other (by omega) _).other (by omega) _).other (by omega) _).other (by omega) _).other (by omega) _)
      ·exact((((((cH hbel _).setCell (by simp) _).setCell (by simp) _).setCell (by simp) _).setCell (by simp) _).setCell (by simp) _)
     case measure=>simp[intOf];omega
    ·have k2':¬(v1:Int)+v2≤f-t:=by omega
     go_wp2_with fail;have hz:=(((((hblk0.set 0 (.int .u64 u0)).set 1 (.int .u64 u1)).set 2 (.int .u64 v0)).set 3 (.int .u64 v1)).set 4 (.bool odd));have z0:=hz.cell (i:=0) rfl;have z1:=hz.cell (i:=1) rfl;have z2:=hz.cell (i:=2) rfl;have z3:=hz.cell (i:=3) rfl;have z4:=hz.cell (i:=4) rfl;have hbz:=(((((hbel.setCell (p:=⟨w.heap.size,0,none⟩) (by simp) (.int .u64 u0)).setCell (p:=⟨w.heap.size,1,none⟩) (by simp) (.int .u64 u1)).setCell (p:=⟨w.heap.size,2,none⟩) (by simp) (.int .u64 v0)).setCell (p:=⟨w.heap.size,3,none⟩) (by simp) (.int .u64 v1)).setCell (p:=⟨w.heap.size,4,none⟩) (by simp) (.bool odd));clear c0 c1 c2 c3 c4 r0 r1 r2 r3 r4 hfr hfr0 hblk hblk0 hz hbel;generalize World.setCell (World.setCell (World.setCell (World.setCell (World.setCell wr ⟨w.heap.size,0,none⟩ (.int .u64 u0)) ⟨w.heap.size,1,none⟩ (.int .u64 u1)) ⟨w.heap.size,2,none⟩ (.int .u64 v0)) ⟨w.heap.size,3,none⟩ (.int .u64 v1)) ⟨w.heap.size,4,none⟩ (.bool odd)=w5 at *;exact bodyPost_ret (v:= .agg #[.int .u64 u0,.int .u64 u1,.int .u64 v0,.int .u64 v1,.bool odd]) (by simp[results,Tryz.results153,go_sem,z0,z1,z2,z3,z4]) rfl ⟨u0,u1,v0,v1,odd,rfl,bu0,bu1,bv0,bv1,HEND.out _ _ _ _ _ HPREV.out,hbz⟩
   ·have k1':¬(v2:Int)≤t:=by omega
    clear hroom;go_wp2_with fail;have hz:=(((((hblk0.set 0 (.int .u64 u0)).set 1 (.int .u64 u1)).set 2 (.int .u64 v0)).set 3 (.int .u64 v1)).set 4 (.bool odd));have z0:=hz.cell (i:=0) rfl;have z1:=hz.cell (i:=1) rfl;have z2:=hz.cell (i:=2) rfl;have z3:=hz.cell (i:=3) rfl;have z4:=hz.cell (i:=4) rfl;have hbz:=(((((hbel.setCell (p:=⟨w.heap.size,0,none⟩) (by simp) (.int .u64 u0)).setCell (p:=⟨w.heap.size,1,none⟩) (by simp) (.int .u64 u1)).setCell (p:=⟨w.heap.size,2,none⟩) (by simp) (.int .u64 v0)).setCell (p:=⟨w.heap.size,3,none⟩) (by simp) (.int .u64 v1)).setCell (p:=⟨w.heap.size,4,none⟩) (by simp) (.bool odd));clear c0 c1 c2 c3 c4 r0 r1 r2 r3 r4 hfr hfr0 hblk hblk0 hz hbel;generalize World.setCell (World.setCell (World.setCell (World.setCell (World.setCell wr ⟨w.heap.size,0,none⟩ (.int .u64 u0)) ⟨w.heap.size,1,none⟩ (.int .u64 u1)) ⟨w.heap.size,2,none⟩ (.int .u64 v0)) ⟨w.heap.size,3,none⟩ (.int .u64 v1)) ⟨w.heap.size,4,none⟩ (.bool odd)=w5 at *;exact bodyPost_ret (v:= .agg #[.int .u64 u0,.int .u64 u1,.int .u64 v0,.int .u64 v1,.bool odd]) (by simp[results,Tryz.results153,go_sem,z0,z1,z2,z3,z4]) rfl ⟨u0,u1,v0,v1,odd,rfl,bu0,bu1,bv0,bv1,HEND.out _ _ _ _ _ HPREV.out,hbz⟩
 ·by_cases hb1:nl b=n+1
  ·have gb0:=hgb0 (by omega);have hfB:=hB2 hb1;rw[hb1] at hd h2 hnab⊢;have q1:((n:Int)+1==(n:Int)+2)=false:=by simp
   have q2:((n:Int)+1==(n:Int)+2-1)=true:=by simp;omega
   clear hgb1 hgb0 hB2 hB3 hb1 hb2 orB;go_enter Tryz.func153,Tryz.ntmps153;go_wp2_with fail;refine(oS a1 s ha00 ha1 (by rw[Int.toNat_natCast];exact HS2.out) _).mono ?_;rintro e w1' ⟨rfl,rfl⟩;go_wp2_with fail;go_quiet (fail);go_wp2_with (simp only[←hfB]);clear orA g1 g0 gb0 ha00 ha1 HS2 hs1 hfB q1 q2;have hend:∀(u0 u1 v0 v1:Nat) (odd:Bool),v0=0∨Prev fA fB u0 u1 v0 v1 (dJ odd)→v0=0∨∃na nb,Leh a b u0 u1 v0 v1 odd na nb:=fun u0 u1 v0 v1 odd h=>h.imp id (fun h=>HLEH.out u0 u1 v0 v1 odd h);have HEND:=Lib.hid hend;clear hend HLEH;go_loopw [7,8,10,11] (fun p q u v wr=>wQ fA fB w.heap.size w p q u v wr) (fun _ q _ _ _=>(intOf q).toNat)
   case atStart=>
    refine⟨fA,fB,0,1,0,0,0,1,false,rfl,rfl,rfl,rfl,?_,.inl rfl,by decide,by decide,by decide,by decide,by decide,by decide,?_,?_,?_⟩
    ·have:=Sim.start (A:=(fA:Int)) (B:=(fB:Int)) (by omega) (by omega);simpa [dJ] using this
    ·exact Blk.new' _ [Value.int IntKind.u64 0,Value.int IntKind.u64 1,Value.int IntKind.u64 0,Value.int IntKind.u64 0,Value.bool false] 201 _ (by simp)
    ·exact((Blk.new w [Value.int IntKind.u64 0,Value.int IntKind.u64 0,Value.int IntKind.u64 0,Value.int IntKind.u64 0,Value.bool false] 201).drewN _).alloc _
    ·exact((cH ((Below.refl _ _).alloc (Nat.le_refl _) _) _).alloc (by simp) _)
   case round=>
    obtain⟨f,t,u0,u1,u2,v0,v1,v2,odd,rfl,rfl,rfl,rfl,hsim,hprev,bu0,bu1,bu2,bv0,bv1,bv2,hblk,hblk0,hbel⟩:=hrel;have hroom:=hsim.room;have htf:t≤f:=by have:=hsim.htf;omega
    have hv2:1≤v2:=by have:=hsim.hv2;omega
    have hfl:f<18446744073709551616:=by
     have h1:=hsim.sum;have h3:(1:Int)*f≤v2*f:=Int.mul_le_mul_of_nonneg_right (by omega) (by omega);have h4:(0:Int)≤v1*t:=Int.mul_nonneg (by omega) (by omega);omega
    have c0:=hblk.cell (i:=0) rfl;have c1:=hblk.cell (i:=1) rfl;have c2:=hblk.cell (i:=2) rfl;have c3:=hblk.cell (i:=3) rfl;have c4:=hblk.cell (i:=4) rfl;have hfr:=hblk.soft.free;have r0:=hblk0.cell (i:=0) rfl;have r1:=hblk0.cell (i:=1) rfl;have r2:=hblk0.cell (i:=2) rfl;have r3:=hblk0.cell (i:=3) rfl;have r4:=hblk0.cell (i:=4) rfl;have hfr0:=hblk0.soft.free;have HSIM:=Lib.hid hsim;have HPREV:=Lib.hid hprev;clear hsim hprev;by_cases k1:v2≤t
    ·have hvv:v1+v2≤fA:=by have:=hroom.1 (by omega);omega
     have k3:v1+v2<18446744073709551616:=by omega
     clear hroom;by_cases k2:v1+v2≤f-t
     ·obtain⟨q,r,qu,qv,bq,eq1,er1,equ,eqv,bqu,bqv,hsim',hprev',hrt⟩:=wR HSIM.out k1 k2 hfAl hfl;have ht0:¬t=0:=by omega
      have HS':=Lib.hid hsim';have HP':=Lib.hid hprev';clear hsim' hprev' HPREV HSIM;go_wp2_with fail;go_quiet (fail);go_wp2_with fail;go_roundw
      case rel=>
       refine⟨t,r,u1,u2,u1+qu,v1,v2,v1+qv,!odd,rfl,by rw[er1],by go_num,by go_num,?_,?_,bu1,bu2,bqu,bv1,bv2,bqv,?_,?_,?_⟩
       ·rw[oR];exact HS'.out
       ·rw[oR];exact HP'.out
       ·exact((((((hblk.drewN _).set 0 _).set 1 _).set 2 _).set 3 _).set 4 _)
       ·exact((((((hblk0.drewN _).other (by omega) _).other (by omega) _).other (by omega) _).other (by omega) _).other (by omega) _)
       ·exact((((((cH hbel _).setCell (by simp) _).setCell (by simp) _).setCell (by simp) _).setCell (by simp) _).setCell (by simp) _)
      case measure=>simp[intOf];omega
     ·have k2':¬(v1:Int)+v2≤f-t:=by omega
      go_wp2_with fail;have hz:=(((((hblk0.set 0 (.int .u64 u0)).set 1 (.int .u64 u1)).set 2 (.int .u64 v0)).set 3 (.int .u64 v1)).set 4 (.bool odd));have z0:=hz.cell (i:=0) rfl;have z1:=hz.cell (i:=1) rfl;have z2:=hz.cell (i:=2) rfl;have z3:=hz.cell (i:=3) rfl;have z4:=hz.cell (i:=4) rfl;have hbz:=(((((hbel.setCell (p:=⟨w.heap.size,0,none⟩) (by simp) (.int .u64 u0)).setCell (p:=⟨w.heap.size,1,none⟩) (by simp) (.int .u64 u1)).setCell (p:=⟨w.heap.size,2,none⟩) (by simp) (.int .u64 v0)).setCell (p:=⟨w.heap.size,3,none⟩) (by simp) (.int .u64 v1)).setCell (p:=⟨w.heap.size,4,none⟩) (by simp) (.bool odd));clear c0 c1 c2 c3 c4 r0 r1 r2 r3 r4 hfr hfr0 hblk hblk0 hz hbel;generalize World.setCell (World.setCell (World.setCell (World.setCell (World.setCell wr ⟨w.heap.size,0,none⟩ (.int .u64 u0)) ⟨w.heap.size,1,none⟩ (.int .u64 u1)) ⟨w.heap.size,2,none⟩ (.int .u64 v0)) ⟨w.heap.size,3,none⟩ (.int .u64 v1)) ⟨w.heap.size,4,none⟩ (.bool odd)=w5 at *;exact bodyPost_ret (v:= .agg #[.int .u64 u0,.int .u64 u1,.int .u64 v0,.int .u64 v1,.bool odd]) (by simp[results,Tryz.results153,go_sem,z0,z1,z2,z3,z4]) rfl ⟨u0,u1,v0,v1,odd,rfl,bu0,bu1,bv0,bv1,HEND.out _ _ _ _ _ HPREV.out,hbz⟩
    ·have k1':¬(v2:Int)≤t:=by omega
     clear hroom;go_wp2_with fail;have hz:=(((((hblk0.set 0 (.int .u64 u0)).set 1 (.int .u64 u1)).set 2 (.int .u64 v0)).set 3 (.int .u64 v1)).set 4 (.bool odd));have z0:=hz.cell (i:=0) rfl;have z1:=hz.cell (i:=1) rfl;have z2:=hz.cell (i:=2) rfl;have z3:=hz.cell (i:=3) rfl;have z4:=hz.cell (i:=4) rfl;have hbz:=(((((hbel.setCell (p:=⟨w.heap.size,0,none⟩) (by simp) (.int .u64 u0)).setCell (p:=⟨w.heap.size,1,none⟩) (by simp) (.int .u64 u1)).setCell (p:=⟨w.heap.size,2,none⟩) (by simp) (.int .u64 v0)).setCell (p:=⟨w.heap.size,3,none⟩) (by simp) (.int .u64 v1)).setCell (p:=⟨w.heap.size,4,none⟩) (by simp) (.bool odd));clear c0 c1 c2 c3 c4 r0 r1 r2 r3 r4 hfr hfr0 hblk hblk0 hz hbel;generalize World.setCell (World.setCell (World.setCell (World.setCell (World.setCell wr ⟨w.heap.size,0,none⟩ (.int .u64 u0)) ⟨w.heap.size,1,none⟩ (.int .u64 u1)) ⟨w.heap.size,2,none⟩ (.int .u64 v0)) ⟨w.heap.size,3,none⟩ (.int .u64 v1)) ⟨w.heap.size,4,none⟩ (.bool odd)=w5 at *;exact bodyPost_ret (v:= .agg #[.int .u64 u0,.int .u64 u1,.int .u64 v0,.int .u64 v1,.bool odd]) (by simp[results,Tryz.results153,go_sem,z0,z1,z2,z3,z4]) rfl ⟨u0,u1,v0,v1,odd,rfl,bu0,bu1,bv0,bv1,HEND.out _ _ _ _ _ HPREV.out,hbz⟩
  ·obtain⟨m,hm⟩:∃m,m=nl b:=⟨_,rfl⟩;have hfB:=hB3 (by omega);have q1:((m:Int)==(n:Int)+2)=false:=by simp;omega
   have q2:((m:Int)==(n:Int)+2-1)=false:=by simp;omega
   rw[←hm] at hd h2 hnab⊢;subst hfB;clear hgb1 hgb0 hB2 hB3 hb1 hb2 orB hm;go_enter Tryz.func153,Tryz.ntmps153;go_wp2_with fail;refine(oS a1 s ha00 ha1 (by rw[Int.toNat_natCast];exact HS2.out) _).mono ?_;rintro e w1' ⟨rfl,rfl⟩;go_wp2_with fail;go_quiet (fail);go_wp2_with fail;clear orA g1 g0 ha00 ha1 HS2 hs1 q1 q2;have hend:∀(u0 u1 v0 v1:Nat) (odd:Bool),v0=0∨Prev fA (0:Nat) u0 u1 v0 v1 (dJ odd)→v0=0∨∃na nb,Leh a b u0 u1 v0 v1 odd na nb:=fun u0 u1 v0 v1 odd h=>h.imp id (fun h=>HLEH.out u0 u1 v0 v1 odd h);have HEND:=Lib.hid hend;clear hend HLEH;go_loopw [7,8,10,11] (fun p q u v wr=>wQ fA 0 w.heap.size w p q u v wr) (fun _ q _ _ _=>(intOf q).toNat)
   case atStart=>
    refine⟨fA,0,0,1,0,0,0,1,false,rfl,rfl,rfl,rfl,?_,.inl rfl,by decide,by decide,by decide,by decide,by decide,by decide,?_,?_,?_⟩
    ·have:=Sim.start (A:=(fA:Int)) (B:=((0:Nat):Int)) (by omega) (by omega);simpa [dJ] using this
    ·exact Blk.new' _ [Value.int IntKind.u64 0,Value.int IntKind.u64 1,Value.int IntKind.u64 0,Value.int IntKind.u64 0,Value.bool false] 201 _ (by simp)
    ·exact((Blk.new w [Value.int IntKind.u64 0,Value.int IntKind.u64 0,Value.int IntKind.u64 0,Value.int IntKind.u64 0,Value.bool false] 201).drewN _).alloc _
    ·exact((cH ((Below.refl _ _).alloc (Nat.le_refl _) _) _).alloc (by simp) _)
   case round=>
    obtain⟨f,t,u0,u1,u2,v0,v1,v2,odd,rfl,rfl,rfl,rfl,hsim,hprev,bu0,bu1,bu2,bv0,bv1,bv2,hblk,hblk0,hbel⟩:=hrel;have hroom:=hsim.room;have htf:t≤f:=by have:=hsim.htf;omega
    have hv2:1≤v2:=by have:=hsim.hv2;omega
    have hfl:f<18446744073709551616:=by
     have h1:=hsim.sum;have h3:(1:Int)*f≤v2*f:=Int.mul_le_mul_of_nonneg_right (by omega) (by omega);have h4:(0:Int)≤v1*t:=Int.mul_nonneg (by omega) (by omega);omega
    have c0:=hblk.cell (i:=0) rfl;have c1:=hblk.cell (i:=1) rfl;have c2:=hblk.cell (i:=2) rfl;have c3:=hblk.cell (i:=3) rfl;have c4:=hblk.cell (i:=4) rfl;have hfr:=hblk.soft.free;have r0:=hblk0.cell (i:=0) rfl;have r1:=hblk0.cell (i:=1) rfl;have r2:=hblk0.cell (i:=2) rfl;have r3:=hblk0.cell (i:=3) rfl;have r4:=hblk0.cell (i:=4) rfl;have hfr0:=hblk0.soft.free;have HSIM:=Lib.hid hsim;have HPREV:=Lib.hid hprev;clear hsim hprev;by_cases k1:v2≤t
    ·have hvv:v1+v2≤fA:=by have:=hroom.1 (by omega);omega
     have k3:v1+v2<18446744073709551616:=by omega
     clear hroom;by_cases k2:v1+v2≤f-t
     ·obtain⟨q,r,qu,qv,bq,eq1,er1,equ,eqv,bqu,bqv,hsim',hprev',hrt⟩:=wR HSIM.out k1 k2 hfAl hfl;have ht0:¬t=0:=by omega
      have HS':=Lib.hid hsim';have HP':=Lib.hid hprev';clear hsim' hprev' HPREV HSIM;go_wp2_with fail;go_quiet (fail);go_wp2_with fail;go_roundw
      case rel=>
       refine⟨t,r,u1,u2,u1+qu,v1,v2,v1+qv,!odd,rfl,by rw[er1],by go_num,by go_num,?_,?_,bu1,bu2,bqu,bv1,bv2,bqv,?_,?_,?_⟩
       ·rw[oR];exact HS'.out
       ·rw[oR];exact HP'.out
       ·exact((((((hblk.drewN _).set 0 _).set 1 _).set 2 _).set 3 _).set 4 _)
       ·exact((((((hblk0.drewN _).other (by omega) _).other (by omega) _).other (by omega) _).other (by omega) _).other (by omega) _)
       ·exact((((((cH hbel _).setCell (by simp) _).setCell (by simp) _).setCell (by simp) _).setCell (by simp) _).setCell (by simp) _)
      case measure=>simp[intOf];omega
     ·have k2':¬(v1:Int)+v2≤f-t:=by omega
      go_wp2_with fail;have hz:=(((((hblk0.set 0 (.int .u64 u0)).set 1 (.int .u64 u1)).set 2 (.int .u64 v0)).set 3 (.int .u64 v1)).set 4 (.bool odd));have z0:=hz.cell (i:=0) rfl;have z1:=hz.cell (i:=1) rfl;have z2:=hz.cell (i:=2) rfl;have z3:=hz.cell (i:=3) rfl;have z4:=hz.cell (i:=4) rfl;have hbz:=(((((hbel.setCell (p:=⟨w.heap.size,0,none⟩) (by simp) (.int .u64 u0)).setCell (p:=⟨w.heap.size,1,none⟩) (by simp) (.int .u64 u1)).setCell (p:=⟨w.heap.size,2,none⟩) (by simp) (.int .u64 v0)).setCell (p:=⟨w.heap.size,3,none⟩) (by simp) (.int .u64 v1)).setCell (p:=⟨w.heap.size,4,none⟩) (by simp) (.bool odd));clear c0 c1 c2 c3 c4 r0 r1 r2 r3 r4 hfr hfr0 hblk hblk0 hz hbel;generalize World.setCell (World.setCell (World.setCell (World.setCell (World.setCell wr ⟨w.heap.size,0,none⟩ (.int .u64 u0)) ⟨w.heap.size,1,none⟩ (.int .u64 u1)) ⟨w.heap.size,2,none⟩ (.int .u64 v0)) ⟨w.heap.size,3,none⟩ (.int .u64 v1)) ⟨w.heap.size,4,none⟩ (.bool odd)=w5 at *;exact bodyPost_ret (v:= .agg #[.int .u64 u0,.int .u64 u1,.int .u64 v0,.int .u64 v1,.bool odd]) (by simp[results,Tryz.results153,go_sem,z0,z1,z2,z3,z4]) rfl ⟨u0,u1,v0,v1,odd,rfl,bu0,bu1,bv0,bv1,HEND.out _ _ _ _ _ HPREV.out,hbz⟩
    ·have k1':¬(v2:Int)≤t:=by omega
     clear hroom;go_wp2_with fail;have hz:=(((((hblk0.set 0 (.int .u64 u0)).set 1 (.int .u64 u1)).set 2 (.int .u64 v0)).set 3 (.int .u64 v1)).set 4 (.bool odd));have z0:=hz.cell (i:=0) rfl;have z1:=hz.cell (i:=1) rfl;have z2:=hz.cell (i:=2) rfl;have z3:=hz.cell (i:=3) rfl;have z4:=hz.cell (i:=4) rfl;have hbz:=(((((hbel.setCell (p:=⟨w.heap.size,0,none⟩) (by simp) (.int .u64 u0)).setCell (p:=⟨w.heap.size,1,none⟩) (by simp) (.int .u64 u1)).setCell (p:=⟨w.heap.size,2,none⟩) (by simp) (.int .u64 v0)).setCell (p:=⟨w.heap.size,3,none⟩) (by simp) (.int .u64 v1)).setCell (p:=⟨w.heap.size,4,none⟩) (by simp) (.bool odd));clear c0 c1 c2 c3 c4 r0 r1 r2 r3 r4 hfr hfr0 hblk hblk0 hz hbel;generalize World.setCell (World.setCell (World.setCell (World.setCell (World.setCell wr ⟨w.heap.size,0,none⟩ (.int .u64 u0)) ⟨w.heap.size,1,none⟩ (.int .u64 u1)) ⟨w.heap.size,2,none⟩ (.int .u64 v0)) ⟨w.heap.size,3,none⟩ (.int .u64 v1)) ⟨w.heap.size,4,none⟩ (.bool odd)=w5 at *;exact bodyPost_ret (v:= .agg #[.int .u64 u0,.int .u64 u1,.int .u64 v0,.int .u64 v1,.bool odd]) (by simp[results,Tryz.results153,go_sem,z0,z1,z2,z3,z4]) rfl ⟨u0,u1,v0,v1,odd,rfl,bu0,bu1,bv0,bv1,HEND.out _ _ _ _ _ HPREV.out,hbz⟩
end Go.Proofs.YtbhplgdbfmifkaaGreatDoor
