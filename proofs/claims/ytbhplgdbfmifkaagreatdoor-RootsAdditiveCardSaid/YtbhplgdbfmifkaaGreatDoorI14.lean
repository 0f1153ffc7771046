/-
  Contracts of functions that the statement reaches, and plain laws: DivU.
-/
import Derived.Test.YtbhplgdbfmifkaaGreatDoorI12
import Derived.Deep.LoopGhost
set_option linter.unusedVariables false
set_option linter.unusedSimpArgs false
set_option maxHeartbeats 8000000
set_option maxRecDepth 100000
namespace Go.Proofs.YtbhplgdbfmifkaaGreatDoor
open Go.RowKit Sos
theorem Cells.nil_ {k:IntKind} {w:World} {g off:Nat}:Cells k w g off []:=fun i hi=>by simp at hi
theorem CY (a:Addr) (n:Nat):(a.add n).block=a.block:=by unfold Addr.add;split<;>rfl
theorem wW (x n:Nat) (vx:Value) (w:World) (hx:NatAt w vx x) (hlim:nl x≤aF) (hn:n≤aF):
  Calls Tryz.prog 206 #[vx,.int .i64 n] w (fY w [vx] (x%BN^n)):=by
 unfold aF at hlim hn;obtain⟨A,c,rfl,hc,hrx,hox⟩:=hx;obtain⟨m,hm1,hm2,hm3,hm4,HM⟩:∃m:Nat,m≤n∧m≤nl x∧min (n:Int) (nl x:Int)=(m:Int)∧m≤c∧Hid (m=min n (nl x)):=⟨min n (nl x),by omega,by omega,by omega,by omega,rfl⟩;have hl:((dg x).take m).length=m:=by rw[List.length_take,aJ];omega
 have HL:=Lib.hid hl;clear hl;go_enter Tryz.func206,Tryz.ntmps206;go_wp2_with fail;refine(dI A ((dg x).take m) m c w HL.out (hrx.take m) hm4 (by omega)).mono ?_;rintro e w1 ⟨rfl,rfl⟩;go_wp2;go_ret;refine⟨_,rfl,?_,(From.mem (List.mem_singleton.2 rfl)).same,Below.refl _ _⟩;have e:x%BN^n=x%BN^m:=by
  have h1:=HM.out;rcases Nat.le_total n (nl x) with h|h
  ·rw[show m=n by omega]
  ·rw[show m=nl x by omega,Nat.mod_eq_of_lt (bX x),Nat.mod_eq_of_lt (Nat.lt_of_lt_of_le (bX x) (Nat.pow_le_pow_right (by decide) h))]
 rw[e];exact NatAt.trim (hrx.take m) ((aW x).take m) (nM x m) (by rw[HL.out];exact hm4) hox
theorem tF (x n:Nat) (vx:Value) (w:World) (hx:NatAt w vx x) (hlim:nl x≤aF) (hn:n≤aF):
  Calls Tryz.prog 207 #[vx,.int .i64 n] w (fY w [vx] (x/BN^n)):=by
 unfold aF at hlim hn;obtain⟨A,c,rfl,hc,hrx,hox⟩:=hx;by_cases hnx:nl x≤n
 ·have hz:x/BN^n=0:=Nat.div_eq_of_lt (Nat.lt_of_lt_of_le (bX x) (Nat.pow_le_pow_right (by decide) hnx));rw[hz];clear hz;have hm:min (n:Int) (nl x:Int)=(nl x:Int):=by omega
  have hzero:∀(A':Option Addr) (c':Nat),Old w A'→NatAt w (.slice A' 0 c') 0:=fun A' c' h=>⟨A',c',by rw[cC],by rw[cC];exact Nat.zero_le _,by rw[pS];exact Rd.nil,h⟩;have HZ:=Lib.hid hzero;clear hzero;cases A with
  |none=>
   have h0:nl x≤0:=by
    rcases Nat.eq_zero_or_pos (nl x) with h|h
    ·omega
    ·obtain⟨_,_,e,_⟩:=hrx.at_ h;cases e
   go_enter Tryz.func207,Tryz.ntmps207;go_wp2;all_goals go_ret
   all_goals exact⟨_,rfl,by first|exact HZ.out _ _ Old.none|(rw[Nat.sub_self];exact HZ.out _ _ Old.none),by first|exact From.none|(simp;exact From.none),Below.refl _ _⟩
  |some ad=>
   obtain⟨b,o,s⟩:=ad;have hb:b<w.heap.size:=hox _ rfl;by_cases hce:c≤nl x
   ·obtain rfl:c=nl x:=by omega
    go_enter Tryz.func207,Tryz.ntmps207;go_wp2;go_ret;exact⟨_,rfl,HZ.out _ _ (Old.mk hb),(From.mem (List.mem_singleton.2 rfl)).same,Below.refl _ _⟩
   ·have hce':¬c=nl x:=by omega
    go_enter Tryz.func207,Tryz.ntmps207;go_wp2;go_ret;refine⟨_,rfl,HZ.out _ _ (fun a e=> ?_),fun g hg hlt=>⟨_,List.mem_singleton.2 rfl,?_⟩,Below.refl _ _⟩
    ·injection e with e;subst e;rw[CY];exact hb
    ·have:(some ((⟨b,o,s⟩:Addr).add (nl x)).block)=some g:=hg;rw[CY] at this;exact this
 ·obtain⟨b,o,rfl,hb,hcx⟩:=hrx.at_ (by rw[aJ];omega);have hm:min (n:Int) (nl x:Int)=(n:Int):=by omega
  have i1:¬c=n:=by omega
  have i2:n≤nl x:=by omega
  go_enter Tryz.func207,Tryz.ntmps207;go_wp2;go_ret;exact⟨_,rfl,⟨_,_,by rw[gW];rfl,by rw[gW];omega,by rw[←oN];exact Rd.mk hb (hcx.drop n),Old.mk hb⟩,(From.mem (List.mem_singleton.2 rfl)).shift,Below.refl _ _⟩
theorem N6 {lo hi n m:Nat} (h1:nl lo≤n) (h2:n+nl hi≤m):
  let zs:=bJ (List.replicate m 0) (dg lo)
  let us:=bJ (zs.drop n) (dg hi)
  us.length=m-n∧InR aA us∧InR aA zs∧zs.length=m∧aD aA (patch zs us n)=lo+aA^n*hi:=by
 intro zs us;have e1:zs=dg lo++List.replicate (m-nl lo) 0:=wF m (dg lo) (by rw[aJ];omega);have e2:zs.drop n=List.replicate (m-n) 0:=by
  rw[e1,List.drop_append,List.drop_of_length_le (by rw[aJ];exact h1),aJ,List.nil_append,List.drop_replicate];congr 1;omega
 have hl:zs.length=m:=by show(bJ _ _).length=m;rw[iE,List.length_replicate]
 have hu:us.length=m-n:=by show(bJ _ _).length=_;rw[iE,List.length_drop,hl]
 have hiz:InR aA zs:=(aW lo).take _ |>.append ((InR.replicate aM _).drop _);have hiu:InR aA us:=((aW hi).take _).append ((hiz.drop _).drop _);refine⟨hu,hiu,hiz,hl,?_⟩;have v1:aD aA zs=lo:=by show aD aA (bJ _ _)=_;rw[iW _ _ (by rw[aJ];omega),bC]
 have v2:aD aA us=hi:=by
  show aD aA (bJ (zs.drop n) (dg hi))=_
  rw[e2,iW _ _ (by rw[aJ];omega),bC]
 rw[oO (by omega),hu,e2,v1,v2,List.take_of_length_le (by simp),iU];simp
theorem qD (hi lo n:Nat) (vh vl:Value) (w:World) (hh:NatAt w vh hi) (hl:NatAt w vl lo) (hlo:nl lo≤n) (hlim:nl hi+n≤aF):
  Calls Tryz.prog 209 #[vh,vl,.int .i64 n] w (fY w [] (lo+BN^n*hi)):=by
 unfold aF at hlim;obtain⟨A,c,rfl,hc,hrh,hoh⟩:=hh;obtain⟨B,d,rfl,hd,hrl,hol⟩:=hl;obtain⟨m,hm1,hm2,HM⟩:∃m,n+nl hi≤m∧m≤n+nl hi∧Hid (m=n+nl hi):=⟨_,Nat.le_refl _,Nat.le_refl _,rfl⟩;have i1:n≤m:=by omega
 by_cases hmn:m=n
 ·have h0:nl hi≤0:=by omega
  have HI:=Lib.hid (mU (show nl hi=0 by omega));subst hmn;go_enter Tryz.func209,Tryz.ntmps209
  go_wp2_with (first
   |(at_make;refine gN rfl rfl .u64 161 8 Tryz.underlying48 eY m rfl rfl (by omega) (by omega) (by omega) (by omega) ?_;intro w1 hz1 hs1 hc1 hb1)
   |(with_reducible refine iT rfl (d:= .tmp 13) (s:= .tmp 14) rfl .u64 161 Tryz.underlying48 iI rfl rfl w.heap.size 0 (List.replicate m 0) (dg lo) (by simp) rfl (fun _=>rfl) hc1 hs1 (hrl.below hb1) ?_;intro w2 hc2 ho2)
   |(with_reducible refine iT rfl (d:= .tmp 18) (s:= .tmp 19) rfl .u64 161 Tryz.underlying48 iI rfl rfl w.heap.size 0 [] (dg hi) rfl rfl (fun h=>absurd h (by simp)) Cells.nil_ (ho2.soft hs1) (ho2.rd (hrh.below hb1) (fun b o e h=>hrh.lt_of e h)) ?_;intro w3 hc3 ho3))
  rw[List.length_replicate] at ho2;have hsz:=ho2.grown.size;have hsz3:=ho3.grown.size;have hb3:Below w.heap.size w w3:=ho3.belowOf (ho2.belowOf hb1 (Nat.le_refl _)) (Nat.le_refl _);have hlt:w.heap.size<w3.heap.size:=by omega
  have hc2':Cells .u64 w3 w.heap.size 0 (bJ (List.replicate m 0) (dg lo)):=fun i hi=>(ho3.rest _ (.inr (by simp))).trans (hc2 i hi);have hval:aD aA (bJ (List.replicate m 0) (dg lo))=lo:=by rw[iW _ _ (by rw[aJ];omega),bC]
  have hin:InR aA (bJ (List.replicate m 0) (dg lo)):=pW (InR.replicate aM _) (aW _);have hlen:(bJ (List.replicate m 0) (dg lo)).length=m:=by rw[iE,List.length_replicate]
  generalize bJ (List.replicate m 0) (dg lo)=zs at *;have HV:=Lib.hid hval;have HLN:=Lib.hid hlen;clear hval hlen hc2 hc1 hc3;refine(dI _ zs m m w3 HLN.out (Rd.mk hlt hc2') (Nat.le_refl _) (by omega)).mono ?_;rintro e w4 ⟨rfl,rfl⟩;go_wp2;go_ret;exact⟨_,rfl,NatAt.trim (Rd.mk hlt hc2') hin (by rw[HV.out,HI.out];simp) (by rw[HLN.out];exact Nat.le_refl _) (Old.mk hlt),From.new (Nat.le_refl _),hb3⟩
 ·have i2:¬m=n:=hmn;go_enter Tryz.func209,Tryz.ntmps209
  go_wp2_with (first
   |(at_make;refine gN rfl rfl .u64 161 8 Tryz.underlying48 eY m rfl rfl (by omega) (by omega) (by omega) (by omega) ?_;intro w1 hz1 hs1 hc1 hb1)
   |(with_reducible refine iT rfl (d:= .tmp 13) (s:= .tmp 14) rfl .u64 161 Tryz.underlying48 iI rfl rfl w.heap.size 0 (List.replicate m 0) (dg lo) (by simp) rfl (fun _=>rfl) hc1 hs1 (hrl.below hb1) ?_;intro w2 hc2 ho2;generalize hze:bJ (List.replicate m 0) (dg lo)=zs at hc2;have HZE:=Lib.hid hze;clear hze;have hc2d:Cells .u64 w2 w.heap.size n (zs.drop n):=(by have:=hc2.drop n;rwa [Nat.zero_add] at this))
   |(with_reducible refine iT rfl (d:= .tmp 18) (s:= .tmp 19) rfl .u64 161 Tryz.underlying48 iI rfl rfl w.heap.size n (zs.drop n) (dg hi) (by rw[←HZE.out,List.length_drop,iE,List.length_replicate]) rfl (fun _=>rfl) hc2d (ho2.soft hs1) (ho2.rd (hrh.below hb1) (fun b o e h=>hrh.lt_of e h)) ?_;intro w3 hc3 ho3))
  have hfill:=N6 (lo:=lo) (hi:=hi) (n:=n) (m:=m) hlo (by omega);rw[HZE.out] at hfill;obtain⟨f1,f2,f3,f4,f5⟩:=hfill;have hdl:(zs.drop n).length=m-n:=by rw[List.length_drop,f4]
  rw[hdl] at ho3;rw[List.length_replicate] at ho2;have hc3z:=ho3.patch hc2 f1 hc3 (by omega);have hpl:=gQ (zs:=zs) (ts:=bJ (zs.drop n) (dg hi)) (k:=n) (by omega);have hpr:=nO f3 f2 n;generalize patch zs (bJ (zs.drop n) (dg hi)) n=fin at *;have hsz:=ho2.grown.size;have hsz3:=ho3.grown.size;have hb3:Below w.heap.size w w3:=ho3.belowOf (ho2.belowOf hb1 (Nat.le_refl _)) (Nat.le_refl _);have hlt:w.heap.size<w3.heap.size:=by omega
  have HV:=Lib.hid f5;have HLN:Hid (fin.length=m):=by unfold Hid;omega
  clear f1 f2 f3 f4 f5 hdl hpl hc3 hc2d hc2 hc1;refine(dI _ fin m m w3 HLN.out (Rd.mk hlt hc3z) (Nat.le_refl _) (by omega)).mono ?_;rintro e w4 ⟨rfl,rfl⟩;go_wp2;go_ret;exact⟨_,rfl,NatAt.trim (Rd.mk hlt hc3z) hpr (by rw[HV.out,←fO];simp) (by rw[HLN.out];exact Nat.le_refl _) (Old.mk hlt),From.new (Nat.le_refl _),hb3⟩
end Go.Proofs.YtbhplgdbfmifkaaGreatDoor
