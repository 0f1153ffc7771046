/-
  Contracts of functions that the statement reaches, and plain laws: AppC.
-/
import Derived.Test.YtbhplgdbfmifkaaGreatDoorI21
set_option linter.unusedVariables false
set_option linter.unusedSimpArgs false
set_option maxHeartbeats 8000000
set_option maxRecDepth 100000
namespace Go.Proofs.YtbhplgdbfmifkaaGreatDoor
open Go.RowKit Sos
def PowA (w:World) (v:Value) (us:List Value):Prop:=∃A c,v= .slice A us.length c∧us.length≤c∧Old w A∧(us.length=0∨∃b off,A=some ⟨b,off,none⟩∧VC w b off us)∧∀i u,us[i]? =some u→NatAt w u (10^(19*2^i))
def PowFree (tv v:Value) (us:List Value):Prop:=Apart tv v∧∀u∈us,Apart tv u
theorem Old.block {w:World} {A:Option Addr} {n c g:Nat} (h:Old w A) (e:(Value.slice A n c).ownBlock=some g):g<w.heap.size:=by
 cases A with
 |none=>simp[Value.ownBlock] at e
 |some a=>have:=h a rfl;simp[Value.ownBlock] at e;omega
theorem PowA.below {w w':World} {v:Value} {us:List Value} (h:PowA w v us) (hb:Below w.heap.size w w'):PowA w' v us:=by
 obtain⟨A,c,hv,hc,ho,hA,hu⟩:=h;refine⟨A,c,hv,hc,ho.mono hb.size,?_,fun i u h=>(hu i u h).below hb⟩;rcases hA with h|⟨b,off,rfl,hc'⟩
 ·exact .inl h
 ·exact .inr ⟨b,off,rfl,hc'.below hb (ho _ rfl)⟩
theorem PowA.txt {w w':World} {v a b:Value} {us:List Value} (h:PowA w v us) (ht:TxtTo w a w' b) (hf:PowFree a v us):PowA w' v us∧PowFree b v us:=by
 obtain⟨A,c,rfl,hc,ho,hA,hu⟩:=h;refine⟨⟨A,c,rfl,hc,ho.mono ht.1.size,?_,fun i u h=>(hu i u h).txt ht (hf.2 u (List.mem_of_getElem? h))⟩,?_,fun u hm=> ?_⟩
 ·rcases hA with h|⟨b',off,rfl,hc'⟩
  ·exact .inl h
  ·exact .inr ⟨b',off,rfl,hc'.grown ht.1 (ho _ rfl) (fun e=>hf.1 b' e rfl)⟩
 ·exact ht.apart hf.1 (fun g e=>ho.block e)
 ·obtain⟨i,hi⟩:=List.getElem?_of_mem hm;exact ht.apart (hf.2 u hm) (fun g e=>(hu i u hi).block e)
theorem PowA.cut {w:World} {A:Option Addr} {c k:Nat} {us:List Value} (h:PowA w (.slice A k c) us) (hk:us.length=k) {j:Nat} (hj:j≤k):PowA w (.slice A j c) (us.take j):=by
 obtain⟨A',c',hv,hc,ho,hA,hu⟩:=h;simp only[Value.slice.injEq] at hv;obtain⟨rfl, -,rfl⟩:=hv;have hl:(us.take j).length=j:=by rw[List.length_take];omega
 refine⟨A,c,by rw[hl],by omega,ho,?_,fun i u h=>hu i u (by rw[List.getElem?_take] at h;split at h;exact h;cases h)⟩;rcases hA with h|⟨b,off,rfl,hc'⟩
 ·exact .inl (by omega)
 ·exact .inr ⟨b,off,rfl,hc'.take j⟩
theorem Apart.same {tv:Value} {A:Option Addr} {n c n' c':Nat} (h:Apart tv (.slice A n c)):Apart tv (.slice A n' c'):=by
 intro g hg e;refine h g hg ?_;cases A with
 |none=>simp[Value.ownBlock] at e
 |some a=>simpa [Value.ownBlock] using e
theorem PowFree.cut {tv:Value} {A:Option Addr} {n c n' c' j:Nat} {us:List Value} (h:PowFree tv (.slice A n c) us):PowFree tv (.slice A n' c') (us.take j):=
 ⟨h.1.same,fun u hu=>h.2 u (List.mem_of_mem_take hu)⟩
theorem EI (j:Nat) (hj:1≤j):nl (10^(19*j))≤j:=by
 refine bI ?_;rw[Nat.pow_mul];exact Nat.pow_lt_pow_left (by decide) (by omega)
def xV (N:Nat):Prop:=∀(k B:Nat) (tv:Value) (bs:List UInt8) (x width:Nat) (vx vp:Value) (us:List Value) (w:World),k<N→k≤36→us.length=k→GlobB B w→B≤w.heap.size→TxtAt w B tv bs→NatAt w vx x→PowA w vp us→Apart tv vx→PowFree tv vp us→
 nl x≤274877906944→bs.length+(bO width x).length≤8796093022208→(width=0∨width=19*2^k)→
 Calls Tryz.prog 180 #[tv,vx,.int .i64 width,vp] w fun e w'=>∃v,e= .returned v∧TxtAt w' B v (bs++bO width x)∧TxtTo w tv w' v
theorem OY (N:Nat) (ih:xV N):xV (N+1):=by
 intro k B tv bs x width vx vp us w hN hk36 hk hG hB ht hx hp hax hfp hxl hT hw;have hwp:width≤(bO width x).length:=by rw[oU];omega
 have hsimple:=PJ B tv bs x width vx w hG hB ht hx (by omega) (by omega) (by omega);have HP:=Lib.hid hp;have HHK:=Lib.hid hk;obtain⟨A,c,hve,hc,ho,hA,hu⟩:=hp;rw[hk] at hve hc hA;subst hve;by_cases hs:k=0∨nl x≤30
 ·obtain⟨Ax,cx,hxe,_,_,_⟩:=id hx;subst hxe;clear hk;rcases hs with rfl|hs
  ·go_enter Tryz.func180,Tryz.ntmps180;go_wp2_with fail;refine hsimple.mono ?_;rintro e w1 ⟨v1,rfl,h1,h2⟩;go_wp2;go_ret;exact⟨_,rfl,h1,h2⟩
  ·have hs':(nl x:Int)≤30:=by omega
   by_cases hk0:k=0
   ·subst hk0;go_enter Tryz.func180,Tryz.ntmps180;go_wp2_with fail;refine hsimple.mono ?_;rintro e w1 ⟨v1,rfl,h1,h2⟩;go_wp2;go_ret;exact⟨_,rfl,h1,h2⟩
   ·go_enter Tryz.func180,Tryz.ntmps180;go_wp2_with fail;refine hsimple.mono ?_;rintro e w1 ⟨v1,rfl,h1,h2⟩;go_wp2;go_ret;exact⟨_,rfl,h1,h2⟩
 ·obtain⟨l,rfl⟩:∃l,k=l+1:=⟨k-1,by omega⟩;have hs30:¬(nl x:Int)≤30:=by omega
  obtain⟨b,off,rfl,hvc⟩:=hA.resolve_left (by omega);obtain⟨u,hlu⟩:∃u,us[l]? =some u:=⟨_,List.getElem?_eq_getElem (by omega)⟩;have g:=hvc l u hlu;have hnu:=hu l u hlu;have hau:Apart tv u:=hfp.2 u (List.mem_of_getElem? hlu);have hnl:=EI (2^l) (Nat.pow_pos (by decide));have hl36:2^l≤2^36:=Nat.pow_le_pow_right (by decide) (by omega);have hl36':(2:Nat)^36=68719476736:=by decide
  obtain⟨S,hSe,HS,hS1,hS2⟩:=wY l (by omega);rw[←HS.out] at hnu hnl;have hnl':nl (10^S)≤68719476736:=by omega
  have hP0:0<10^S:=Nat.pow_pos (by decide);have HDM:=Lib.hid (Nat.div_add_mod x (10^S));have hlo:x%10^S<10^S:=Nat.mod_lt _ hP0;have hqn:nl (x/10^S)≤nl x:=aX (Nat.div_le_self _ _);have hrn:nl (x%10^S)≤nl x:=aX (Nat.mod_le _ _);have hwS:width=0∨width=S+S:=by
   rcases hw with h|h
   ·exact .inl h
   ·right;rw[h,Nat.pow_succ,HS.out];omega
  have HSPL:Hid (x/10^S≠0∨S≤width→bO width x=bO (width-S) (x/10^S)++bO S (x%10^S)):=by
   intro h;have:=DB (w:=width) (hi:=x/10^S) (lo:=x%10^S) (d:=S) hlo h;rw[Nat.mul_comm,Nat.div_add_mod] at this;exact this
  have hXP:(10^S:Nat)≠0:=by omega
  generalize hQ:10^S=P at *;have HQ:=Lib.hid hQ;obtain⟨Ax,cx,hxe,_,_,hox⟩:=id hx;have HW:=Lib.hid hw;clear hQ hu hvc hs hlu hA hl36 hw;subst hxe;have htl:=ht.lt;have hdw:=qC x P _ _ _ hx hnu hXP (by unfold aF;omega);go_enter Tryz.func180,Tryz.ntmps180;go_wp2_with fail;refine hdw.mono ?_;rintro e w1 ⟨vq,vr,rfl,hq,hr,fq,fr,hb1⟩;have haq:Apart tv vq:=fun g hg=>fq.ne2 (htl g hg).2 (hax g hg) (hau g hg);have har:Apart tv vr:=fun g hg=>fr.ne2 (htl g hg).2 (hax g hg) (hau g hg);have hG1:GlobB B w1:=hG.on (hb1.mono hB);have hB1:B≤w1.heap.size:=Nat.le_trans hB hb1.size;have ht1:=ht.below hb1;have hp1:=(HP.out.below hb1).cut HHK.out (show l≤l+1 by omega);have hf1:PowFree tv (.slice (some ⟨b,off,none⟩) l c) (us.take l):=hfp.cut;have htl1:(us.take l).length=l:=by rw[List.length_take];have:=HHK.out;omega
  have hto1:TxtTo w tv w1 tv:=TxtTo.below hb1;have hlc:l≤c:=by omega
  obtain⟨Aq,cq,hqe,_,_,_⟩:=id hq;subst hqe;have HHQ:=Lib.hid hq;clear hdw hq hsimple hx;have hSw:S=19*2^l:=HS.out;have key:(x/P≠0∨S≤width)→Calls Tryz.prog 180 #[tv,.slice Aq (nl (x/P)) cq,.int .i64 ((width-S:Nat):Int),.slice (some ⟨b,off,none⟩) l c] w1 (fun e w'=>∃v,e= .returned v∧TxtAt w' B v (bs++bO (width-S) (x/P))∧TxtTo w1 tv w' v):=by
   intro h;have hs:=HSPL.out h;have hsl:=congrArg List.length hs;rw[List.length_append] at hsl;exact ih l B tv bs (x/P) (width-S) _ _ (us.take l) w1 (by omega) (by omega) htl1 hG1 hB1 ht1 HHQ.out hp1 haq hf1 (by omega) (by omega) (by rcases hwS with h|h<;>omega)
  have key2:(x/P≠0∨S≤width)→∀v2 w2,TxtAt w2 B v2 (bs++bO (width-S) (x/P))→TxtTo w1 tv w2 v2→Calls Tryz.prog 180 #[v2,vr,.int .i64 S,.slice (some ⟨b,off,none⟩) l c] w2 (fun e w'=>∃v,e= .returned v∧TxtAt w' B v (bs++bO width x)∧TxtTo w2 v2 w' v):=by
   intro h v2 w2 h2 hto;have hs:=HSPL.out h;have hsl:=congrArg List.length hs;rw[List.length_append] at hsl;obtain⟨hp2,hf2⟩:=hp1.txt hto hf1;have:=ih l B v2 (bs++bO (width-S) (x/P)) (x%P) S vr _ (us.take l) w2 (by omega) (by omega) htl1 (hG1.on (hto.belowB hB1 (fun g hg=>(htl g hg).1))) (Nat.le_trans hB1 hto.1.size) h2 (hr.txt hto har) hp2 (hto.apart har (fun g e=>hr.block e)) hf2 (by omega) (by rw[List.length_append];omega) (.inr hSw);rw[List.append_assoc,←hs] at this;exact this
  have HK1:=Lib.hid key;have HK2:=Lib.hid key2;have HSw:=Lib.hid hSw;clear key key2 hSw;by_cases h0:x/P=0
  ·have q0:((nl (x/P):Int)==0)=true:=by rw[h0,cC];rfl
   rcases hwS with rfl|hwS
   ·have hxx:x%P=x:=by have:=HDM.out;rw[h0] at this;omega
    have hcall:=ih l B tv bs (x%P) 0 vr (.slice (some ⟨b,off,none⟩) l c) (us.take l) w1 (by omega) (by omega) htl1 hG1 hB1 ht1 hr hp1 har hf1 (by omega) (by rw[hxx];exact hT) (.inl rfl);rw[hxx] at hcall;simp only[Int.natCast_zero] at hcall;have HC:=Lib.hid hcall;clear hcall hxx h0;go_wp2_with fail;refine HC.out.mono ?_;rintro e w2 ⟨v2,rfl,h2,h3⟩;go_wp2;go_ret;exact⟨_,rfl,h2,hto1.trans h3⟩
   ·have hw1:((width:Int)==0)=false:=by simp;omega
    have hge:S≤width:=by omega
    clear hwS;have hmx:max ((width:Int)-(S:Int)) 0=((width-S:Nat):Int):=by omega
    have HC1:=Lib.hid (HK1.out (.inr (by omega)));have HC2:=Lib.hid (HK2.out (.inr (by omega)));clear h0;generalize width-S=w0 at *;go_wp2_with fail;refine HC1.out.mono ?_;rintro e w2 ⟨v2,rfl,h2,h3⟩;go_wp2_with fail;refine(HC2.out v2 w2 h2 h3).mono ?_;rintro e w3 ⟨v3,rfl,h4,h5⟩;go_wp2;go_ret;exact⟨_,rfl,h4,(hto1.trans h3).trans h5⟩
  ·have q0:((nl (x/P):Int)==0)=false:=by have:=eQ h0;simp;omega
   have hmx:max ((width:Int)-(S:Int)) 0=((width-S:Nat):Int):=by omega
   have HC1:=Lib.hid (HK1.out (.inl h0));have HC2:=Lib.hid (HK2.out (.inl h0));clear h0;generalize width-S=w0 at *;go_wp2_with fail;refine HC1.out.mono ?_;rintro e w2 ⟨v2,rfl,h2,h3⟩;go_wp2_with fail;refine(HC2.out v2 w2 h2 h3).mono ?_;rintro e w3 ⟨v3,rfl,h4,h5⟩;go_wp2;go_ret;exact⟨_,rfl,h4,(hto1.trans h3).trans h5⟩
theorem OZ (N:Nat):xV N:=by
 induction N with
 |zero=>intro k B tv bs x width vx vp us w h;omega
 |succ N ih=>exact OY N ih
theorem P0 (B:Nat) (tv:Value) (bs:List UInt8) (x:Nat) (vx vp:Value) (us:List Value) (w:World) (hk:us.length≤36) (hG:GlobB B w) (hB:B≤w.heap.size) (ht:TxtAt w B tv bs) (hx:NatAt w vx x) (hp:PowA w vp us) (hax:Apart tv vx) (hfp:PowFree tv vp us)
  (hxl:nl x≤274877906944) (hT:bs.length+(bO 0 x).length≤8796093022208):
  Calls Tryz.prog 180 #[tv,vx,.int .i64 0,vp] w fun e w'=>∃v,e= .returned v∧TxtAt w' B v (bs++bO 0 x)∧TxtTo w tv w' v:=by
 have:=OZ (us.length+1) us.length B tv bs x 0 vx vp us w (Nat.lt_succ_self _) hk rfl hG hB ht hx hp hax hfp hxl hT (.inl rfl);simpa only[Int.natCast_zero] using this
end Go.Proofs.YtbhplgdbfmifkaaGreatDoor
