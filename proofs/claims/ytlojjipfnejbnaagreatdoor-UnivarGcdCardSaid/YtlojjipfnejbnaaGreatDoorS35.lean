/-
  Contracts of functions that the statement reaches, and plain laws: NumO, NumR, RatQ.
-/
import Derived.Test.YtlojjipfnejbnaaGreatDoorS18
import Derived.Test.YtlojjipfnejbnaaGreatDoorS19
import Derived.Test.YtlojjipfnejbnaaGreatDoorS26
import Derived.Test.YtlojjipfnejbnaaGreatDoorS27
import Derived.Test.YtlojjipfnejbnaaGreatDoorS28
import Derived.Test.YtlojjipfnejbnaaGreatDoorS29
import Derived.Test.YtlojjipfnejbnaaGreatDoorS33
import Derived.Test.YtlojjipfnejbnaaGreatDoorS34
set_option linter.unusedVariables false
set_option linter.unusedSimpArgs false
set_option maxHeartbeats 8000000
set_option maxRecDepth 100000
namespace Go.Proofs.YtlojjipfnejbnaaGreatDoor
open Go.RowKit Sos
theorem GO (q:Rat) (v:Value) (w:World) (hv:NQ w v q) (K:Nat) (hq:RL K q) (hK:K≤549755813888):Calls Tryz.prog 71 #[v] w (GP w (aO q)):=by
 obtain⟨s,A,k,c,s',A',k',c',rfl⟩:=hv.form;have hs:=hv.num.neg;have hl:=hv.len;have hd1:=fun W h=>GQ q.num (.agg #[.bool s,.slice A k c]) W h (Nat.le_trans hq.1 (by omega));have hd2:=fun W h=>GQ (aS q) (.agg #[.bool s',.slice A' k' c']) W h (Nat.le_trans (lO q) (Nat.le_trans hq.2 (by omega)));have hL1:=tT q.num.natAbs K hq.1;have hL2:=tT (aS q).natAbs K (Nat.le_trans (lO q) hq.2);have HT:Hid (aO q=(if s=true then [45] else [])++Lib.decDigits q.num.natAbs++(if q.den=1 then [] else 47 :: Lib.decDigits (aS q).natAbs)):=by
  unfold Hid aO;rw[hs];by_cases h:q.den=1
  ·simp[h]
  ·rw[iS h];simp[h]
 generalize Lib.decDigits q.num.natAbs=D1 at *;generalize Lib.decDigits (aS q).natAbs=D2 at *;have z1:(⟨D1.toArray⟩:ByteArray).size=D1.length:=by simp[ByteArray.size]
 have z2:(⟨D2.toArray⟩:ByteArray).size=D2.length:=by simp[ByteArray.size]
 have HS:=Lib.hid hs;have HL:=Lib.hid hl;clear hs hl;obtain⟨W,eW,hb,B⟩:=bA w [.bool s,.slice A k c,.bool s',.slice A' k' c'] 96;have cM:=B.g4;go_enter Tryz.func71,Tryz.ntmps71;go_wp2_with fail;(try rw[eW]);clear eW;replace hv:=hv.below hb;refine(hd1 _ hv.num).mono ?_;rintro e1 w1 ⟨rfl,hb1⟩;replace B:=B.below hb1;replace cM:=B.k4;replace hk:=KM.below hb1;replace hv:=hv.keep hk;replace hb:=aB hb hb1;have hk0:=hv.den.words.len.1;rw[Int.natAbs_eq_zero,dH] at hk0;have app:∀a b:List UInt8,(⟨a.toArray⟩:ByteArray)++⟨b.toArray⟩=⟨(a++b).toArray⟩:=fun a b=>by
  rw[ByteArray.ext_iff];simp
 have APP:=Lib.hid app;clear app;by_cases h1:q.den=1
 ·have r1:decide (0<k')=false:=by rw[hk0.2 h1];rfl
  have HT2:Hid (aO q=(if s=true then [45] else [])++D1):=by unfold Hid;rw[HT.out,if_pos h1,List.append_nil]
  clear hk0 h1;cases s
  all_goals (
   go_wp2_with fail;go_ret;exact⟨by rw[HT2.out];simp[APP.out]<;>rfl,hb⟩)
 ·have r1:decide (0<k')=true:=by rw[decide_eq_true_iff];exact Nat.pos_of_ne_zero fun h=>h1 (hk0.1 h)
  have HT2:Hid (aO q=(if s=true then [45] else [])++D1++47 :: D2):=by unfold Hid;rw[HT.out,if_neg h1]
  clear hk0 h1;cases s
  all_goals (
   go_wp2_with fail;refine(hd2 _ hv.den).mono ?_;rintro e2 w2 ⟨rfl,hb2⟩;go_wp2_with fail;go_ret;exact⟨by rw[HT2.out];simp[APP.out]<;>rfl,aB hb hb2⟩)
end Go.Proofs.YtlojjipfnejbnaaGreatDoor
namespace Go.Proofs.YtlojjipfnejbnaaGreatDoor
open Sos Lib
def eH (s:List UInt8):List UInt8:=if s.head?==some 45 then s.tail else s
theorem TW (s:List UInt8):(eH s).length≤s.length:=by unfold eH;split<;>simp
structure CutN (t:List UInt8) (k:Nat):Prop where
 le:k≤t.length
 head:t.takeWhile iA=t.take k
 rest:t.dropWhile iA=t.drop k
theorem CutN.stop {t:List UInt8} {k:Nat} (h:∀c∈t.take k,iA c=true) (hk:k≤t.length) (he:t.length≤k∨∃c,t[k]? =some c∧iA c=false):CutN t k:=
 ⟨hk,(tZ h he).1,(tZ h he).2⟩
structure Found (s:List UInt8) (q:Rat):Prop where
 ok:rd s=decide (aO q=s)
 val:∀r,aR s=some r→q=r
theorem TX {s:List UInt8} {q:Rat} (h:iP s=some q):Found s q:=by
 refine⟨?_,fun r hr=> ?_⟩
 ·unfold rd;by_cases e:aO q=s
  ·rw[(uK s).2 q h e,decide_eq_true e];rfl
  ·rw[decide_eq_false e];cases hr:aR s with
   |none=>rfl
   |some r=>
    obtain⟨h1,h2⟩:=(uK s).1 r hr;rw[h] at h1;injection h1 with h1;exact absurd (by rw[h1];exact h2) e
 ·have:=((uK s).1 r hr).1;rw[h] at this;injection this
theorem zB {s:List UInt8} (h:iP s=none):rd s=false∧∀q r:Rat,aR s=some r→q=r:=by
 have e:aR s=none:=by
  cases hr:aR s with
  |none=>rfl
  |some r=>rw[((uK s).1 r hr).1] at h;cases h
 exact⟨by unfold rd;rw[e];rfl,fun q r hr=>by rw[e] at hr;cases hr⟩
section
variable {s:List UInt8} {k:Nat} (h:CutN (eH s) k)
include h
theorem TY (hn:¬((eH s).take k≠[]∧((eH s).take k).all aQ=true)):iP s=none:=by
 unfold iP;simp only[];rw[show(if (s.head?==some 45)=true then s.tail else s)=eH s from rfl,h.head,if_neg hn]
theorem TZ (hn:(eH s).take k≠[]∧((eH s).take k).all aQ=true) (hk:k=(eH s).length):iP s=some ((cW (s.head?==some 45) (aL ((eH s).take k)):Int):Rat):=by
 unfold iP;simp only[];rw[show(if (s.head?==some 45)=true then s.tail else s)=eH s from rfl,h.head,h.rest,if_pos hn,hk,List.drop_length]
theorem U4 (hn:(eH s).take k≠[]∧((eH s).take k).all aQ=true) (hk:k<(eH s).length):
  iP s=if (eH s).drop (k+1)≠[]∧((eH s).drop (k+1)).all aQ=true∧aL ((eH s).drop (k+1))≠0 then some (((cW (s.head?==some 45) (aL ((eH s).take k)):Int):Rat)/((aL ((eH s).drop (k+1)):Int):Rat)) else none:=by
 unfold iP;simp only[];rw[show(if (s.head?==some 45)=true then s.tail else s)=eH s from rfl,h.head,h.rest,if_pos hn,List.drop_eq_getElem_cons hk]
end
end Go.Proofs.YtlojjipfnejbnaaGreatDoor
namespace Go.Proofs.YtlojjipfnejbnaaGreatDoor
open Sos
theorem zG (x y:Rat) (h:Nat.gcd x.den y.den=1):(x+y).num=x.num*y.den+y.num*x.den∧(x+y).den=x.den*y.den:=by
 show(Rat.add x y).num=_∧(Rat.add x y).den=_
 unfold Rat.add;simp[h]
theorem U8 (x y:Rat) (g:Nat) (hg:Nat.gcd x.den y.den=g) (h1:g≠1) (n:Int) (hn:n=x.num*((y.den/g:Nat):Int)+y.num*((x.den/g:Nat):Int)):
  (x+y).num=n/((Nat.gcd n.natAbs g:Nat):Int)∧(x+y).den=x.den/g*y.den/Nat.gcd n.natAbs g:=by
 subst hg;subst hn;show(Rat.add x y).num=_∧(Rat.add x y).den=_
 unfold Rat.add;simp[h1]
theorem GV (a b:Nat):(a:Int).tdiv (b:Int)=((a/b:Nat):Int):=by
 rw[Int.tdiv_eq_ediv_of_nonneg (by omega)];exact(Int.natCast_ediv a b).symm
theorem zH (x y:Rat) (g r:Nat) (l t n:Int) (hg:g=Nat.gcd x.den y.den) (hl:l=(y.den:Int).tdiv g) (ht:t=(x.den:Int).tdiv g) (hn:n=x.num*l+y.num*t) (hr:r=Nat.gcd n.natAbs g):
  (x+y).num=n.tdiv r∧(((x+y).den:Nat):Int)=t*(y.den:Int).tdiv r:=by
 have hx0:=x.den_nz;have hy0:=y.den_nz;have hrg:r∣g:=hr ▸ Nat.gcd_dvd_right _ _;have hgy:g∣y.den:=hg ▸ Nat.gcd_dvd_right _ _;have hrn:(r:Int)∣n:=Int.ofNat_dvd_left.2 (hr ▸ Nat.gcd_dvd_left _ _);have hry:r∣y.den:=Nat.dvd_trans hrg hgy;rw[GV] at hl ht;rw[GV];by_cases h1:g=1
 ·obtain⟨e1,e2⟩:=zG x y (hg ▸ h1);have hr1:r=1:=by rw[hr,h1];simp
  rw[h1] at hl ht;simp only[Nat.div_one] at hl ht;rw[e1,e2,hr1,hn,hl,ht];simp
 ·obtain⟨e1,e2⟩:=U8 x y g hg.symm h1 n (by rw[hn,hl,ht]);rw[←hr] at e1 e2;rw[e1,e2,ht,Int.tdiv_eq_ediv_of_dvd hrn];refine⟨rfl,?_⟩;rw[Nat.mul_div_assoc _ hry];simp
theorem U9 {x y:Rat} {g:Nat} {l t n:Int} (hg:g=Nat.gcd x.den y.den) (hl:l=(y.den:Int).tdiv g) (ht:t=(x.den:Int).tdiv g) (hn:n=x.num*l+y.num*t) (h0:n=0):x+y=0:=by
 have:=(zH x y g _ l t n hg hl ht hn rfl).1;rw[h0] at this;exact Rat.num_eq_zero.1 (by rw[this];simp)
theorem zI {x y:Rat} (h:x.den=1):(x+y).num=x.num*y.den+y.num∧(x+y).den=y.den:=by
 obtain⟨e1,e2⟩:=zG x y (by rw[h];simp);rw[e1,e2,h];simp
theorem UA {x y:Rat} (h:y.den=1):(x+y).num=y.num*x.den+x.num∧(x+y).den=x.den:=by
 obtain⟨e1,e2⟩:=zG x y (by rw[h];simp);rw[e1,e2,h];simp;omega
theorem UB {x y:Rat} {K:Nat} (hx:RL K x) (hy:RL K y):RL (2*K+1) (x+y):=by
 obtain⟨e1,e2⟩:=zH x y _ _ _ _ _ rfl rfl rfl rfl rfl;obtain⟨x1,x2⟩:=hx;obtain⟨y1,y2⟩:=hy;have l1:=gB (y.den:Int) (Nat.gcd x.den y.den:Int) K y2;have l2:=gB (x.den:Int) (Nat.gcd x.den y.den:Int) K x2;have l3:=pD _ _ _ (bZ _ _ _ _ x1 l1) (bZ _ _ _ _ y1 l2);refine⟨?_,?_⟩
 ·rw[e1];exact gB _ _ _ (Nat.le_trans l3 (by omega))
 ·have h:nl (((x+y).den:Nat):Int).natAbs≤K+K:=by
   rw[e2];exact bZ _ _ _ _ l2 (gB _ _ _ y2)
  exact Nat.le_trans h (by omega)
end Go.Proofs.YtlojjipfnejbnaaGreatDoor
