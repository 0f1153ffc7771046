/-
  Contracts of functions that the statement reaches, and plain laws: UniG, NumO, NumR, RatQ, NumJ, NumS, NumT, NumU, RefA, RefP, RefB, BasA, RatY, BasB, BasC, LawF.
-/
import Derived.Test.YtlojjipfnejbnaaGreatDoorA18
import Derived.Test.YtlojjipfnejbnaaGreatDoorA19
import Derived.Test.YtlojjipfnejbnaaGreatDoorA25
import Derived.Test.YtlojjipfnejbnaaGreatDoorA26
import Derived.Test.YtlojjipfnejbnaaGreatDoorA27
import Derived.Test.YtlojjipfnejbnaaGreatDoorA28
import Derived.Test.YtlojjipfnejbnaaGreatDoorA29
import Derived.Test.YtlojjipfnejbnaaGreatDoorA34
import Derived.Test.YtlojjipfnejbnaaGreatDoorB30
import Derived.Test.YtlojjipfnejbnaaGreatDoorC36
set_option linter.unusedVariables false
set_option linter.unusedSimpArgs false
set_option maxHeartbeats 8000000
set_option maxRecDepth 100000
namespace Go.Proofs.YtlojjipfnejbnaaGreatDoor
open Go.RowKit Sos
theorem rd_zero:readL [48]=some 0:=by decide
theorem txt_zero:ratTxt 0=[48]:=txt_read rd_zero
theorem rats_last {ls:List (List UInt8)} {t:List UInt8} (h:ls.getLast?=some t):(ratsOf ls).getLast?=some ((readL t).getD 0):=by
 unfold ratsOf
 rw[List.getLast?_map,h];rfl
theorem vl_long {ls:List (List UInt8)} (h:¬ls.length≤65):vl ls=false:=by unfold vl;rw[decide_eq_false_iff_not];exact fun h'=>h h'.1
theorem vl_zero {ls:List (List UInt8)} (h:ls.getLast?=some [48]):vl ls=false:=by
 unfold vl;rw[decide_eq_false_iff_not,rats_last h,rd_zero];exact fun h'=>h'.2.2 rfl
theorem vl_other {ls:List (List UInt8)} {t:List UInt8} (h65:ls.length≤65) (h:ls.getLast?=some t) (ht:t≠[48]):vl ls=ls.all rd:=by
 unfold vl
 rw[Bool.eq_iff_iff,decide_eq_true_iff,rats_last h]
 refine⟨fun h'=>h'.2.1,fun h'=>⟨h65,h',fun e=>ht ?_⟩⟩
 injection e with e
 have hr:rd t=true:=List.all_eq_true.1 h' t (List.mem_of_getLast? h)
 obtain⟨q,hq⟩:=Option.isSome_iff_exists.1 hr
 rw[hq] at e
 have e:q=0:=e
 rw[←txt_read hq,e,txt_zero]
theorem vl_nil:vl []=true:=by decide
theorem rats_len (ls:List (List UInt8)):(ratsOf ls).length=ls.length:=List.length_map _
def RetRs (w:World) (ls:List (List UInt8)) (e:Ending) (w':World):Prop:=
 ∃v',e= .returned (.tuple #[v',.bool (vl ls)])∧(vl ls=true→∃g,v'= .slice (some ⟨g,0,none⟩) ls.length ls.length∧w.heap.size≤g∧OwnR w' g (ratsOf ls))∧Below w.heap.size w w'
theorem readRatios_any (ls:List (List UInt8)) (v:Value) (w:World) (hG:Glob w) (hv:StrsAt w v ls) (hl:ls.length≤1073741824) (hll:ls.length≤65→∀l∈ls,l.length≤1073741824):
  Calls Tryz.prog 73 #[v] w (RetRs w ls):=by
 obtain⟨A,c,rfl,hc⟩:=hv.form
 go_enter Tryz.func73,Tryz.ntmps73
 go_wp2_with fail
 with_reducible refine(fits_any ls.length c A _ hl).mono ?_
 rintro e3 w3 ⟨rfl,rfl⟩
 by_cases h65:ls.length≤65
 ·have hd:decide (ls.length≤65)=true:=decide_eq_true h65
  rw[hd]
  clear hd
  have hra:=readAll_own ls (.slice A ls.length c) w3 hG hv hl (hll h65)
  by_cases h0:ls.length=0
  ·have hn:ls=[]:=List.eq_nil_of_length_eq_zero h0
   have HV:Hid (vl ls=ls.all rd):=by unfold Hid;rw[hn,vl_nil];rfl
   have h0':¬0<ls.length:=by omega
   clear hn h0
   go_wp2_with fail
   with_reducible refine hra.mono ?_
   rintro e4 w4 ⟨v4,rfl,h4,hb4⟩
   go_wp2_with fail
   go_ret2
   unfold RetRs
   rw[HV.out]
   exact⟨_,rfl,h4,hb4⟩
  ·obtain⟨m,hm⟩:∃m,ls.length=m+1:=⟨ls.length-1,by omega⟩
   have h0':0<ls.length:=by omega
   have e1:(ls.length:Int)-1=(m:Int):=by omega
   have i0:(0:Int)≤(m:Int):=by omega
   have i1:(m:Int)<(ls.length:Int):=by omega
   obtain⟨t,ht⟩:∃t,ls[m]? =some t:=⟨_,List.getElem?_eq_getElem (by omega)⟩
   obtain⟨b,off,rfl,hbl,g0⟩:=hv.at_ ht
   have hla:ls.getLast?=some t:=by rw[List.getLast?_eq_getElem?,hm];exact ht
   by_cases hz:t=[48]
   ·have HV:Hid (vl ls=false):=vl_zero (by rw[hla,hz])
    subst hz
    clear hra hla ht hm h0
    go_wp2_with fail
    go_ret2
    unfold RetRs
    rw[HV.out]
    exact⟨_,rfl,(fun h=>by cases h),Below.refl _ _⟩
   ·have HV:Hid (vl ls=ls.all rd):=vl_other h65 hla hz
    have hne:(t==[48])=false:=beq_eq_false_iff_ne.2 hz
    clear hla ht hm h0 hz
    go_wp2_with fail
    with_reducible refine hra.mono ?_
    rintro e4 w4 ⟨v4,rfl,h4,hb4⟩
    go_wp2_with fail
    go_ret2
    unfold RetRs
    rw[HV.out]
    exact⟨_,rfl,h4,hb4⟩
 ·have hd:decide (ls.length≤65)=false:=decide_eq_false h65
  have HV:Hid (vl ls=false):=vl_long h65
  rw[hd]
  clear hd
  go_wp2_with fail
  go_ret2
  unfold RetRs
  rw[HV.out]
  exact⟨_,rfl,(fun h=>by cases h),Below.refl _ _⟩
theorem valid_any (ls:List (List UInt8)) (v:Value) (w:World) (hG:Glob w) (hv:StrsAt w v ls) (hl:ls.length≤1073741824) (hll:ls.length≤65→∀l∈ls,l.length≤1073741824):
  Calls Tryz.prog 24 #[v] w fun e w'=>e= .returned (.bool (vl ls))∧Below w.heap.size w w':=by
 obtain⟨A,c,rfl,hc⟩:=hv.form
 go_enter Tryz.func24,Tryz.ntmps24
 go_wp2_with fail
 with_reducible refine(readRatios_any ls _ _ hG hv hl hll).mono ?_
 rintro e3 w3 ⟨v3,rfl, -,hb3⟩
 go_wp2_with fail
 go_ret
 exact⟨rfl,hb3⟩
end Go.Proofs.YtlojjipfnejbnaaGreatDoor
set_option maxHeartbeats 8000000
set_option maxRecDepth 100000
namespace Go.Proofs.YtlojjipfnejbnaaGreatDoor
open Go.RowKit Sos
theorem text_any (q:Rat) (v:Value) (w:World) (hv:NQ w v q) (K:Nat) (hq:RL K q) (hK:K≤549755813888):Calls Tryz.prog 71 #[v] w (RetStr w (ratTxt q)):=by
 obtain⟨s,A,k,c,s',A',k',c',rfl⟩:=hv.form
 have hs:=hv.num.neg
 have hl:=hv.len
 have hd1:=fun W h=>digits_any q.num (.agg #[.bool s,.slice A k c]) W h (Nat.le_trans hq.1 (by omega))
 have hd2:=fun W h=>digits_any (denI q) (.agg #[.bool s',.slice A' k' c']) W h (Nat.le_trans (denI_le q) (Nat.le_trans hq.2 (by omega)))
 have hL1:=digits_len q.num.natAbs K hq.1
 have hL2:=digits_len (denI q).natAbs K (Nat.le_trans (denI_le q) hq.2)
 have HT:Hid (ratTxt q=(if s=true then [45] else [])++Lib.decDigits q.num.natAbs++(if q.den=1 then [] else 47 :: Lib.decDigits (denI q).natAbs)):=by
  unfold Hid ratTxt
  rw[hs]
  by_cases h:q.den=1
  ·simp[h]
  ·rw[denI_ne h];simp[h]
 generalize Lib.decDigits q.num.natAbs=D1 at *
 generalize Lib.decDigits (denI q).natAbs=D2 at *
 have z1:(⟨D1.toArray⟩:ByteArray).size=D1.length:=by simp[ByteArray.size]
 have z2:(⟨D2.toArray⟩:ByteArray).size=D2.length:=by simp[ByteArray.size]
 have HS:=Lib.hid hs
 have HL:=Lib.hid hl
 clear hs hl
 obtain⟨W,eW,hb,B⟩:=box1 w [.bool s,.slice A k c,.bool s',.slice A' k' c'] 96
 have cM:=B.g4
 go_enter Tryz.func71,Tryz.ntmps71
 go_wp2_with fail
 (try rw[eW]);clear eW
 replace hv:=hv.below hb
 with_reducible refine(hd1 _ hv.num).mono ?_
 rintro e1 w1 ⟨rfl,hb1⟩
 replace B:=B.below hb1
 replace cM:=B.k4
 replace hk:=KM.below hb1
 replace hv:=hv.keep hk
 replace hb:=hb.trans (hb1.mono hb.size)
 have hk0:=hv.den.words.len.1
 rw[Int.natAbs_eq_zero,denI_one] at hk0
 have app:∀a b:List UInt8,(⟨a.toArray⟩:ByteArray)++⟨b.toArray⟩=⟨(a++b).toArray⟩:=fun a b=>by
  rw[ByteArray.ext_iff];simp
 have APP:=Lib.hid app
 clear app
 by_cases h1:q.den=1
 ·have r1:decide (0<k')=false:=by rw[hk0.2 h1];rfl
  have HT2:Hid (ratTxt q=(if s=true then [45] else [])++D1):=by unfold Hid;rw[HT.out,if_pos h1,List.append_nil]
  clear hk0 h1
  cases s
  all_goals (
   go_wp2_with fail
   go_ret
   exact⟨by rw[HT2.out];simp[APP.out]<;>rfl,hb⟩)
 ·have r1:decide (0<k')=true:=by rw[decide_eq_true_iff];exact Nat.pos_of_ne_zero fun h=>h1 (hk0.1 h)
  have HT2:Hid (ratTxt q=(if s=true then [45] else [])++D1++47 :: D2):=by unfold Hid;rw[HT.out,if_neg h1]
  clear hk0 h1
  cases s
  all_goals (
   go_wp2_with fail
   with_reducible refine(hd2 _ hv.den).mono ?_
   rintro e2 w2 ⟨rfl,hb2⟩
   go_wp2_with fail
   go_ret
   exact⟨by rw[HT2.out];simp[APP.out]<;>rfl,hb.trans (hb2.mono hb.size)⟩)
end Go.Proofs.YtlojjipfnejbnaaGreatDoor
namespace Go.Proofs.YtlojjipfnejbnaaGreatDoor
open Sos Lib
def unS (s:List UInt8):List UInt8:=if s.head?==some 45 then s.tail else s
theorem unS_len (s:List UInt8):(unS s).length≤s.length:=by unfold unS;split<;>simp
structure CutN (t:List UInt8) (k:Nat):Prop where
 le:k≤t.length
 head:t.takeWhile noSl=t.take k
 rest:t.dropWhile noSl=t.drop k
theorem CutN.stop {t:List UInt8} {k:Nat} (h:∀c∈t.take k,noSl c=true) (hk:k≤t.length) (he:t.length≤k∨∃c,t[k]? =some c∧noSl c=false):CutN t k:=
 ⟨hk,(takeWhile_stop h he).1,(takeWhile_stop h he).2⟩
structure Found (s:List UInt8) (q:Rat):Prop where
 ok:rd s=decide (ratTxt q=s)
 val:∀r,readL s=some r→q=r
theorem found_of {s:List UInt8} {q:Rat} (h:parseN s=some q):Found s q:=by
 refine⟨?_,fun r hr=> ?_⟩
 ·unfold rd
  by_cases e:ratTxt q=s
  ·rw[(read_parse s).2 q h e,decide_eq_true e];rfl
  ·rw[decide_eq_false e]
   cases hr:readL s with
   |none=>rfl
   |some r=>
    obtain⟨h1,h2⟩:=(read_parse s).1 r hr
    rw[h] at h1
    injection h1 with h1
    exact absurd (by rw[h1];exact h2) e
 ·have:=((read_parse s).1 r hr).1
  rw[h] at this
  injection this
theorem lost_of {s:List UInt8} (h:parseN s=none):rd s=false∧∀q r:Rat,readL s=some r→q=r:=by
 have e:readL s=none:=by
  cases hr:readL s with
  |none=>rfl
  |some r=>rw[((read_parse s).1 r hr).1] at h;cases h
 exact⟨by unfold rd;rw[e];rfl,fun q r hr=>by rw[e] at hr;cases hr⟩
section
variable {s:List UInt8} {k:Nat} (h:CutN (unS s) k)
include h
theorem parse_bad (hn:¬((unS s).take k≠[]∧((unS s).take k).all isDig=true)):parseN s=none:=by
 unfold parseN
 simp only[]
 rw[show(if (s.head?==some 45)=true then s.tail else s)=unS s from rfl,h.head,if_neg hn]
theorem parse_whole (hn:(unS s).take k≠[]∧((unS s).take k).all isDig=true) (hk:k=(unS s).length):parseN s=some ((sgn (s.head?==some 45) (decVal ((unS s).take k)):Int):Rat):=by
 unfold parseN
 simp only[]
 rw[show(if (s.head?==some 45)=true then s.tail else s)=unS s from rfl,h.head,h.rest,if_pos hn,hk,List.drop_length]
theorem parse_tail (hn:(unS s).take k≠[]∧((unS s).take k).all isDig=true) (hk:k<(unS s).length):
  parseN s=if (unS s).drop (k+1)≠[]∧((unS s).drop (k+1)).all isDig=true∧decVal ((unS s).drop (k+1))≠0 then some (((sgn (s.head?==some 45) (decVal ((unS s).take k)):Int):Rat)/((decVal ((unS s).drop (k+1)):Int):Rat)) else none:=by
 unfold parseN
 simp only[]
 rw[show(if (s.head?==some 45)=true then s.tail else s)=unS s from rfl,h.head,h.rest,if_pos hn,List.drop_eq_getElem_cons hk]
end
end Go.Proofs.YtlojjipfnejbnaaGreatDoor
namespace Go.Proofs.YtlojjipfnejbnaaGreatDoor
open Sos
theorem rat_add_coprime (x y:Rat) (h:Nat.gcd x.den y.den=1):(x+y).num=x.num*y.den+y.num*x.den∧(x+y).den=x.den*y.den:=by
 show(Rat.add x y).num=_∧(Rat.add x y).den=_
 unfold Rat.add
 simp[h]
theorem rat_add_gcd (x y:Rat) (g:Nat) (hg:Nat.gcd x.den y.den=g) (h1:g≠1) (n:Int) (hn:n=x.num*((y.den/g:Nat):Int)+y.num*((x.den/g:Nat):Int)):
  (x+y).num=n/((Nat.gcd n.natAbs g:Nat):Int)∧(x+y).den=x.den/g*y.den/Nat.gcd n.natAbs g:=by
 subst hg;subst hn
 show(Rat.add x y).num=_∧(Rat.add x y).den=_
 unfold Rat.add
 simp[h1]
theorem tdiv_nat (a b:Nat):(a:Int).tdiv (b:Int)=((a/b:Nat):Int):=by
 rw[Int.tdiv_eq_ediv_of_nonneg (by omega)];exact(Int.natCast_ediv a b).symm
theorem add_parts (x y:Rat) (g r:Nat) (l t n:Int) (hg:g=Nat.gcd x.den y.den) (hl:l=(y.den:Int).tdiv g) (ht:t=(x.den:Int).tdiv g) (hn:n=x.num*l+y.num*t) (hr:r=Nat.gcd n.natAbs g):
  (x+y).num=n.tdiv r∧(((x+y).den:Nat):Int)=t*(y.den:Int).tdiv r:=by
 have hx0:=x.den_nz
 have hy0:=y.den_nz
 have hrg:r∣g:=hr ▸ Nat.gcd_dvd_right _ _
 have hgy:g∣y.den:=hg ▸ Nat.gcd_dvd_right _ _
 have hrn:(r:Int)∣n:=Int.ofNat_dvd_left.2 (hr ▸ Nat.gcd_dvd_left _ _)
 have hry:r∣y.den:=Nat.dvd_trans hrg hgy
 rw[tdiv_nat] at hl ht
 rw[tdiv_nat]
 by_cases h1:g=1
 ·obtain⟨e1,e2⟩:=rat_add_coprime x y (hg ▸ h1)
  have hr1:r=1:=by rw[hr,h1];simp
  rw[h1] at hl ht
  simp only[Nat.div_one] at hl ht
  rw[e1,e2,hr1,hn,hl,ht]
  simp
 ·obtain⟨e1,e2⟩:=rat_add_gcd x y g hg.symm h1 n (by rw[hn,hl,ht])
  rw[←hr] at e1 e2
  rw[e1,e2,ht,Int.tdiv_eq_ediv_of_dvd hrn]
  refine⟨rfl,?_⟩
  rw[Nat.mul_div_assoc _ hry]
  simp
theorem add_zero_of {x y:Rat} {g:Nat} {l t n:Int} (hg:g=Nat.gcd x.den y.den) (hl:l=(y.den:Int).tdiv g) (ht:t=(x.den:Int).tdiv g) (hn:n=x.num*l+y.num*t) (h0:n=0):x+y=0:=by
 have:=(add_parts x y g _ l t n hg hl ht hn rfl).1
 rw[h0] at this
 exact Rat.num_eq_zero.1 (by rw[this];simp)
theorem add_left {x y:Rat} (h:x.den=1):(x+y).num=x.num*y.den+y.num∧(x+y).den=y.den:=by
 obtain⟨e1,e2⟩:=rat_add_coprime x y (by rw[h];simp)
 rw[e1,e2,h];simp
theorem add_right {x y:Rat} (h:y.den=1):(x+y).num=y.num*x.den+x.num∧(x+y).den=x.den:=by
 obtain⟨e1,e2⟩:=rat_add_coprime x y (by rw[h];simp)
 rw[e1,e2,h];simp;omega
theorem add_RL {x y:Rat} {K:Nat} (hx:RL K x) (hy:RL K y):RL (2*K+1) (x+y):=by
 obtain⟨e1,e2⟩:=add_parts x y _ _ _ _ _ rfl rfl rfl rfl rfl
 obtain⟨x1,x2⟩:=hx
 obtain⟨y1,y2⟩:=hy
 have l1:=natAbs_tdiv_le (y.den:Int) (Nat.gcd x.den y.den:Int) K y2
 have l2:=natAbs_tdiv_le (x.den:Int) (Nat.gcd x.den y.den:Int) K x2
 have l3:=nl_add_int _ _ _ (nl_mul_int _ _ _ _ x1 l1) (nl_mul_int _ _ _ _ y1 l2)
 refine⟨?_,?_⟩
 ·rw[e1]
  exact natAbs_tdiv_le _ _ _ (Nat.le_trans l3 (by omega))
 ·have h:nl (((x+y).den:Nat):Int).natAbs≤K+K:=by
   rw[e2]
   exact nl_mul_int _ _ _ _ l2 (natAbs_tdiv_le _ _ _ y2)
  exact Nat.le_trans h (by omega)
end Go.Proofs.YtlojjipfnejbnaaGreatDoor
set_option maxHeartbeats 8000000
set_option maxRecDepth 100000
namespace Go.Proofs.YtlojjipfnejbnaaGreatDoor
open Go.RowKit Sos
section
variable {a b:World} [u:Up a b]
theorem NI.up {v:Value} {n:Int} (h:NI a v n):NI b v n:=h.below u.out
theorem NQ.up {v:Value} {n:Rat} (h:NQ a v n):NQ b v n:=h.below u.out
end
theorem rat_sum (x y:Rat):((x.num*(y.den:Int)+y.num*(x.den:Int):Int):Rat)/(((x.den:Int)*(y.den:Int):Int):Rat)=x+y:=by
 have hd:(y.den:Rat)≠0:=fun e=>y.den_nz (by have:=Rat.intCast_inj.1 (show((y.den:Int):Rat)=((0:Int):Rat) from e);omega)
 have hx:(x.den:Rat)≠0:=fun e=>x.den_nz (by have:=Rat.intCast_inj.1 (show((x.den:Int):Rat)=((0:Int):Rat) from e);omega)
 conv=>rhs;rw[rat_eq x,rat_eq y]
 rw[Rat.intCast_add,Rat.intCast_mul,Rat.intCast_mul,Rat.intCast_mul,Rat.intCast_natCast,Rat.intCast_natCast]
 grind
theorem rAdd_any (x y:Rat) (vx vy:Value) (w:World) (hx:NQ w vx x) (hy:NQ w vy y) (K:Nat) (kx:RL K x) (ky:RL K y) (hK:2*K+1≤549755813888):Calls Tryz.prog 124 #[vx,vy] w (RetNQ w (x+y)):=by
 obtain⟨s,A,k,c,s',A',k',c',rfl⟩:=hx.form
 obtain⟨t,C,l,d,t',C',l',d',rfl⟩:=hy.form
 obtain⟨k1,k2⟩:=kx
 obtain⟨k3,k4⟩:=ky
 have q1:=hx.len
 have q2:=hy.len
 by_cases h1:x.den=1∧y.den=1
 ·have r1:((k':Int)==0)=true:=by rw[q1];simpa using h1.1
  have r2:((l':Int)==0)=true:=by rw[q2];simpa using h1.2
  have HZ:Hid ((x+y).num=x.num+y.num∧(x+y).den=1):=by
   obtain⟨e1,e2⟩:=add_left (y:=y) h1.1
   rw[h1.2] at e1 e2
   exact⟨by rw[e1];simp,e2⟩
  clear q1 q2 h1
  obtain⟨W,eW,hb,X,Y,R⟩:=box3 w [.bool s,.slice A k c,.bool s',.slice A' k' c'] 96 [.bool t,.slice C l d,.bool t',.slice C' l' d'] 96 [.bool false,.slice none 0 0,.bool false,.slice none 0 0] 96
  have cM:=aa X.g4 (aa Y.g4 R.g4)
  go_enter Tryz.func124,Tryz.ntmps124
  go_wp2_with fail
  (try rw[eW]);clear eW
  with_reducible refine(numAdd_any x.num y.num _ _ _ (hx.below hb).num (hy.below hb).num (by omega) (by omega)).mono ?_
  rintro e1 w1 ⟨v1,rfl,h1,hb1⟩
  obtain⟨s1,A1,k1,c1,rfl⟩:=h1.form
  replace X:=X.below hb1
  replace Y:=Y.below hb1
  replace R:=R.below hb1
  replace cM:=aa X.k4 (aa Y.k4 R.g4)
  replace hb:=hb.trans (hb1.mono hb.size)
  go_wp2_with fail
  obtain⟨W6,eW6,R,hb,hk,ff⟩:=R.mut4 hb (by omega) (.bool s1) (.slice A1 k1 c1) (.bool false) (.slice none 0 0) rfl rfl
  replace X:=ff X (by omega)
  replace Y:=ff Y (by omega)
  replace h1:=h1.keep hk
  rw[eW6];clear eW6
  replace cM:=aa X.k4 (aa Y.k4 R.k4)
  exact bodyPost_ret (v:= .agg #[.bool s1,.slice A1 k1 c1,.bool false,.slice none 0 0]) (by simp[results,Tryz.results124,go_sem,R.k4]) rfl ⟨_,rfl,NQ.of h1 (NI.zero _) HZ.out.1 (denI_one.2 HZ.out.2),hb⟩
 ·have hor:((k':Int)==0)=false∨((k':Int)==0)=true∧((l':Int)==0)=false:=by
   rw[q1,q2]
   by_cases h2:x.den=1
   ·exact .inr ⟨by simpa using h2,by simpa using fun h=>h1 ⟨h2,h⟩⟩
   ·exact .inl (by simpa using h2)
  have l1:nl (x.num*(y.den:Int)).natAbs≤2*K:=by rw[Int.natAbs_mul,Int.natAbs_natCast];have:=nl_mul x.num.natAbs y.den;omega
  have l2:nl (y.num*(x.den:Int)).natAbs≤2*K:=by rw[Int.natAbs_mul,Int.natAbs_natCast];have:=nl_mul y.num.natAbs x.den;omega
  have l3:nl ((x.den:Int)*(y.den:Int)).natAbs≤549755813888:=by rw[Int.natAbs_mul,Int.natAbs_natCast,Int.natAbs_natCast];have:=nl_mul x.den y.den;omega
  have l4:nl (x.num*(y.den:Int)+y.num*(x.den:Int)).natAbs≤549755813888:=by
   have h1:nl (x.num*(y.den:Int)+y.num*(x.den:Int)).natAbs≤nl ((x.num*(y.den:Int)).natAbs+(y.num*(x.den:Int)).natAbs):=nl_mono (by omega)
   have:=nl_add (x.num*(y.den:Int)).natAbs (y.num*(x.den:Int)).natAbs
   omega
  have hd0:(x.den:Int)*(y.den:Int)≠0:=Int.mul_ne_zero (by have:=x.den_nz;omega) (by have:=y.den_nz;omega)
  have hfr:=fun W u v h h'=>frac_num (x.num*(y.den:Int)+y.num*(x.den:Int)) ((x.den:Int)*(y.den:Int)) u v W h h' hd0 l4 l3
  rw[rat_sum] at hfr
  have hmA:=fun W v h h'=>numMul_any x.num (y.den:Int) (.agg #[.bool s,.slice A k c]) v W h h' (by omega) (by rw[Int.natAbs_natCast];omega)
  have hmB:=fun W v h h'=>numMul_any y.num (x.den:Int) (.agg #[.bool t,.slice C l d]) v W h h' (by omega) (by rw[Int.natAbs_natCast];omega)
  have hmC:=fun W u v h h'=>numMul_any (x.den:Int) (y.den:Int) u v W h h' (by rw[Int.natAbs_natCast];omega) (by rw[Int.natAbs_natCast];omega)
  have had:=fun W u v h h'=>numAdd_any (x.num*(y.den:Int)) (y.num*(x.den:Int)) u v W h h' (by omega) (by omega)
  have hdx:=fun W h=>den_num x (.agg #[.bool s,.slice A k c,.bool s',.slice A' k' c']) W h (by omega)
  have hdy:=fun W h=>den_num y (.agg #[.bool t,.slice C l d,.bool t',.slice C' l' d']) W h (by omega)
  clear q1 q2 h1 l1 l2 l3 l4 hd0
  generalize x.num*(y.den:Int)+y.num*(x.den:Int)=N at *
  generalize (x.den:Int)*(y.den:Int)=D at *
  generalize x.num*(y.den:Int)=xn at *
  generalize y.num*(x.den:Int)=yn at *
  rcases hor with r1|⟨r1,r2⟩
  all_goals (
   obtain⟨W,eW,hb,X,Y,R⟩:=box3 w [.bool s,.slice A k c,.bool s',.slice A' k' c'] 96 [.bool t,.slice C l d,.bool t',.slice C' l' d'] 96 [.bool false,.slice none 0 0,.bool false,.slice none 0 0] 96
   have cM:=aa X.g4 (aa Y.g4 R.g4)
   go_enter Tryz.func124,Tryz.ntmps124
   go_wp2_with fail
   (try rw[eW]);clear eW
   replace hx:=hx.below hb
   replace hy:=hy.below hb
   have n1:w.heap.size+1+1≠w.heap.size:=by omega
   have n2:w.heap.size+1+1≠w.heap.size+1:=by omega
   go_region_held3 (fun w'=>C4 w' w.heap.size (.bool s) (.slice A k c) (.bool s') (.slice A' k' c')∧C4 w' (w.heap.size+1) (.bool t) (.slice C l d) (.bool t') (.slice C' l' d'))
    (first|(with_reducible exact⟨X.up.k4,Y.up.k4⟩)|(refine⟨?_,?_⟩<;>(repeat (first|with_reducible exact X.up.k4|with_reducible exact Y.up.k4|with_reducible refine kf4 n1 ?_|with_reducible refine kf4 n2 ?_))))
    (first
     |(go_at_call 149;(with_reducible refine(hdx _ hx.up).mono ?_);rintro e1 w1 ⟨v1,rfl,h1,hb1⟩;obtain⟨s1,A1,k1,c1,rfl⟩:=h1.form;have:=St.mk hb1)
     |(go_at_call 149;(with_reducible refine(hdy _ hy.up).mono ?_);rintro e1 w1 ⟨v1,rfl,h1,hb1⟩;obtain⟨s1,A1,k1,c1,rfl⟩:=h1.form;have:=St.mk hb1)
     |(go_at_call 148;(with_reducible refine(hmA _ _ hx.num.up (NI.up (by assumption))).mono ?_);rintro e1 w1 ⟨v1,rfl,h1,hb1⟩;obtain⟨s1,A1,k1,c1,rfl⟩:=h1.form;have:=St.mk hb1)
     |(go_at_call 148;(with_reducible refine(hmB _ _ hy.num.up (NI.up (by assumption))).mono ?_);rintro e1 w1 ⟨v1,rfl,h1,hb1⟩;obtain⟨s1,A1,k1,c1,rfl⟩:=h1.form;have:=St.mk hb1)
     |(go_at_call 148;(with_reducible refine(hmC _ _ _ (NI.up (by assumption)) (NI.up (by assumption))).mono ?_);rintro e1 w1 ⟨v1,rfl,h1,hb1⟩;obtain⟨s1,A1,k1,c1,rfl⟩:=h1.form;have:=St.mk hb1)
     |(go_at_call 166;(with_reducible refine(had _ _ _ (NI.up (by assumption)) (NI.up (by assumption))).mono ?_);rintro e1 w1 ⟨v1,rfl,h1,hb1⟩;obtain⟨s1,A1,k1,c1,rfl⟩:=h1.form;have:=St.mk hb1)
     |(go_at_call 122;(with_reducible refine(hfr _ _ _ (NI.up (by assumption)) (NI.up (by assumption))).mono ?_);rintro e5 w5 ⟨v5,rfl,h5,hb5⟩;obtain⟨s5,A5,k5,c5,s6,A6,k6,c6,rfl⟩:=h5.form;have:=St.mk hb5;have U5:=R.up (b:=w5);have hb5':=bup (b:=w5) hb;have cR:=U5.g4))
   all_goals (
    go_wp2_with fail
    obtain⟨W6,e6,U6,hb6,hk6,ff⟩:=U5.mut4 hb5' (by omega) (.bool s5) (.slice A5 k5 c5) (.bool s6) (.slice A6 k6 c6) rfl rfl
    rw[e6];clear e6
    exact bodyPost_ret (v:= .agg #[.bool s5,.slice A5 k5 c5,.bool s6,.slice A6 k6 c6]) (by simp[results,Tryz.results124,go_sem,U6.k4]) rfl ⟨_,rfl,h5.keep hk6,hb6⟩))
theorem rSub_any (x y:Rat) (vx vy:Value) (w:World) (hx:NQ w vx x) (hy:NQ w vy y) (K:Nat) (kx:RL K x) (ky:RL K y) (hK:2*K+1≤549755813888):Calls Tryz.prog 131 #[vx,vy] w (RetNQ w (x-y)):=by
 obtain⟨s,A,k,c,s',A',k',c',rfl⟩:=hx.form
 obtain⟨t,C,l,d,t',C',l',d',rfl⟩:=hy.form
 have k5:RL K (-y):=⟨by rw[show(-y).num= -y.num from rfl,Int.natAbs_neg];exact ky.1,ky.2⟩
 have hng:=fun W h=>rNeg_any y (.agg #[.bool t,.slice C l d,.bool t',.slice C' l' d']) W h (Nat.le_trans ky.1 (by omega))
 have had:=fun W v h h'=>rAdd_any x (-y) (.agg #[.bool s,.slice A k c,.bool s',.slice A' k' c']) v W h h' K kx k5 hK
 rw[←Rat.sub_eq_add_neg] at had
 clear kx ky k5
 obtain⟨W,eW,hb,X,Y,R⟩:=box3 w [.bool s,.slice A k c,.bool s',.slice A' k' c'] 96 [.bool t,.slice C l d,.bool t',.slice C' l' d'] 96 [.bool false,.slice none 0 0,.bool false,.slice none 0 0] 96
 have cM:=aa X.g4 (aa Y.g4 R.g4)
 go_enter Tryz.func131,Tryz.ntmps131
 go_wp2_with fail
 (try rw[eW]);clear eW
 replace hx:=hx.below hb
 replace hy:=hy.below hb
 replace hx:=hx.drew
 replace hy:=hy.drew
 replace X:=X.drew
 replace Y:=Y.drew
 replace R:=R.drew
 replace hb:=hb.drew
 replace cM:=aa X.k4 (aa Y.k4 R.g4)
 have n_R_X:w.heap.size+1+1≠w.heap.size:=by omega
 have n_R_Y:w.heap.size+1+1≠w.heap.size+1:=by omega
 go_region_held3 (fun w'=>C4 w' w.heap.size (.bool s) (.slice A k c) (.bool s') (.slice A' k' c')∧C4 w' (w.heap.size+1) (.bool t) (.slice C l d) (.bool t') (.slice C' l' d'))
  (first|(with_reducible exact⟨X.k4,Y.k4⟩)|(refine⟨?_,?_⟩<;>(repeat (first|with_reducible exact X.k4|with_reducible exact Y.k4|with_reducible refine kf4 n_R_X ?_|with_reducible refine kf4 n_R_Y ?_))))
  (first
   |(go_at_call 167;(with_reducible refine(hng _ hy).mono ?_);rintro e1 w1 ⟨v1,rfl,h1,hb1⟩;obtain⟨s1,A1,k1,c1,s2,A2,k2,c2,rfl⟩:=h1.form;replace X:=X.below hb1;replace Y:=Y.below hb1;replace R:=R.below hb1;replace cM:=aa X.k4 (aa Y.k4 R.g4);replace hk:=KM.below hb1;replace hx:=hx.keep hk;replace hy:=hy.keep hk;(try replace h5:=h5.keep hk);replace hb:=hb.trans (hb1.mono hb.size))
   |(go_at_call 124;(with_reducible refine(had _ _ hx h1).mono ?_);rintro e5 w5 ⟨v5,rfl,h5,hb5⟩;obtain⟨s5,A5,k5,c5,s6,A6,k6,c6,rfl⟩:=h5.form;replace X:=X.below hb5;replace Y:=Y.below hb5;replace R:=R.below hb5;replace cM:=aa X.k4 (aa Y.k4 R.g4);replace hk:=KM.below hb5;replace hx:=hx.keep hk;replace hy:=hy.keep hk;(try replace h1:=h1.keep hk);replace hb:=hb.trans (hb5.mono hb.size)))
 all_goals (
  go_wp2_with fail
  obtain⟨W6,eW6,R,hb,hk,ff⟩:=R.mut4 hb (by omega) (.bool s5) (.slice A5 k5 c5) (.bool s6) (.slice A6 k6 c6) rfl rfl
  replace X:=ff X (by omega)
  replace Y:=ff Y (by omega)
  replace h5:=h5.keep hk
  rw[eW6];clear eW6
  replace cM:=aa X.k4 (aa Y.k4 R.k4)
  exact bodyPost_ret (v:= .agg #[.bool s5,.slice A5 k5 c5,.bool s6,.slice A6 k6 c6]) (by simp[results,Tryz.results131,go_sem,R.k4]) rfl ⟨_,rfl,h5,hb⟩
  )
theorem rInt_any (n:Nat) (w:World) (hn:n≤1000000):Calls Tryz.prog 99 #[.int .i64 (n:Int)] w (RetNQ w (n:Rat)):=by
 have HZ:Hid (((n:Nat):Rat).num=n∧denI ((n:Nat):Rat)=0):=⟨rfl,denI_one.2 rfl⟩
 have hf:=fun W=>numFromInt_any n W hn
 obtain⟨W,eW,hb,R⟩:=box1 w [.bool false,.slice none 0 0,.bool false,.slice none 0 0] 96
 have cM:=R.g4
 go_enter Tryz.func99,Tryz.ntmps99
 go_wp2_with fail
 (try rw[eW]);clear eW
 with_reducible refine(hf _).mono ?_
 rintro e1 w1 ⟨v1,rfl,h1,hb1⟩
 obtain⟨s1,A1,k1,c1,rfl⟩:=h1.form
 replace R:=R.below hb1
 replace cM:=R.g4
 replace hb:=hb.trans (hb1.mono hb.size)
 go_wp2_with fail
 obtain⟨W6,eW6,R,hb,hk,ff⟩:=R.mut4 hb (by omega) (.bool s1) (.slice A1 k1 c1) (.bool false) (.slice none 0 0) rfl rfl
 replace h1:=h1.keep hk
 rw[eW6];clear eW6
 replace cM:=R.k4
 exact bodyPost_ret (v:= .agg #[.bool s1,.slice A1 k1 c1,.bool false,.slice none 0 0]) (by simp[results,Tryz.results99,go_sem,R.k4]) rfl ⟨_,rfl,NQ.of h1 (NI.zero _) HZ.out.1 HZ.out.2,hb⟩
end Go.Proofs.YtlojjipfnejbnaaGreatDoor
set_option maxHeartbeats 8000000
set_option maxRecDepth 100000
namespace Go.Proofs.YtlojjipfnejbnaaGreatDoor
open Go.RowKit Sos
def RdC (t:List UInt8) (s6:Value) (w wx:World):Prop:=∃k:Nat,s6= .int .i64 (k:Int)∧CutN t k∧w=wx
def RdX (w:World) (gx:Nat) (l:List UInt8) (wx:World):Prop:=∃q s A k c s' A' k' c',Hid (parseN l=some q)∧RL 1073741824 q∧Bx wx gx [.bool s,.slice A k c,.bool s',.slice A' k' c'] 96∧NQ wx (.agg #[.bool s,.slice A k c,.bool s',.slice A' k' c']) q∧Bx wx w.heap.size [.bool false,.slice none 0 0,.bool false,.slice none 0 0] 96∧Below w.heap.size w wx
def RetRN (w:World) (l:List UInt8) (e:Ending) (w':World):Prop:=∃v q,e= .returned (.tuple #[v,.bool (rd l)])∧NQ w' v q∧(∀r,readL l=some r→q=r)∧Below w.heap.size w w'
theorem numRead_any (l:List UInt8) (w:World) (hl:l.length≤1073741824):Calls Tryz.prog 70 #[.string ⟨l.toArray⟩] w (RetRN w l):=by
 have hsz:(⟨l.toArray⟩:ByteArray).size=l.length:=by simp[ByteArray.size]
 have hul:=unS_len l
 obtain⟨W,eW,hb,R⟩:=box1 w [.bool false,.slice none 0 0,.bool false,.slice none 0 0] 96
 have cM:=R.g4
 go_enter Tryz.func70,Tryz.ntmps70
 go_upto_region 2 with fail
 (try rw[eW]);clear eW
 go_cut [5] (fun s5 wx=>s5= .bool (l.head?==some 45)∧W=wx)
 case first=>
  cases l with
  |nil=>
   go_wp2_with fail
   go_meet
   exact⟨rfl,rfl⟩
  |cons c m=>
   rw[List.length_cons] at hsz hl
   have hp:decide (0<m.length+1)=true:=by simp
   have hix:({ data:=(c :: m).toArray }:ByteArray)[0]'(by rw[hsz];omega)=c:=rfl
   by_cases hc:c=45
   ·subst hc
    go_wp2_with fail
    go_meet
    exact⟨rfl,rfl⟩
   ·have hc2:((c.toNat:Int)==45)=false:=by
     rw[beq_eq_false_iff_ne];intro e;exact hc (UInt8.toNat_inj.1 (show c.toNat=(45:UInt8).toNat by show c.toNat=45;omega))
    have HC:Hid (((c :: m).head?==some 45)=false):=by unfold Hid;simpa using hc
    clear hc
    go_wp2_with fail
    go_meet
    exact⟨by rw[HC.out],rfl⟩
 case rest=>
  obtain⟨rfl,rfl⟩:=hcut
  generalize hnb:(l.head?==some 45)=nb at *
  have HNB:=Lib.hid hnb
  clear hnb
  go_upto_if 22 with fail
  go_cut [4] (fun s4 wx=>s4= .string ⟨(unS l).toArray⟩∧W=wx)
  case first=>
   cases nb with
   |false=>
    have HU:Hid (unS l=l):=by unfold Hid unS;rw[HNB.out];rfl
    go_wp2_with fail
    go_meet
    exact⟨by rw[HU.out],rfl⟩
   |true=>
    have HU:Hid (unS l=l.drop 1):=by unfold Hid unS;rw[HNB.out,if_pos rfl,List.drop_one]
    have hp:(1:Int)≤(l.length:Int):=by
     have:=HNB.out
     cases l with
     |nil=>cases this
     |cons c m=>rw[List.length_cons];omega
    go_wp2_with fail
    go_meet
    exact⟨by rw[HU.out];exact congrArg Value.string (ba_eq (by rw[extract_list,List.take_of_length_le (by simp)])),rfl⟩
  case rest=>
   obtain⟨rfl,rfl⟩:=hcut
   generalize ht:unS l=t at *
   have HT:=Lib.hid ht
   clear ht
   have htz:(⟨t.toArray⟩:ByteArray).size=t.length:=by simp[ByteArray.size]
   have htl:t.length≤1073741824:=by omega
   go_upto_block 0 with fail
   go_cut [6] (fun s6 wx=>RdC t s6 W wx)
   case first=>
    go_wp2_with fail
    go_loopg [6,7] t.length (fun g s6 s7 wr=>∃k:Nat,Hid (k+g=t.length)∧s6= .int .i64 (t.length:Int)∧s7= .int .i64 (k:Int)∧Hid (∀c∈t.take k,noSl c=true)∧W=wr)
    case atStart=>exact⟨0,by unfold Hid;omega,rfl,rfl,by unfold Hid;simp,rfl⟩
    case round=>
     obtain⟨k,HK,rfl,rfl,HN,rfl⟩:=hrel
     have hk0:(0:Int)≤(k:Int):=by omega
     cases gk with
     |zero=>
      have hge:¬(k:Int)<(t.length:Int):=by have:=HK.out;omega
      have HF:Hid (k=t.length):=by have:=HK.out;unfold Hid;omega
      go_wp2_with fail
      go_meet
      exact⟨k,by rw[HF.out],CutN.stop HN.out (by have:=HF.out;omega) (.inl (by have:=HF.out;omega)),rfl⟩
     |succ g=>
      have hkl:k<t.length:=by have:=HK.out;omega
      have hki:(k:Int)<(t.length:Int):=by omega
      obtain⟨ch,hch,hcl⟩:∃ch,({ data:=t.toArray }:ByteArray)[k]'(by rw[htz];exact hkl)=ch∧t[k]? =some ch:=⟨_,rfl,by rw[List.getElem?_eq_getElem hkl];rfl⟩
      have HCL:=Lib.hid hcl
      have htk:t.take (k+1)=t.take k++[ch]:=by rw[List.take_add_one,hcl];rfl
      have HTK:=Lib.hid htk
      clear hcl htk
      by_cases hc:ch=47
      ·subst hc
       go_wp2_with fail
       go_meet
       exact⟨k,rfl,CutN.stop HN.out (by omega) (.inr ⟨_,HCL.out,by decide⟩),rfl⟩
      ·have hc2:((ch.toNat:Int)==47)=false:=by
        rw[beq_eq_false_iff_ne];intro e;exact hc (UInt8.toNat_inj.1 (show ch.toNat=(47:UInt8).toNat by show ch.toNat=47;omega))
       have HC:Hid (noSl ch=true):=by unfold Hid noSl;simpa using hc
       clear hc
       go_wp2_with fail
       go_roundg g
       case rel=>exact⟨k+1,by have:=HK.out;unfold Hid;omega,rfl,by go_num,by
        unfold Hid
        rw[HTK.out]
        intro c hcm
        rcases List.mem_append.1 hcm with h|h
        ·exact HN.out c h
        ·rw[List.mem_singleton.1 h];exact HC.out,rfl⟩
       case measure=>omega
   case rest=>
    obtain⟨k,rfl,hC,rfl⟩:=hcut
    have hk0:(0:Int)≤(k:Int):=by omega
    have hkl:=hC.le
    have hki:(k:Int)≤(t.length:Int):=by omega
    have hx1:({ data:=t.toArray }:ByteArray).extract 0 k=⟨(t.take k).toArray⟩:=ba_eq (by rw[extract_list];simp)
    have htk:(t.take k).length≤1073741824:=by rw[List.length_take];omega
    have hfd:=fun W=>fromDigits_any (t.take k) W htk
    rw[←HT.out] at hC
    have hpb:=parse_bad hC
    have hpw:=parse_whole hC
    have hpt:=parse_tail hC
    rw[HT.out,HNB.out] at hpw hpt
    rw[HT.out] at hpb
    clear hC
    go_wp2_with fail
    clear hx1
    with_reducible refine(hfd _).mono ?_
    rintro e1 w1 ⟨v1,z1,rfl,h1,hz1,hb1⟩
    obtain⟨s1,A1,k1,c1,rfl⟩:=h1.form
    clear hfd
    replace R:=R.below hb1
    replace cM:=R.g4
    replace hb:=hb.trans (hb1.mono hb.size)
    by_cases hn:t.take k≠[]∧(t.take k).all isDig=true
    ·have r0:decide (t.take k≠[]∧(t.take k).all isDig=true)=true:=decide_eq_true hn
     replace hz1:=hz1 hn.2
     replace hpw:=hpw hn
     replace hpt:=hpt hn
     have hln:=decVal_nl (digs_of hn.2)
     rw[hz1] at h1
     rw[r0]
     clear hpb hn r0 hz1
     generalize decVal (t.take k)=n at *
     have hmk:=fun W h=>make1_sg nb (.slice A1 k1 c1) n (sgn nb n) W h (by omega) rfl
     have hlz:nl (sgn nb n).natAbs≤1073741824:=by rw[sgn_natAbs];omega
     have h1w:=h1.words
     rw[Int.natAbs_natCast] at h1w
     clear hln h1
     generalize sgn nb n=z at *
     obtain⟨w2,e2,hb2,E⟩:=box1 w1 [.bool s1,.slice A1 k1 c1] 94
     replace R:=R.below hb2
     replace h1w:=h1w.below hb2
     replace hb:=hb.trans (hb2.mono hb.size)
     replace cM:=aa R.g4 E.g2
     go_wp2_with fail
     (try rw[e2]);clear e2
     with_reducible refine(hmk _ h1w).mono ?_
     rintro e3 w3 ⟨v3,rfl,h3,hb3⟩
     obtain⟨s3,A3,k3,c3,rfl⟩:=h3.form
     replace R:=R.below hb3
     replace hb:=hb.trans (hb3.mono hb.size)
     obtain⟨w4,e4,hb4,X⟩:=box1 w3 [.bool s3,.slice A3 k3 c3,.bool false,.slice none 0 0] 96
     have hgx:w.heap.size<w3.heap.size:=R.lt
     replace R:=R.below hb4
     replace h3:=h3.below hb4
     replace hb:=hb.trans (hb4.mono hb.size)
     replace cM:=aa R.g4 X.g4
     have E4:=Lib.hid e4
     clear E hmk h1w hb1 hb2 hb3 e4
     go_upto_if 56 with fail
     rw[E4.out]
     clear E4 hb4
     generalize w3.heap.size=gx at *
     go_cut [] (fun wx=>RdX w gx l wx)
     case first=>
      by_cases hkt:k<t.length
      ·have hpe:=hpt hkt
       have hkt1:(k:Int)<(t.length:Int):=by omega
       have hkt2:(k:Int)+1≤(t.length:Int):=by omega
       have hx2:({ data:=t.toArray }:ByteArray).extract (k+1) t.length=⟨(t.drop (k+1)).toArray⟩:=ba_eq (by rw[extract_list,List.take_of_length_le (by simp)])
       obtain⟨d,hd⟩:∃d,t.drop (k+1)=d:=⟨_,rfl⟩
       have hdl:d.length≤1073741824:=by rw[←hd,List.length_drop];omega
       rw[hd] at hx2 hpe
       have hfd:=fun W=>fromDigits_any d W hdl
       clear hpw hpt hkt hd
       go_wp2_with fail
       clear hx2
       with_reducible refine(hfd _).mono ?_
       rintro e5 w5 ⟨v5,z5,rfl,h5,hz5,hb5⟩
       obtain⟨s5,A5,k5,c5,rfl⟩:=h5.form
       clear hfd
       obtain⟨w6,e6,hb6,E⟩:=box1 w5 [.bool s5,.slice A5 k5 c5] 94
       replace R:=(R.below hb5).below hb6
       replace X:=(X.below hb5).below hb6
       replace h3:=(h3.below hb5).below hb6
       replace h5:=h5.below hb6
       replace hb:=(hb.trans (hb5.mono hb.size)).trans (hb6.mono (hb.trans (hb5.mono hb.size)).size)
       replace cM:=aa R.g4 (aa X.g4 E.g2)
       by_cases hdd:d≠[]∧d.all isDig=true
       ·have r1:decide (d≠[]∧d.all isDig=true)=true:=decide_eq_true hdd
        rw[hz5 hdd.2] at h5
        have hln:=decVal_nl (digs_of hdd.2)
        have hsg:=fun W h=>numSign_any ((decVal d:Nat):Int) (.agg #[.bool s5,.slice A5 k5 c5]) W h (by rw[Int.natAbs_natCast];omega)
        rw[r1]
        by_cases h0:decVal d=0
        ·rw[if_neg (fun h=>h.2.2 h0)] at hpe
         have HL:=Lib.hid (lost_of hpe)
         have hs0:((decVal d:Nat):Int).sign=0:=by rw[h0];rfl
         rw[hs0] at hsg
         clear hpe hz5 r1 hdd hs0 h0
         go_wp2_with fail
         clear e6
         with_reducible refine(hsg _ h5).mono ?_
         rintro e7 w7 ⟨rfl,hb7⟩
         replace R:=R.below hb7
         replace hb:=hb.trans (hb7.mono hb.size)
         replace cM:=R.g4
         clear hsg X E
         go_wp2_with fail
         (try clear e6)
         obtain⟨W6,eW6,R,hb,hk,ff⟩:=R.mut4 hb (by omega) (.bool false) (.slice none 0 0) (.bool false) (.slice none 0 0) rfl rfl
         rw[eW6];clear eW6
         replace cM:=R.k4
         exact bodyPost_ret (v:= .tuple #[.agg #[.bool false,.slice none 0 0,.bool false,.slice none 0 0],.bool false]) (by simp[results,Tryz.results70,go_sem,R.k4]) rfl ⟨_,0,by rw[HL.out.1],NQ.zero _,HL.out.2 0,hb⟩
        ·rw[if_pos ⟨hdd.1,hdd.2,h0⟩] at hpe
         have HPE:=Lib.hid hpe
         have hs0:((decVal d:Nat):Int).sign=1:=Int.sign_eq_one_of_pos (by omega)
         rw[hs0] at hsg
         have hRL:=frac_RL z ((decVal d:Nat):Int) 1073741824 hlz (by rw[Int.natAbs_natCast];omega) (by decide)
         have hfr:=fun W u v h h'=>frac_num z ((decVal d:Nat):Int) u v W h h' (by omega) (by omega) (by rw[Int.natAbs_natCast];omega)
         clear hpe hz5 r1 hdd hs0 h0 hln
         generalize (z:Rat)/(((decVal d:Nat):Int):Rat)=q at *
         generalize ((decVal d:Nat):Int)=dz at *
         go_wp2_with fail
         clear e6
         with_reducible refine(hsg _ h5).mono ?_
         rintro e7 w7 ⟨rfl,hb7⟩
         replace R:=R.below hb7
         replace X:=X.below hb7
         replace E:=E.below hb7
         replace h3:=h3.below hb7
         replace h5:=h5.below hb7
         replace hb:=hb.trans (hb7.mono hb.size)
         replace cM:=aa R.g4 (aa X.g4 E.g2)
         clear hsg
         go_wp2_with fail
         with_reducible refine(hfr _ _ _ h3 h5).mono ?_
         rintro e8 w8 ⟨v8,rfl,h8,hb8⟩
         obtain⟨s8,A8,k8,c8,s9,A9,k9,c9,rfl⟩:=h8.form
         clear hfr h3 h5 E
         replace R:=R.below hb8
         replace X:=X.below hb8
         replace cM:=aa R.g4 X.g4
         replace hb:=hb.trans (hb8.mono hb.size)
         go_wp2_with fail
         have R_l:=R.lt
         have X_l:=X.lt
         have hsz_:=hb.size
         obtain⟨W6,eW6,X,hb,hk,ff⟩:=X.mut4 hb (by omega) (.bool s8) (.slice A8 k8 c8) (.bool s9) (.slice A9 k9 c9) rfl rfl
         replace R:=ff R (by omega)
         replace h8:=h8.keep hk
         rw[eW6];clear eW6
         replace cM:=aa R.k4 X.k4
         go_meet
         exact⟨_,_,_,_,_,_,_,_,_,HPE,hRL,X,h8,R,hb⟩
       ·have r1:decide (d≠[]∧d.all isDig=true)=false:=decide_eq_false hdd
        rw[if_neg (fun h=>hdd ⟨h.1,h.2.1⟩)] at hpe
        have HL:=Lib.hid (lost_of hpe)
        rw[r1]
        clear hpe hz5 r1 hdd
        go_wp2_with fail
        (try clear e6)
        obtain⟨W6,eW6,R,hb,hk,ff⟩:=R.mut4 hb (by omega) (.bool false) (.slice none 0 0) (.bool false) (.slice none 0 0) rfl rfl
        rw[eW6];clear eW6
        replace cM:=R.k4
        exact bodyPost_ret (v:= .tuple #[.agg #[.bool false,.slice none 0 0,.bool false,.slice none 0 0],.bool false]) (by simp[results,Tryz.results70,go_sem,R.k4]) rfl ⟨_,0,by rw[HL.out.1],NQ.zero _,HL.out.2 0,hb⟩
      ·have hki2:¬(k:Int)<(t.length:Int):=by omega
       have HPW:=Lib.hid (hpw (by omega))
       clear hpw hpt hkt
       go_wp2_with fail
       go_meet
       exact⟨_,_,_,_,_,_,_,_,_,HPW,⟨hlz,by show nl 1≤_;rw[nl_one (by decide) (by decide)];decide⟩,X,NQ.of h3 (NI.zero _) rfl (denI_int _),R,hb⟩
     case rest=>
      clear R X hb cM h3 hpw hpt
      obtain⟨q,s5,A5,k5,c5,s6,A6,k6,c6,HQ,hK,X,hq,R,hb⟩:=hcut
      have cM:=aa R.g4 X.g4
      have htx:=fun W h=>text_any q (.agg #[.bool s5,.slice A5 k5 c5,.bool s6,.slice A6 k6 c6]) W h _ hK (by decide)
      have n1:w.heap.size≠gx:=by omega
      go_wp2_with fail
      go_region_held3 (fun w'=>C4 w' gx (.bool s5) (.slice A5 k5 c5) (.bool s6) (.slice A6 k6 c6))
       (first|(with_reducible exact X.up.k4)|(repeat (first|with_reducible exact X.up.k4|with_reducible refine kf4 n1 ?_)))
       (first
        |(go_at_call 71;(with_reducible refine(htx _ hq.up).mono ?_);rintro e7 w7 ⟨rfl,hb7⟩;have:=St.mk hb7;have R7:=R.up (b:=w7);have hb7':=bup (b:=w7) hb;have cR:=R7.g4))
      all_goals (
       go_wp2_with fail
       obtain⟨W6,e6,R6,hb6,hk6,ff⟩:=R7.mut4 hb7' (by omega) (.bool s5) (.slice A5 k5 c5) (.bool s6) (.slice A6 k6 c6) rfl rfl
       rw[e6];clear e6
       have hF:=found_of HQ.out
       have hrd:(ratTxt q==l)=rd l:=by rw[hF.ok,Bool.eq_iff_iff,beq_iff_eq,decide_eq_true_iff]
       exact bodyPost_ret (v:= .tuple #[.agg #[.bool s5,.slice A5 k5 c5,.bool s6,.slice A6 k6 c6],.bool (ratTxt q==l)]) (by simp[results,Tryz.results70,go_sem,R6.k4]) rfl ⟨_,q,by rw[hrd],hq.up.keep hk6,hF.val,hb6⟩)
    ·have r0:decide (t.take k≠[]∧(t.take k).all isDig=true)=false:=decide_eq_false hn
     obtain⟨l1,l2⟩:=lost_of (hpb hn)
     have HL:=Lib.hid l1
     have HL2:=Lib.hid l2
     rw[r0]
     clear hpb hpw hpt hn hz1 l1 l2 r0
     obtain⟨w2,e2,hb2, -⟩:=box1 w1 [.bool s1,.slice A1 k1 c1] 94
     replace R:=R.below hb2
     replace cM:=R.g4
     replace hb:=hb.trans (hb2.mono hb.size)
     go_wp2_with fail
     clear e2
     obtain⟨W6,eW6,R,hb,hk,ff⟩:=R.mut4 hb (by omega) (.bool false) (.slice none 0 0) (.bool false) (.slice none 0 0) rfl rfl
     rw[eW6];clear eW6
     replace cM:=R.k4
     exact bodyPost_ret (v:= .tuple #[.agg #[.bool false,.slice none 0 0,.bool false,.slice none 0 0],.bool false]) (by simp[results,Tryz.results70,go_sem,R.k4]) rfl ⟨_,0,by rw[HL.out],NQ.zero _,HL2.out 0,hb⟩
end Go.Proofs.YtlojjipfnejbnaaGreatDoor
set_option maxHeartbeats 8000000
set_option maxRecDepth 100000
namespace Go.Proofs.YtlojjipfnejbnaaGreatDoor
open Go.RowKit Sos
abbrev R4 (w:World) (b o:Nat) (v0 v1 v2 v3:Value):Prop:=w.cell? ⟨b,o,none⟩=some v0∧w.cell? ⟨b,o+1,none⟩=some v1∧w.cell? ⟨b,o+2,none⟩=some v2∧w.cell? ⟨b,o+3,none⟩=some v3
def QRow (w:World) (rows:List (List Value)) (qs:List Rat):Prop:=∀(i:Nat) (q:Rat),qs[i]? =some q→∃s A l c s' A' l' c',rows[i]? =some [Value.bool s,Value.slice A l c,Value.bool s',Value.slice A' l' c']∧NQ w (.agg #[.bool s,.slice A l c,.bool s',.slice A' l' c']) q
def QsAt (w:World) (v:Value) (qs:List Rat):Prop:=∃A c,v= .slice A qs.length c∧qs.length≤c∧(A=none∧qs=[]∨∃b rows,A=some ⟨b,0,none⟩∧Rw w b 4 rows 96∧qs.length≤rows.length∧QRow w rows qs)
def OwnQ (w:World) (b:Nat) (qs:List Rat):Prop:=∃rows,Rw w b 4 rows 96∧qs.length≤rows.length∧QRow w rows qs
def StepQ (g:Nat) (w W:World):Prop:=KM w W∧StepAt g w W
theorem KM.put {w:World} {p:Addr} {c:Value} (hp:w.cell? p=some c) (hc:NoInt c) (v:Value):KM w (w.setCell p v):=
 ⟨by simp,fun q k x hq=>by
  rw[World.cell?_setCell_other _ _ _ _ ?_,hq]
  rintro rfl
  rw[hp] at hq
  injection hq with hq
  exact absurd hq (hc _ _)⟩
theorem infoQ:(Tryz.prog.info? 96).map (fun i=>(i.zero,i.size,i.bytes))=some (some (.agg #[.bool false,.slice none 0 0,.bool false,.slice none 0 0]),4,64):=by kernel_rfl
section
variable {w w':World} {b:Nat} {qs:List Rat} {v:Value} {rows:List (List Value)}
theorem QRow.keep (h:QRow w rows qs) (hk:KM w w'):QRow w' rows qs:=fun i q hi=>by
 obtain⟨s,A,l,c,s',A',l',c',h1,h2⟩:=h i q hi
 exact⟨s,A,l,c,s',A',l',c',h1,h2.keep hk⟩
theorem QRow.take (h:QRow w rows qs) (m:Nat):QRow w rows (qs.take m):=fun i q hi=>by
 rw[List.getElem?_take] at hi
 split at hi
 ·exact h i q hi
 ·cases hi
theorem QsAt.below (h:QsAt w v qs) (hb:Below w.heap.size w w'):QsAt w' v qs:=by
 obtain⟨A,c,hv,hc,h⟩:=h
 refine⟨A,c,hv,hc,?_⟩
 rcases h with h|⟨b,rows,e,hr,hl,hi⟩
 ·exact .inl h
 ·exact .inr ⟨b,rows,e,hr.below hb,hl,hi.keep (KM.below hb)⟩
theorem QsAt.drew (h:QsAt w v qs):QsAt w.drew v qs:=h.below (Below.refl _ _).drew
theorem QsAt.step {A:Option Addr} {l c g:Nat} (h:QsAt w (.slice A l c) qs) (hs:StepQ g w w') (hne:∀b,A=some ⟨b,0,none⟩→b≠g):QsAt w' (.slice A l c) qs:=by
 obtain⟨A',c',e,hc,h⟩:=h
 refine⟨A',c',e,hc,?_⟩
 simp only[Value.slice.injEq] at e
 obtain⟨rfl,rfl,rfl⟩:=e
 rcases h with h|⟨b,rows,e,hr,hl,hi⟩
 ·exact .inl h
 ·exact .inr ⟨b,rows,e,⟨(hs.2.2.1 b (hne b e)).trans hr.1,hr.2⟩,hl,hi.keep hs.1⟩
theorem QsAt.nil (w:World):QsAt w (.slice none 0 0) []:=⟨none,0,rfl,Nat.le_refl _,.inl ⟨rfl,rfl⟩⟩
theorem QsAt.form (h:QsAt w v qs):∃A c,v= .slice A qs.length c∧qs.length≤c:=by
 obtain⟨A,c,hv,hc,_⟩:=h
 exact⟨A,c,hv,hc⟩
theorem QsAt.cut {A:Option Addr} {c l:Nat} (h:QsAt w (.slice A l c) qs) (m:Nat) (hm:m≤qs.length):QsAt w (.slice A m c) (qs.take m):=by
 obtain⟨A',c',e,hc,h⟩:=h
 simp only[Value.slice.injEq] at e
 obtain⟨rfl,rfl,rfl⟩:=e
 refine⟨A,c,by rw[List.length_take,Nat.min_eq_left hm],by rw[List.length_take];omega,?_⟩
 rcases h with ⟨h,h'⟩|⟨b,rows,e,hr,hl,hi⟩
 ·exact .inl ⟨h,by rw[h'];simp⟩
 ·exact .inr ⟨b,rows,e,hr,by rw[List.length_take];omega,hi.take m⟩
theorem OwnQ.lt (h:OwnQ w b qs):b<w.heap.size:=by
 obtain⟨rows,hr,_⟩:=h
 exact hr.lt
theorem OwnQ.below (h:OwnQ w b qs) (hb:Below w.heap.size w w'):OwnQ w' b qs:=by
 obtain⟨rows,hr,hl,hi⟩:=h
 exact⟨rows,hr.below hb,hl,hi.keep (KM.below hb)⟩
theorem OwnQ.drew (h:OwnQ w b qs):OwnQ w.drew b qs:=h.below (Below.refl _ _).drew
theorem OwnQ.step {g:Nat} (h:OwnQ w b qs) (hs:StepQ g w w') (hne:b≠g):OwnQ w' b qs:=by
 obtain⟨rows,hr,hl,hi⟩:=h
 exact⟨rows,⟨(hs.2.2.1 b hne).trans hr.1,hr.2⟩,hl,hi.keep hs.1⟩
theorem OwnQ.nums (h:OwnQ w b qs) (c:Nat) (hc:qs.length≤c):QsAt w (.slice (some ⟨b,0,none⟩) qs.length c) qs:=by
 obtain⟨rows,hr,hl,hi⟩:=h
 exact⟨_,c,rfl,hc,.inr ⟨b,rows,rfl,hr,hl,hi⟩⟩
theorem OwnQ.free (h:OwnQ w b qs) (j:Nat):w.frozen? ⟨b,j,none⟩=false:=by
 obtain⟨rows,hr,_⟩:=h
 exact hr.free j
theorem OwnQ.at_ (h:OwnQ w b qs) {i:Nat} {q:Rat} (hi:qs[i]? =some q):
  ∃s B m d s' B' m' d',R4 w b (i*4) (.bool s) (.slice B m d) (.bool s') (.slice B' m' d')∧NQ w (.agg #[.bool s,.slice B m d,.bool s',.slice B' m' d']) q:=by
 obtain⟨rows,hr,hl,hir⟩:=h
 obtain⟨s,B,m,d,s',B',m',d',h1,h2⟩:=hir i q hi
 exact⟨s,B,m,d,s',B',m',d',⟨hr.cell 0 h1 rfl,hr.cell 1 h1 rfl,hr.cell 2 h1 rfl,hr.cell 3 h1 rfl⟩,h2⟩
theorem QsAt.at_ {A:Option Addr} {c l:Nat} (h:QsAt w (.slice A l c) qs) {i:Nat} {q:Rat} (hi:qs[i]? =some q):
  ∃b s B m d s' B' m' d',A=some ⟨b,0,none⟩∧b<w.heap.size∧R4 w b (i*4) (.bool s) (.slice B m d) (.bool s') (.slice B' m' d')∧NQ w (.agg #[.bool s,.slice B m d,.bool s',.slice B' m' d']) q:=by
 obtain⟨A',c',e,hc,h⟩:=h
 simp only[Value.slice.injEq] at e
 obtain⟨rfl,rfl,rfl⟩:=e
 rcases h with ⟨-,h⟩|⟨b,rows,e,hr, -,hir⟩
 ·rw[h] at hi;simp at hi
 ·obtain⟨s,B,m,d,s',B',m',d',h1,h2⟩:=hir i q hi
  exact⟨b,s,B,m,d,s',B',m',d',e,hr.lt,⟨hr.cell 0 h1 rfl,hr.cell 1 h1 rfl,hr.cell 2 h1 rfl,hr.cell 3 h1 rfl⟩,h2⟩
theorem OwnQ.stored (h:OwnQ w b qs) {i:Nat} (hi:i<qs.length) {s s':Bool} {A A':Option Addr} {l c l' c':Nat} {q:Rat} (hn:NQ w (.agg #[.bool s,.slice A l c,.bool s',.slice A' l' c']) q):
  let W:=(((w.setCell ⟨b,i*4,none⟩ (.bool s)).setCell ⟨b,i*4+1,none⟩ (.slice A l c)).setCell ⟨b,i*4+2,none⟩ (.bool s')).setCell ⟨b,i*4+3,none⟩ (.slice A' l' c')
  OwnQ W b (qs.set i q)∧StepQ b w W:=by
 obtain⟨rows,hr,hl,hir⟩:=h
 obtain⟨s1,A1,l1,c1,s2,A2,l2,c2,h1,h2⟩:=hir i qs[i] (List.getElem?_eq_getElem hi)
 have hlt:i<rows.length:=by omega
 have r1:=hr.set 0 h1 (by omega) (.bool s)
 have g1:(rows.set i ([Value.bool s1,.slice A1 l1 c1,.bool s2,.slice A2 l2 c2].set 0 (.bool s)))[i]? =some [.bool s,.slice A1 l1 c1,.bool s2,.slice A2 l2 c2]:=by rw[List.getElem?_set_self hlt];rfl
 have r2:=r1.set 1 g1 (by omega) (.slice A l c)
 rw[List.set_set] at r2
 have g2:(rows.set i ([Value.bool s,.slice A1 l1 c1,.bool s2,.slice A2 l2 c2].set 1 (.slice A l c)))[i]? =some [.bool s,.slice A l c,.bool s2,.slice A2 l2 c2]:=by rw[List.getElem?_set_self hlt];rfl
 have r3:=r2.set 2 g2 (by omega) (.bool s')
 rw[List.set_set] at r3
 have g3:(rows.set i ([Value.bool s,.slice A l c,.bool s2,.slice A2 l2 c2].set 2 (.bool s')))[i]? =some [.bool s,.slice A l c,.bool s',.slice A2 l2 c2]:=by rw[List.getElem?_set_self hlt];rfl
 have r4:=r3.set 3 g3 (by omega) (.slice A' l' c')
 rw[List.set_set] at r4
 have a0:=hr.cell 0 h1 rfl
 have a1:=r1.cell 1 g1 rfl
 have a2:=r2.cell 2 g2 rfl
 have a3:=r3.cell 3 g3 rfl
 have hk:=(((KM.put a0 (NoInt.bool _) (.bool s)).trans (KM.put a1 (NoInt.slice _ _ _) (.slice A l c))).trans (KM.put a2 (NoInt.bool _) (.bool s'))).trans (KM.put a3 (NoInt.slice _ _ _) (.slice A' l' c'))
 refine⟨⟨_,r4,by simpa using hl,fun j m hj=> ?_⟩,hk,(((Keep.put a0 (NoInt.bool _) _).trans (Keep.put a1 (NoInt.slice _ _ _) _)).trans (Keep.put a2 (NoInt.bool _) _)).trans (Keep.put a3 (NoInt.slice _ _ _) _),fun g hg=> ?_,by simp,rfl,rfl,rfl⟩
 ·by_cases e:i=j
  ·subst e
   rw[List.getElem?_set_self hi] at hj
   injection hj with hj
   subst hj
   exact⟨s,A,l,c,s',A',l',c',by rw[List.getElem?_set_self hlt];rfl,hn.keep hk⟩
  ·rw[List.getElem?_set_ne e] at hj
   obtain⟨a1,a2,a3,a4,a5,a6,a7,a8,k1,k2⟩:=hir j m hj
   exact⟨a1,a2,a3,a4,a5,a6,a7,a8,by rw[List.getElem?_set_ne e];exact k1,k2.keep hk⟩
 ·rw[Below.heap_setCell _ ⟨b,i*4+3,none⟩ _ g hg,Below.heap_setCell _ ⟨b,i*4+2,none⟩ _ g hg,Below.heap_setCell _ ⟨b,i*4+1,none⟩ _ g hg,Below.heap_setCell _ ⟨b,i*4,none⟩ _ g hg]
theorem OwnQ.made {n:Nat} (h:Rw w b 4 (List.replicate n [.bool false,.slice none 0 0,.bool false,.slice none 0 0]) 96):OwnQ w b (List.replicate n 0):=
 ⟨_,h,by simp,fun i m hi=>⟨false,none,0,0,false,none,0,0,by
  have:=(List.getElem?_eq_some_iff.1 hi).1
  rw[List.length_replicate] at this
  rw[List.getElem?_replicate,if_pos this],by
  have:=List.getElem?_replicate (n:=n) (a:=(0:Rat)) (i:=i)
  rw[hi] at this
  split at this
  ·injection this with this;subst this;exact NQ.zero w
  ·cases this⟩⟩
theorem Rw.src {k n:Nat} {t:TypeId} (hr:Rw w b k rows t) (h0:0<k) (hn:n≤rows.length):Src w (some ⟨b,0,none⟩) (rows.take n).flatten:=by
 have hk:∀r∈rows.take n,r.length=k:=fun r h=>hr.2 r (List.mem_of_mem_take h)
 refine .inr ⟨b,0,rfl,fun j u hu=> ?_⟩
 have hj:j<n*k:=by
  have:=(List.getElem?_eq_some_iff.1 hu).1
  rw[flat_len hk,List.length_take,Nat.min_eq_left hn] at this
  exact this
 have hd:j/k<n:=by rw[Nat.div_lt_iff_lt_mul h0];exact hj
 obtain⟨r,hri⟩:∃r,(rows.take n)[j/k]? =some r:=⟨_,List.getElem?_eq_getElem (by rw[List.length_take];omega)⟩
 have h1:=flat_get hk hri (Nat.mod_lt j h0)
 have e:j/k*k+j%k=j:=by rw[Nat.mul_comm];exact Nat.div_add_mod j k
 rw[e,hu] at h1
 rw[List.getElem?_take,if_pos hd] at hri
 have:=hr.cell (j%k) hri h1.symm
 rw[e] at this
 rw[Nat.zero_add]
 exact this
theorem QsAt.srcs {A:Option Addr} {c l:Nat} (h:QsAt w (.slice A l c) qs):
  ∃rows:List (List Value),rows.length=qs.length∧l=qs.length∧(∀r∈rows,r.length=4)∧Src w A rows.flatten∧QRow w rows qs∧∀u∈rows.flatten,u.oneCell'=true:=by
 obtain⟨A',c',e,hc,h⟩:=h
 simp only[Value.slice.injEq] at e
 obtain⟨rfl,rfl,rfl⟩:=e
 rcases h with ⟨rfl,rfl⟩|⟨b,rows,rfl,hr,hl,hi⟩
 ·exact⟨[],rfl,rfl,(fun _ h=>by cases h),.inl rfl,(fun i q h=>by simp at h),(fun _ h=>by cases h)⟩
 ·have hi':QRow w (rows.take qs.length) qs:=fun i q hq=>by
   obtain⟨s,A,l,c,s',A',l',c',e1,e2⟩:=hi i q hq
   exact⟨s,A,l,c,s',A',l',c',by rw[List.getElem?_take,if_pos (List.getElem?_eq_some_iff.1 hq).1];exact e1,e2⟩
  refine⟨rows.take qs.length,by rw[List.length_take];omega,rfl,fun r h=>hr.2 r (List.mem_of_mem_take h),hr.src (by decide) hl,hi',fun u hu=> ?_⟩
  obtain⟨r,hr1,hr2⟩:=List.mem_flatten.1 hu
  obtain⟨i,hi1⟩:=List.mem_iff_getElem?.1 hr1
  have h1:=(List.getElem?_eq_some_iff.1 hi1).1
  rw[List.length_take] at h1
  obtain⟨s,A,l,c,s',A',l',c',e1,_⟩:=hi' i _ (List.getElem?_eq_getElem (by omega))
  rw[hi1] at e1
  injection e1 with e1
  subst e1
  simp at hr2
  rcases hr2 with rfl|rfl|rfl|rfl<;>rfl
theorem own_rowsQ {base n:Nat} (h:w.ownsRow base 96 4 v n rows.flatten) (hk:∀r∈rows,r.length=4) (hn:rows.length=n) (hqs:qs.length=n) (hi:QRow w rows qs):
  QsAt w v qs∧(v= .slice none 0 0∨∃g cap,v= .slice (some ⟨g,0,none⟩) n cap∧base≤g∧OwnQ w g qs):=by
 rcases h.2 with ⟨rfl,h'⟩|⟨g,cap,cur,rfl,hb,hg,hc,hm,hs,ht⟩
 ·obtain rfl:qs=[]:=List.eq_nil_of_length_eq_zero (by omega)
  exact⟨QsAt.nil w,.inl rfl⟩
 ·obtain⟨rows',h1,h2,h3⟩:=chunks 4 cap cur.toList (by simpa using hs)
  have hO:OwnQ w g qs:=by
   refine⟨rows',⟨by unfold Bx;rw[hg,h2],h3⟩,by omega,fun i m hm'=> ?_⟩
   obtain⟨s,A,l,c,s',A',l',c',e1,e2⟩:=hi i m hm'
   refine⟨s,A,l,c,s',A',l',c',?_,e2⟩
   have hin:i<n:=by rw[←hqs];exact(List.getElem?_eq_some_iff.1 hm').1
   obtain⟨r',hr'⟩:∃r',rows'[i]? =some r':=⟨_,List.getElem?_eq_getElem (by omega)⟩
   rw[hr']
   congr 1
   have hl':=h3 r' (List.mem_of_getElem? hr')
   refine List.ext_getElem? (fun j=> ?_)
   by_cases hj:j<4
   ·rw[←flat_get h3 hr' hj,←flat_get hk e1 hj,h2,←ht,List.getElem?_take,if_pos (by omega)]
   ·rw[List.getElem?_eq_none (by omega),List.getElem?_eq_none (by simp;omega)]
  have:=hO.nums cap (by omega)
  rw[hqs] at this
  exact⟨this,.inr ⟨g,cap,rfl,hb,hO⟩⟩
theorem own_emptyQ (w:World):(w.alloc (.cells #[] 96)).ownsRow w.heap.size 96 4 (.slice (some ⟨w.heap.size,0,none⟩) 0 0) 0 []:=
 ⟨by simp,.inr ⟨w.heap.size,0,#[],rfl,Nat.le_refl _,heap_alloc_new w _,Nat.le_refl _,by decide,rfl,rfl⟩⟩
end
section
variable {w:World} {ops:Array Oper} {rest:List Oper} {o:Oper} {a:Act} {Q:Exit→Act→World→Prop}
theorem wpList_copyQ (hgd:o.guard=none) {s x:Operand} (ho:o.op= .call { callee:= .builtin .append,args:= #[s,x],argTypes:= #[63,63] })
  (hs:a.eval s= .slice (some ⟨w.heap.size,0,none⟩) 0 0) {A:Option Addr} {l c:Nat} {qs:List Rat} (hx:a.eval x= .slice A l c) (hq:QsAt w (.slice A l c) qs) (hl:qs.length≤1073741824)
  (h:∀v' w',QsAt w' v' qs→(v'= .slice none 0 0∨∃g cap,v'= .slice (some ⟨g,0,none⟩) qs.length cap∧w.heap.size≤g∧OwnQ w' g qs)→Below w.heap.size w w'→wpList Tryz.prog ops Q rest (a.put o.dst v') w'):
  wpList Tryz.prog ops Q (o :: rest) a (w.alloc (.cells #[] 96)):=by
 have hbA:Below w.heap.size w (w.alloc (.cells #[] 96)):=(Below.refl _ _).alloc (Nat.le_refl _) _
 obtain⟨rows,hrl,rfl,hrk,hsrc,hir,hone⟩:=hq.srcs
 refine wpList_append hgd ho 96 _ 4 64 Tryz.underlying63 infoQ rfl (by decide) w.heap.size (.slice (some ⟨w.heap.size,0,none⟩) 0 0) 0 [] hs (own_emptyQ w) rows.flatten hx (by rw[flat_len hrk,hrl]) (hsrc.below hbA) hone (by omega) (by omega) (by simp) ?_
 intro v' w' ho' hg' _
 have hb':Below w.heap.size w w':=⟨hg'.os,hg'.tape,hg'.output,Nat.le_trans (by simp) hg'.size,fun k hk=>(hg'.block k (by simp;omega) (fun e=>by simp[Value.ownBlock] at e;omega)).trans (Below.heap_alloc w _ k hk)⟩
 rw[Nat.zero_add,List.nil_append] at ho'
 obtain⟨h1,h2⟩:=own_rowsQ ho' hrk hrl rfl (hir.keep (KM.below hb'))
 exact h v' w' h1 h2 hb'
end
section
variable {a b:World} [u:Up a b]
theorem QsAt.up {v:Value} {qs:List Rat} (h:QsAt a v qs):QsAt b v qs:=h.below u.out
theorem OwnQ.up {g:Nat} {qs:List Rat} (h:OwnQ a g qs):OwnQ b g qs:=h.below u.out
theorem R4.up {g o:Nat} {v0 v1 v2 v3:Value} (h:R4 a g o v0 v1 v2 v3) (hl:g<a.heap.size):R4 b g o v0 v1 v2 v3:=
 ⟨(u.out.cell (p:=⟨g,o,none⟩) hl).trans h.1,(u.out.cell (p:=⟨g,o+1,none⟩) hl).trans h.2.1,(u.out.cell (p:=⟨g,o+2,none⟩) hl).trans h.2.2.1,(u.out.cell (p:=⟨g,o+3,none⟩) hl).trans h.2.2.2⟩
end
theorem R4.old {w w':World} {B g o:Nat} {v0 v1 v2 v3:Value} (h:R4 w g o v0 v1 v2 v3) (hb:Below B w w') (hl:g<B):R4 w' g o v0 v1 v2 v3:=
 ⟨(hb.cell (p:=⟨g,o,none⟩) hl).trans h.1,(hb.cell (p:=⟨g,o+1,none⟩) hl).trans h.2.1,(hb.cell (p:=⟨g,o+2,none⟩) hl).trans h.2.2.1,(hb.cell (p:=⟨g,o+3,none⟩) hl).trans h.2.2.2⟩
def Dry (w:World) (v:Value):Prop:=∀g,v.ownBlock=some g→∀cur t f,w.heap[g]? =some (.cells cur t f)→∀y∈cur.toList,NoInt y
def GrowQ (w:World) (base:Nat) (v:Value) (qs:List Rat):Prop:=(∃rows,w.ownsRow base 96 4 v qs.length rows.flatten∧rows.length=qs.length∧(∀r∈rows,r.length=4)∧QRow w rows qs)∧Dry w v
theorem GrowQ.nil (w:World) {base:Nat}:GrowQ w base (.slice none 0 0) []:=⟨⟨[],World.ownsRow_nil _ _ _ _,rfl,(fun _ h=>by cases h),(fun i q h=>by simp at h)⟩,fun g h=>by simp[Value.ownBlock] at h⟩
theorem GrowQ.nums {w:World} {base:Nat} {v:Value} {qs:List Rat} (h:GrowQ w base v qs):QsAt w v qs:=by
 obtain⟨⟨rows,h1,h2,h3,h4⟩, -⟩:=h
 exact(own_rowsQ h1 h3 h2 rfl h4).1
theorem GrowQ.below {w w':World} {base:Nat} {v:Value} {qs:List Rat} (h:GrowQ w base v qs) (hb:Below w.heap.size w w'):GrowQ w' base v qs:=by
 obtain⟨⟨rows,h1,h2,h3,h4⟩,hN⟩:=h
 have hlt:∀g,v.ownBlock=some g→g<w.heap.size:=fun g e=>by
  rcases h1.2 with ⟨rfl,_⟩|⟨g2,cap,cur,rfl,_,hg,_⟩
  ·simp[Value.ownBlock] at e
  ·simp[Value.ownBlock] at e;subst e;exact(Array.getElem?_eq_some_iff.1 hg).1
 refine⟨⟨rows,⟨h1.1,?_⟩,h2,h3,h4.keep (KM.below hb)⟩,fun g e cur t f hg=>hN g e cur t f ((hb.block g (hlt g e)).symm.trans hg)⟩
 rcases h1.2 with h|⟨g2,cap,cur,rfl,hB,hg,h⟩
 ·exact .inl h
 ·exact .inr ⟨g2,cap,cur,rfl,hB,(hb.block g2 (Array.getElem?_eq_some_iff.1 hg).1).trans hg,h⟩
theorem GrowQ.drew {w:World} {base:Nat} {v:Value} {qs:List Rat} (h:GrowQ w base v qs):GrowQ w.drew base v qs:=h.below (Below.refl _ _).drew
theorem GrowQ.up {a b:World} [u:Up a b] {base:Nat} {v:Value} {qs:List Rat} (h:GrowQ a base v qs):GrowQ b base v qs:=h.below u.out
theorem noInt_zeros (n:Nat):∀y∈Builtin.zeroCells #[Value.bool false,.slice none 0 0,.bool false,.slice none 0 0] n,NoInt y:=fun y hy=>by
 unfold Builtin.zeroCells at hy
 obtain⟨j,_,rfl⟩:=Array.mem_map.1 hy
 have hs:(#[Value.bool false,.slice none 0 0,.bool false,.slice none 0 0]:Array Value).size=4:=rfl
 rw[hs]
 rcases(show j%4=0∨j%4=1∨j%4=2∨j%4=3 by omega) with h|h|h|h<;>rw[h]
 ·exact NoInt.bool _
 ·exact NoInt.slice _ _ _
 ·exact NoInt.bool _
 ·exact NoInt.slice _ _ _
theorem run_pushQ (w:World) (ty:TypeId) {base:Nat} {v:Value} {qs:List Rat} (hG:GrowQ w base v qs) {g c:Nat}
  {s0 s1:Bool} {A0 A1:Option Addr} {k0 k1 c0 c1:Nat} (hB:Bx w g [.bool s0,.slice A0 k0 c0,.bool s1,.slice A1 k1 c1] 96) {q:Rat} (hq:NQ w (.agg #[.bool s0,.slice A0 k0 c0,.bool s1,.slice A1 k1 c1]) q) (hl:qs.length≤1073741824) (hb:base≤w.heap.size):
  ∃v' w',(Builtin.append_ #[63,63] ty #[v,.slice (some ⟨g,0,none⟩) 1 c]).run Tryz.prog w= .ok v' w'∧GrowQ w' base v' (qs++[q])∧Below base w w':=by
 obtain⟨⟨rows,h1,h2,h3,h4⟩,hN⟩:=hG
 obtain⟨i,hi,hz0,hz1,hz2⟩:=info_parts infoQ
 have hnews:∀j u,[Value.bool s0,.slice A0 k0 c0,.bool s1,.slice A1 k1 c1][j]? =some u→w.cell? ((⟨g,0,none⟩:Addr).add j)=some u:=fun j u hu=>by
  have:=hB.cell j hu
  unfold Addr.add
  split
  ·rename_i h0;subst h0;exact this
  ·simpa using this
 have hni:∀u∈[Value.bool s0,.slice A0 k0 c0,.bool s1,.slice A1 k1 c1],NoInt u∧u.oneCell'=true:=fun u hu=>by
  simp at hu
  rcases hu with rfl|rfl|rfl|rfl
  ·exact⟨NoInt.bool _,rfl⟩
  ·exact⟨NoInt.slice _ _ _,rfl⟩
  ·exact⟨NoInt.bool _,rfl⟩
  ·exact⟨NoInt.slice _ _ _,rfl⟩
 obtain⟨v',w',hr,ho,hg,_,hat⟩:=run_append_own_at (P:=Tryz.prog) w base 63 ty 96 i _ 4 64 Tryz.underlying63 hi hz0 hz1 hz2 rfl (by decide) v qs.length _ h1 ⟨g,0,none⟩ 1 c [.bool s0,.slice A0 k0 c0,.bool s1,.slice A1 k1 c1] rfl hnews (fun u hu=>(hni u hu).2) (by unfold maxLen;omega) (by omega) hb
 have hkm:KM w w':=⟨hg.size,fun p k x hp=>by
  obtain⟨b,o,sp⟩:=p
  obtain rfl:sp=none:=World.cell?_spot hp
  by_cases e:v.ownBlock=some b
  ·rcases h1.2 with ⟨rfl,_⟩|⟨g2,cap,cur,rfl,_,hgc,_⟩
   ·simp[Value.ownBlock] at e
   ·have e2:g2=b:=by simpa [Value.ownBlock] using e
    subst e2
    rw[cell_of_row w g2 o cur _ (0,0) hgc,←Array.getElem?_toList] at hp
    exact absurd rfl (hN g2 e cur _ _ hgc _ (List.mem_of_getElem? hp) k x)
  ·exact(World.cell?_of_block (hg.block b (block_lt_of_cell (a:=⟨b,o,none⟩) hp) (fun e'=>e e'.symm))).trans hp⟩
 have hbw:Below base w w':=⟨hg.os,hg.tape,hg.output,hg.size,fun k hk=>hg.block k (by omega) (fun e=>by
  rcases h1.2 with ⟨rfl,_⟩|⟨g2,_,_,rfl,hb2,_⟩
  ·simp[Value.ownBlock] at e
  ·simp[Value.ownBlock] at e;omega)⟩
 have hdry:Dry w' v':=by
  have fresh:∀(vals:List Value) (cap m:Nat),(∀y∈vals,NoInt y)→Dry (w.drew.alloc (.cells (vals.toArray++[Value.bool s0,.slice A0 k0 c0,.bool s1,.slice A1 k1 c1].toArray++Builtin.zeroCells #[Value.bool false,.slice none 0 0,.bool false,.slice none 0 0] m) 96)) (.slice (some ⟨w.heap.size,0,none⟩) (qs.length+1) cap):=fun vals cap m hv g2 e cur t f hc=>by
   simp[Value.ownBlock] at e
   subst e
   have:=heap_alloc_new w.drew (.cells (vals.toArray++[Value.bool s0,.slice A0 k0 c0,.bool s1,.slice A1 k1 c1].toArray++Builtin.zeroCells #[Value.bool false,.slice none 0 0,.bool false,.slice none 0 0] m) 96)
   have h5:=this.symm.trans hc
   simp only[Option.some.injEq,Obj.cells.injEq] at h5
   rw[←h5.1]
   intro y hy
   rw[Array.toList_append,Array.toList_append] at hy
   rcases List.mem_append.1 hy with hy|hy
   ·rcases List.mem_append.1 hy with hy|hy
    ·exact hv y hy
    ·exact(hni y hy).1
   ·exact noInt_zeros m y (Array.mem_toList_iff.1 hy)
  rcases h1.2 with ⟨rfl,h0⟩|⟨g2,cap,cur,rfl,hB2,hgc,hnc,hcm,hs,ht⟩
  ·have h6:=run_append_nil (P:=Tryz.prog) w 63 ty 96 i _ Tryz.underlying63 hi hz0 ⟨g,0,none⟩ 1 c [.bool s0,.slice A0 k0 c0,.bool s1,.slice A1 k1 c1] (by rw[hz1];rfl) hnews (by decide) (by decide) (by rw[hz2];decide)
   rw[hr] at h6
   injection h6 with e1 e2
   subst e1 e2
   have hq0:qs.length=0:=by omega
   have:=fresh [] (grownCap w 1 0 96) (grownCap w 1 0 96-1) (fun _ h=>by cases h)
   rw[hq0] at this
   exact this
  ·have hdc:∀y∈cur.toList,NoInt y:=hN g2 rfl cur _ _ hgc
   by_cases hroom:qs.length+1≤cap
   ·have h6:=run_append_room (P:=Tryz.prog) w 63 ty 96 i Tryz.underlying63 hi g2 qs.length cap cur hgc ⟨g,0,none⟩ 1 c [.bool s0,.slice A0 k0 c0,.bool s1,.slice A1 k1 c1] (by rw[hz1];rfl) hnews (fun u hu=>(hni u hu).2) hroom (by rw[hz1,hs];simp;omega)
    rw[hr] at h6
    injection h6 with e1 e2
    subst e1 e2
    intro g3 e cur' t f hc
    simp[Value.ownBlock] at e
    subst e
    have h7:=(setRow_heap w g2 cur _ 96 _ hgc).symm.trans hc
    simp only[Option.some.injEq,Obj.cells.injEq] at h7
    rw[←h7.1]
    intro y hy
    have hy':y∈cur.toList.take (qs.length*i.size)++[Value.bool s0,.slice A0 k0 c0,.bool s1,.slice A1 k1 c1]++cur.toList.drop (qs.length*i.size+4):=hy
    rcases List.mem_append.1 hy' with hy|hy
    ·rcases List.mem_append.1 hy with hy|hy
     ·exact hdc y (List.mem_of_mem_take hy)
     ·exact(hni y hy).1
    ·exact hdc y (List.mem_of_mem_drop hy)
   ·have holds:∀j y,(cur.toList.take (qs.length*4))[j]? =some y→w.cell? ((⟨g2,0,none⟩:Addr).add j)=some y:=fun j y hj=>by
     have h1:w.cell? ⟨g2,j,none⟩=some y:=by
      rw[cell_of_row w g2 j cur _ (0,0) hgc,←Array.getElem?_toList]
      rw[List.getElem?_take] at hj
      split at hj
      ·exact hj
      ·cases hj
     unfold Addr.add
     split
     ·rename_i h0;subst h0;exact h1
     ·simpa using h1
    have h6:=run_append_grow (P:=Tryz.prog) w 63 ty 96 i _ Tryz.underlying63 hi hz0 ⟨g2,0,none⟩ qs.length cap (cur.toList.take (qs.length*4)) (by rw[hz1,List.length_take];simp;omega) holds ⟨g,0,none⟩ 1 c [.bool s0,.slice A0 k0 c0,.bool s1,.slice A1 k1 c1] (by rw[hz1];rfl) hnews (by omega) (by omega) (growslice_fits (by omega) (by rw[hz2];omega))
    rw[hr] at h6
    injection h6 with e1 e2
    subst e1 e2
    exact fresh _ _ _ (fun y hy=>hdc y (List.mem_of_mem_take hy))
 refine⟨v',w',hr,⟨⟨rows++[[.bool s0,.slice A0 k0 c0,.bool s1,.slice A1 k1 c1]],?_,by simp[h2],fun r hr=> ?_,fun j x hj=> ?_⟩,hdry⟩,hbw⟩
 ·rw[List.length_append,List.flatten_append];simpa using ho
 ·rcases List.mem_append.1 hr with hr|hr
  ·exact h3 r hr
  ·rw[List.mem_singleton.1 hr];rfl
 ·rcases Nat.lt_or_ge j qs.length with hj1|hj1
  ·rw[List.getElem?_append_left hj1] at hj
   obtain⟨a1,a2,a3,a4,a5,a6,a7,a8,x1,x2⟩:=h4 j x hj
   exact⟨a1,a2,a3,a4,a5,a6,a7,a8,by rw[List.getElem?_append_left (by omega)];exact x1,x2.keep hkm⟩
  ·have hj0:=(List.getElem?_eq_some_iff.1 hj).1
   rw[List.length_append,List.length_singleton] at hj0
   obtain rfl:j=qs.length:=by omega
   rw[List.getElem?_append_right (Nat.le_refl _),Nat.sub_self] at hj
   have hxq:x=q:=by simpa using hj.symm
   subst hxq
   exact⟨s0,A0,k0,c0,s1,A1,k1,c1,by rw[List.getElem?_append_right (by omega),h2,Nat.sub_self];rfl,hq.keep hkm⟩
theorem step_pushQ {w:World} {ops:Array Oper} {o:Oper} {a:Act} {K:Act→World→Prop} {Q:Exit→Act→World→Prop} {E:Prop} (hgd:o.guard=none) {s x:Operand}
  (ho:o.op= .call { callee:= .builtin .append,args:= #[s,x],argTypes:= #[63,63] }) {base:Nat} {v:Value} {qs:List Rat} (hs:a.eval s=v) (hG:GrowQ w base v qs) {g c:Nat} (hx:a.eval x= .slice (some ⟨g,0,none⟩) 1 c)
  {s0 s1:Bool} {A0 A1:Option Addr} {k0 k1 c0 c1:Nat} (hB:Bx w g [.bool s0,.slice A0 k0 c0,.bool s1,.slice A1 k1 c1] 96) {q:Rat} (hq:NQ w (.agg #[.bool s0,.slice A0 k0 c0,.bool s1,.slice A1 k1 c1]) q) (hl:qs.length≤1073741824) (hb:base≤w.heap.size)
  (h:∀v' w',GrowQ w' base v' (qs++[q])→Below base w w'→K (a.put o.dst v') w'):if Region.wanted o (yielded ops a.tmps)=true then Oper.wp Tryz.prog o a w K Q else E:=by
 have hw:Region.wanted o (yielded ops a.tmps)=true:=by simp[Region.wanted,hgd]
 rw[if_pos hw]
 obtain⟨v',w',hr,h1,h2⟩:=run_pushQ w o.type hG hB hq hl hb (c:=c)
 unfold Oper.wp execOp
 simp only[ho,resolve,invoke,builtin,Sem.run_bind,Sem.run_pure,Result.andThen_ok,List.map_toArray,List.map_cons,List.map_nil,hs,hx,hr]
 exact h v' w' h1 h2
end Go.Proofs.YtlojjipfnejbnaaGreatDoor
set_option maxHeartbeats 8000000
set_option maxRecDepth 100000
namespace Go.Proofs.YtlojjipfnejbnaaGreatDoor
open Go.RowKit Sos
theorem nums_any (ls:List (List UInt8)) (v:Value) (w:World) (hv:StrsAt w v ls) (hl:ls.length≤1073741824) (hll:∀l∈ls,l.length≤1073741824):
  Calls Tryz.prog 60 #[v] w fun e w'=>∃v',e= .returned (.tuple #[v',.bool (ls.all rd)])∧(ls.all rd=true→∃g,v'= .slice (some ⟨g,0,none⟩) ls.length ls.length∧w.heap.size≤g∧OwnQ w' g (ratsOf ls))∧Below w.heap.size w w':=by
 obtain⟨A,c,rfl,hc⟩:=hv.form
 have hzl:(ratsOf ls).length=ls.length:=List.length_map _
 have HZL:=Lib.hid hzl
 clear hzl
 go_enter Tryz.func60,Tryz.ntmps60
 go_wp2_with (at_make;refine wpList_makeR rfl rfl 96 _ 4 64 Tryz.underlying63 infoQ rfl (by decide) ls.length rfl rfl rfl rfl (by omega) (by omega) ?_;intro w1 hz1 hr1 hb1)
 have R0:=OwnQ.made hr1
 clear hr1 hz1
 go_loopg [5] ls.length (fun k i wr=>∃j,Hid (j+k=ls.length)∧i= .int .i64 j∧OwnQ wr w.heap.size ((ratsOf ls).take j++List.replicate k 0)∧Hid ((ls.take j).all rd=true)∧Below w.heap.size w wr)
 case atStart=>exact⟨0,by unfold Hid;omega,rfl,by simpa using R0,by unfold Hid;simp,hb1⟩
 case round=>
  clear R0 hb1
  obtain⟨j,HJ,rfl,R,HA,hb⟩:=hrel
  generalize wr=wx at *
  have hj0:(0:Int)≤(j:Int):=by omega
  cases gk with
  |zero=>
   have hj:j=ls.length:=HJ.out
   have hall:ls.all rd=true:=by
    have:=HA.out
    rw[hj,List.take_length] at this
    exact this
   subst hj
   rw[List.replicate_zero,List.append_nil,List.take_of_length_le (by rw[HZL.out];exact Nat.le_refl _)] at R
   have HALL:=Lib.hid hall
   clear hall HA
   go_wp2_with fail
   go_ret2
   rw[HALL.out]
   exact⟨_,rfl,fun _=>⟨w.heap.size,rfl,Nat.le_refl _,R⟩,hb⟩
  |succ k=>
   obtain⟨t,ht⟩:∃t,ls[j]? =some t:=⟨_,List.getElem?_eq_getElem (by have:=HJ.out;omega)⟩
   obtain⟨b,off,rfl,hbl,g0⟩:=(hv.below hb).at_ ht
   have htl:=hll t (List.mem_of_getElem? ht)
   have hj1:(j:Int)<(ls.length:Int):=by have:=HJ.out;omega
   have hym:(ratsOf ls)[j]? =some ((readL t).getD 0):=by unfold ratsOf;rw[List.getElem?_map,ht];rfl
   have hfl:=fill_len (ys:=ratsOf ls) (z:=(0:Rat)) (j:=j) (k:=k+1) (by rw[HZL.out];exact HJ.out)
   have hfs:=fill_step (z:=(0:Rat)) (k:=k) hym
   have hgx:j<((ratsOf ls).take j++List.replicate (k+1) 0).length:=by rw[hfl,HZL.out];have:=HJ.out;omega
   have hta:(ls.take (j+1)).all rd=rd t:=by rw[List.take_add_one,ht,Option.toList_some,List.all_append,HA.out];simp
   have hno:rd t=false→ls.all rd=false:=fun h=>by
    rw[List.all_eq_false]
    exact⟨t,List.mem_of_getElem? ht,by rw[h];simp⟩
   have HFS:=Lib.hid hfs
   have HTA:=Lib.hid hta
   have HNO:=Lib.hid hno
   clear hym hfl hfs hta hno ht
   go_wp2_with fail
   with_reducible refine(numRead_any t _ htl).mono ?_
   rintro e2 w2 ⟨v2,q2,rfl,h2,hq2,hb2⟩
   obtain⟨s2,A2,k2,c2,s3,A3,k3,c3,rfl⟩:=h2.form
   replace R:=R.below hb2
   replace hb:=hb.trans (hb2.mono hb.size)
   cases hrd:rd t with
   |false=>
    have HN:=Lib.hid (HNO.out hrd)
    clear HNO HTA hrd hq2
    go_wp2_with fail
    go_ret2
    rw[HN.out]
    exact⟨_,rfl,(fun h=>by cases h),hb.alloc hb.size _⟩
   |true=>
    have HQ:Hid (q2=(readL t).getD 0):=by
     obtain⟨r,hr⟩:=Option.isSome_iff_exists.1 hrd
     unfold Hid;rw[hr];exact hq2 r hr
    rw[hrd] at HTA
    clear HNO hrd hq2
    obtain⟨W3,eW3,hb3,X3⟩:=box1 w2 [.bool s2,.slice A2 k2 c2,.bool s3,.slice A3 k3 c3] 96
    replace R:=R.below hb3
    replace h2:=h2.below hb3
    replace hb:=hb.trans (hb3.mono hb.size)
    obtain⟨s',B',l',d',s'',B'',l'',d'',q0, -⟩:=R.at_ (List.getElem?_eq_getElem hgx)
    have f0:=R.free
    have cX:=X3.k4
    rw[HQ.out] at h2
    generalize (readL t).getD 0=q3 at *
    go_wp2_with fail
    (try rw[eW3]);clear eW3
    go_wp2_with fail
    obtain⟨hp,hst⟩:=R.stored hgx h2
    rw[HFS.out] at hp
    have hb':=below_step hb hst.2 (Nat.le_refl _)
    go_roundg k
    case rel=>exact⟨j+1,by have:=HJ.out;unfold Hid;omega,by go_num,hp,HTA,hb'⟩
    case measure=>omega
theorem texts_any (qs:List Rat) (v:Value) (w:World) (hv:QsAt w v qs) (K:Nat) (hK:∀q∈qs,RL K q) (hK2:K≤549755813888) (hl:qs.length≤1073741824):
  Calls Tryz.prog 49 #[v] w fun e w'=>∃v',e= .returned v'∧StrsAt w' v' (qs.map ratTxt)∧Below w.heap.size w w':=by
 obtain⟨A,c,rfl,hc⟩:=hv.form
 have hzl:(qs.map ratTxt).length=qs.length:=List.length_map _
 have HZL:=Lib.hid hzl
 clear hzl
 go_enter Tryz.func49,Tryz.ntmps49
 go_wp2_with (at_make;refine wpList_makeR rfl rfl 9 _ 1 16 Tryz.underlying22 infoStr rfl (by decide) qs.length rfl rfl rfl rfl (by omega) (by omega) ?_;intro w1 hz1 hr1 hb1)
 have R0:=OwnS.made hr1
 clear hr1 hz1
 go_loopg [4] qs.length (fun k i wr=>∃j,Hid (j+k=qs.length)∧i= .int .i64 j∧OwnS wr w.heap.size ((qs.map ratTxt).take j++List.replicate k [])∧Below w.heap.size w wr)
 case atStart=>exact⟨0,by unfold Hid;omega,rfl,by simpa using R0,hb1⟩
 case round=>
  clear R0 hb1
  obtain⟨j,HJ,rfl,R,hb⟩:=hrel
  generalize wr=wx at *
  have hj0:(0:Int)≤(j:Int):=by omega
  cases gk with
  |zero=>
   have hj:j=qs.length:=HJ.out
   subst hj
   rw[List.replicate_zero,List.append_nil,List.take_of_length_le (by rw[HZL.out];exact Nat.le_refl _)] at R
   have hw:=R.strs qs.length (by rw[HZL.out];exact Nat.le_refl _)
   rw[HZL.out] at hw
   go_wp2_with fail
   go_ret
   exact⟨_,rfl,hw,hb⟩
  |succ k=>
   obtain⟨q,hq⟩:∃q,qs[j]? =some q:=⟨_,List.getElem?_eq_getElem (by have:=HJ.out;omega)⟩
   obtain⟨b,s,B,m,d,s',B',m',d',rfl,hbl,g0,hi⟩:=(hv.below hb).at_ hq
   have hKq:=hK q (List.mem_of_getElem? hq)
   have hj1:(j:Int)<(qs.length:Int):=by have:=HJ.out;omega
   have hym:(qs.map ratTxt)[j]? =some (ratTxt q):=by rw[List.getElem?_map,hq];rfl
   have hfl:=fill_len (ys:=qs.map ratTxt) (z:=([]:List UInt8)) (j:=j) (k:=k+1) (by rw[HZL.out];exact HJ.out)
   have hfs:=fill_step (z:=([]:List UInt8)) (k:=k) hym
   have hgx:j<((qs.map ratTxt).take j++List.replicate (k+1) []).length:=by rw[hfl,HZL.out];have:=HJ.out;omega
   have HFS:=Lib.hid hfs
   clear hym hfl hfs hq
   go_wp2_with fail
   with_reducible refine(text_any q _ _ hi K hKq hK2).mono ?_
   rintro e2 w2 ⟨rfl,hb2⟩
   replace R:=R.below hb2
   replace hb:=hb.trans (hb2.mono hb.size)
   have q0:=R.at_ (List.getElem?_eq_getElem hgx)
   have f0:=R.free j
   generalize ratTxt q=tx at *
   go_wp2_with fail
   obtain⟨hp,hst⟩:=R.stored hgx tx
   rw[HFS.out] at hp
   have hb':=below_step hb hst (Nat.le_refl _)
   go_roundg k
   case rel=>exact⟨j+1,by have:=HJ.out;unfold Hid;omega,by go_num,hp,hb'⟩
   case measure=>omega
end Go.Proofs.YtlojjipfnejbnaaGreatDoor
set_option maxHeartbeats 8000000
set_option maxRecDepth 100000
namespace Go.Proofs.YtlojjipfnejbnaaGreatDoor
open Go.RowKit Sos
def RetTE (w:World) (L:List (List UInt8)) (c:Int) (e:Ending) (w':World):Prop:=∃v',e= .returned (.tuple #[v',.int .i64 c])∧StrsAt w' v' L∧Below w.heap.size w w'
def RetQs (w:World) (qs:List Rat) (e:Ending) (w':World):Prop:=∃v',e= .returned v'∧QsAt w' v' qs∧Below w.heap.size w w'
def rdQ (ls:List (List UInt8)):List Rat:=if vl ls=true then ratsOf ls else []
def RetRQ (w:World) (ls:List (List UInt8)) (e:Ending) (w':World):Prop:=∃v',e= .returned (.tuple #[v',.bool (vl ls)])∧QsAt w' v' (rdQ ls)∧Below w.heap.size w w'
theorem rdQ_yes {ls:List (List UInt8)} (h:vl ls=true):rdQ ls=ratsOf ls:=if_pos h
theorem rdQ_no {ls:List (List UInt8)} (h:vl ls=false):rdQ ls=[]:=if_neg (by rw[h];simp)
theorem sign_zero (q:Rat):(q.num.sign==0)=decide (q=0):=by
 rw[Bool.eq_iff_iff,decide_eq_true_iff,beq_iff_eq,Int.sign_eq_zero_iff_zero]
 exact⟨fun h=>Rat.num_eq_zero.1 h,fun h=>by rw[h];rfl⟩
theorem refRead_any (ls:List (List UInt8)) (v:Value) (w:World) (hv:StrsAt w v ls) (hl:ls.length≤1073741824) (hll:∀l∈ls,l.length≤1073741824) (hK:∀q∈ratsOf ls,RL 1099511627776 q):
  Calls Tryz.prog 53 #[v] w (RetRQ w ls):=by
 obtain⟨A,c,rfl,hc⟩:=hv.form
 go_enter Tryz.func53,Tryz.ntmps53
 go_wp2_with fail
 with_reducible refine(nums_any ls _ _ hv hl hll).mono ?_
 rintro e1 w1 ⟨v1,rfl,h1,hb1⟩
 cases ha:ls.all rd with
 |false=>
  have HV:Hid (vl ls=false):=by unfold Hid vl;rw[decide_eq_false_iff_not,ha];simp
  clear ha h1
  go_wp2_with fail
  go_ret2
  unfold RetRQ
  rw[HV.out,rdQ_no HV.out]
  exact⟨_,rfl,QsAt.nil _,hb1⟩
 |true=>
  obtain⟨g,rfl,hg,R⟩:=h1 ha
  have hzl:=rats_len ls
  have hQ:=R.nums ls.length (by omega)
  rw[hzl] at hQ
  clear h1
  by_cases h65:ls.length≤65
  ·have r0:¬(65:Int)<(ls.length:Int):=by omega
   by_cases h0:ls.length=0
   ·have HV:Hid (vl ls=true):=by
     have:ls=[]:=List.eq_nil_of_length_eq_zero h0
     unfold Hid;rw[this];rfl
    have r1:decide (0<ls.length)=false:=by rw[h0];rfl
    clear ha h0 hzl R
    go_wp2_with fail
    go_ret2
    unfold RetRQ
    rw[HV.out,rdQ_yes HV.out]
    exact⟨_,rfl,hQ,hb1⟩
   ·obtain⟨m,hm⟩:∃m,ls.length=m+1:=⟨ls.length-1,by omega⟩
    have r1:decide (0<ls.length)=true:=by rw[hm];simp
    have r2:(ls.length:Int)-1=(m:Int):=by omega
    have r3:(m:Int)<(ls.length:Int):=by omega
    obtain⟨q,hq⟩:∃q,(ratsOf ls)[m]? =some q:=⟨_,List.getElem?_eq_getElem (by omega)⟩
    obtain⟨s,B,k,d,s',B',k',d',g0,hi⟩:=R.at_ hq
    have hla:(ratsOf ls).getLast?=some q:=by rw[List.getLast?_eq_getElem?,hzl,hm];exact hq
    have hsg:=rSign_any q _ w1 hi (hK q (List.mem_of_getElem? hq)).1
    have hsz:=sign_zero q
    have HV:Hid (vl ls= !decide (q=0)):=by
     unfold Hid vl
     rw[Bool.eq_iff_iff,decide_eq_true_iff,ha,hla]
     simp[h65]
    have HM:=Lib.hid hm
    generalize q.num.sign=sg at *
    clear ha h0 hzl R hq hla hm
    go_wp2_with fail
    with_reducible refine hsg.mono ?_
    rintro e2 w2 ⟨rfl,hb2⟩
    clear hsg
    replace hb1:=hb1.trans (hb2.mono hb1.size)
    replace hQ:=hQ.below hb2
    cases hd:decide (q=0) with
    |true=>
     rw[hd] at hsz HV
     clear hd
     go_wp2_with fail
     go_ret2
     unfold RetRQ
     rw[HV.out,rdQ_no HV.out]
     exact⟨_,rfl,QsAt.nil _,hb1⟩
    |false=>
     rw[hd] at hsz HV
     clear hd
     go_wp2_with fail
     go_ret2
     unfold RetRQ
     rw[rdQ_yes HV.out,HV.out]
     exact⟨_,rfl,hQ,hb1⟩
  ·have r0:(65:Int)<(ls.length:Int):=by omega
   have HV:Hid (vl ls=false):=vl_long h65
   clear ha h65 hzl R
   go_wp2_with fail
   go_ret2
   unfold RetRQ
   rw[HV.out,rdQ_no HV.out]
   exact⟨_,rfl,QsAt.nil _,hb1⟩
theorem refTrim_any (qs:List Rat) (v:Value) (w:World) (hv:QsAt w v qs) (hK:∀q∈qs,nl q.num.natAbs≤1099511627776) (hl:qs.length≤1073741824):
  Calls Tryz.prog 62 #[v] w (RetQs w (trimG isZ qs)):=by
 obtain⟨A,c,rfl,hc⟩:=hv.form
 go_enter Tryz.func62,Tryz.ntmps62
 go_wp2_with fail
 go_loopg [3] qs.length (fun k i wr=>∃m,Hid (m=k)∧i= .int .i64 m∧m≤qs.length∧Hid (trimG isZ (qs.take m)=trimG isZ qs)∧Below w.heap.size w wr)
 case atStart=>exact⟨qs.length,rfl,rfl,Nat.le_refl _,by unfold Hid;rw[List.take_length],Below.refl _ _⟩
 case round=>
  obtain⟨m,HM,rfl,hm,HT,hb⟩:=hrel
  generalize wr=wy at *
  have hm0:(0:Int)≤(m:Int):=by omega
  cases gk with
  |zero=>
   obtain rfl:m=0:=HM.out
   have HTT:Hid (qs.take 0=trimG isZ qs):=by have:=HT.out;exact this
   have hb':=hb
   have hcut:=(hv.below hb).cut 0 (by omega)
   have r0:(0:Int)≤(0:Int):=by decide
   clear HT
   go_wp2_with (at_builtin;refine wpList_copyQ rfl rfl rfl rfl hcut (by simp) ?_;intro v6 w6 h6 _ hb6)
   go_ret
   exact⟨_,rfl,by rw[←HTT.out];exact h6,hb'.trans (hb6.mono hb'.size)⟩
  |succ k=>
   have hmk:m=k+1:=HM.out
   subst hmk
   obtain⟨q,hq⟩:∃q,qs[k]? =some q:=⟨_,List.getElem?_eq_getElem (by omega)⟩
   obtain⟨b,s,B,l,d,s',B',l',d',rfl,hbl,g0,hi⟩:=(hv.below hb).at_ hq
   have hsg:=rSign_any q _ wy hi (hK q (List.mem_of_getElem? hq))
   have hsz:=sign_zero q
   have hdn:=trimG_down isZ qs hq
   have hst:=trimG_stop isZ qs hq
   have HDN:=Lib.hid hdn
   have HST:=Lib.hid hst
   have hcut:=(hv.below hb).cut (k+1) hm
   clear hdn hst
   have hm1:((k:Int)+1)≤(qs.length:Int):=by omega
   have hm2:k+1≤c:=by omega
   have hm3:k≤c:=by omega
   have hm4:(0:Int)≤(k:Int):=by omega
   generalize q.num.sign=sg at *
   go_wp2_with fail
   with_reducible refine hsg.mono ?_
   rintro e1 w1 ⟨rfl,hb1⟩
   have hb':=hb.trans (hb1.mono hb.size)
   replace hcut:=hcut.below hb1
   cases hd:decide (q=0) with
   |true=>
    have hz:isZ q=true:=hd
    rw[hd] at hsz
    clear hd
    go_wp2_with fail
    go_roundg k
    case rel=>exact⟨k,rfl,by simp,by omega,by unfold Hid;rw[←HDN.out hz];exact HT.out,hb'⟩
    case measure=>omega
   |false=>
    have hz:isZ q=false:=hd
    rw[hd] at hsz
    have ht:qs.take (k+1)=trimG isZ qs:=by rw[←HT.out];exact(HST.out hz).symm
    have HTT:=Lib.hid ht
    have hlt:(qs.take (k+1)).length≤1073741824:=by rw[List.length_take];omega
    clear hd ht HST HDN HT
    go_wp2_with (at_builtin;refine wpList_copyQ rfl rfl rfl rfl hcut hlt ?_;intro v6 w6 h6 _ hb6)
    go_ret
    exact⟨_,rfl,by rw[←HTT.out];exact h6,hb'.trans (hb6.mono hb'.size)⟩
theorem refResult_any (qs:List Rat) (v:Value) (w:World) (hv:QsAt w v qs) (K:Nat) (hK:∀q∈qs,RL K q) (hK2:K≤549755813888) (hl:qs.length≤1073741824):
  Calls Tryz.prog 61 #[v] w (RetPoly w qs):=by
 obtain⟨A,c,rfl,hc⟩:=hv.form
 go_enter Tryz.func61,Tryz.ntmps61
 by_cases h65:qs.length≤65
 ·have r0:¬(65:Int)<(qs.length:Int):=by omega
  have HC:=Lib.hid h65
  clear h65
  go_wp2_with fail
  with_reducible refine(texts_any qs _ _ hv K hK hK2 hl).mono ?_
  rintro e1 w1 ⟨v1,rfl,h1,hb1⟩
  go_wp2_with fail
  go_ret2
  unfold RetPoly
  rw[if_pos HC.out,if_pos HC.out]
  exact⟨_,rfl,h1,hb1⟩
 ·have r0:(65:Int)<(qs.length:Int):=by omega
  have HC:=Lib.hid h65
  clear h65
  go_wp2_with fail
  go_ret2
  unfold RetPoly
  rw[if_neg HC.out,if_neg HC.out]
  exact⟨_,rfl,StrsAt.nil _ _ _,Below.refl _ _⟩
theorem refValid_any (ls:List (List UInt8)) (v:Value) (w:World) (hv:StrsAt w v ls) (hl:ls.length≤1073741824) (hll:∀l∈ls,l.length≤1073741824) (hK:∀q∈ratsOf ls,RL 1099511627776 q):
  Calls Tryz.prog 25 #[v] w fun e w'=>e= .returned (.bool (vl ls))∧Below w.heap.size w w':=by
 obtain⟨A,c,rfl,hc⟩:=hv.form
 go_enter Tryz.func25,Tryz.ntmps25
 go_wp2_with fail
 with_reducible refine(refRead_any ls _ _ hv hl hll hK).mono ?_
 rintro e1 w1 ⟨v1,rfl,h1,hb1⟩
 go_wp2_with fail
 go_ret
 exact⟨rfl,hb1⟩
theorem refDegree_any (ls:List (List UInt8)) (v:Value) (w:World) (hv:StrsAt w v ls) (hl:ls.length≤1073741824) (hll:∀l∈ls,l.length≤1073741824) (hK:∀q∈ratsOf ls,RL 1099511627776 q):
  Calls Tryz.prog 27 #[v] w (RetI w ((rdQ ls).length-1)):=by
 obtain⟨A,c,rfl,hc⟩:=hv.form
 have hql:(rdQ ls).length≤1073741824:=by unfold rdQ;split<;>simp[rats_len,hl]
 go_enter Tryz.func27,Tryz.ntmps27
 go_wp2_with fail
 with_reducible refine(refRead_any ls _ _ hv hl hll hK).mono ?_
 rintro e1 w1 ⟨v1,rfl,h1,hb1⟩
 obtain⟨A1,c1,rfl,hc1⟩:=h1.form
 go_wp2_with fail
 go_ret
 exact⟨rfl,hb1⟩
def RetMk (w:World) (ls:List (List UInt8)) (e:Ending) (w':World):Prop:=if ls.all rd=true then RetPoly w (trimG isZ (ratsOf ls)) e w' else RetTE w [] 1 e w'
theorem refMake_any (ls:List (List UInt8)) (v:Value) (w:World) (hv:StrsAt w v ls) (hl:ls.length≤1073741824) (hll:∀l∈ls,l.length≤1073741824) (K:Nat) (hK:∀q∈ratsOf ls,RL K q) (hK2:K≤549755813888):
  Calls Tryz.prog 20 #[v] w (RetMk w ls):=by
 obtain⟨A,c,rfl,hc⟩:=hv.form
 have hql:=rats_len ls
 go_enter Tryz.func20,Tryz.ntmps20
 go_wp2_with fail
 with_reducible refine(nums_any ls _ _ hv hl hll).mono ?_
 rintro e1 w1 ⟨v1,rfl,h1,hb1⟩
 cases ha:ls.all rd with
 |false=>
  have HA:Hid (¬ls.all rd=true):=by unfold Hid;rw[ha];simp
  clear ha h1
  go_wp2_with fail
  go_ret2
  unfold RetMk
  rw[if_neg HA.out]
  exact⟨_,rfl,StrsAt.nil _ _ _,hb1⟩
 |true=>
  obtain⟨g,rfl,hg,R⟩:=h1 ha
  have hQ:=R.nums ls.length (by omega)
  rw[hql] at hQ
  have htr:=fun W h=>refTrim_any (ratsOf ls) (.slice (some ⟨g,0,none⟩) ls.length ls.length) W h (fun q hq=>Nat.le_trans (hK q hq).1 (by omega)) (by omega)
  have hre:=fun W v h=>refResult_any (trimG isZ (ratsOf ls)) v W h K (fun q hq=>hK q (trimG_mem hq)) hK2 (Nat.le_trans (trimG_len _ _) (by omega))
  have HA:=Lib.hid ha
  clear ha h1 R hql
  obtain⟨T,hT⟩:∃T,trimG isZ (ratsOf ls)=T:=⟨_,rfl⟩
  rw[hT] at htr hre
  have HT:=Lib.hid hT
  clear hT
  go_wp2_with fail
  with_reducible refine(htr _ hQ).mono ?_
  rintro e2 w2 ⟨v2,rfl,h2,hb2⟩
  replace hb1:=hb1.trans (hb2.mono hb1.size)
  clear htr hQ
  go_wp2_with fail
  with_reducible refine(hre _ _ h2).mono ?_
  rintro e3 w3 ⟨v3,he3,h3,hb3⟩
  generalize hec:(if T.length≤65 then (0:Int) else 2)=ec at he3
  subst he3
  have HEC:=Lib.hid hec
  clear hec
  go_wp2_with fail
  go_ret2
  unfold RetMk
  rw[if_pos HA.out,HT.out]
  unfold RetPoly
  rw[HEC.out]
  exact⟨_,rfl,h3,hb1.trans (hb3.mono hb1.size)⟩
end Go.Proofs.YtlojjipfnejbnaaGreatDoor
namespace Go.Proofs.YtlojjipfnejbnaaGreatDoor
open Sos Lib
theorem nl_sum (m n:Nat):nl (m+n)≤max (nl m) (nl n)+1:=by
 have h1:=lt_pow_nl m
 have h2:=lt_pow_nl n
 refine nl_le ?_
 have h3:BN^nl m≤BN^max (nl m) (nl n):=Nat.pow_le_pow_right (by decide) (Nat.le_max_left _ _)
 have h4:BN^nl n≤BN^max (nl m) (nl n):=Nat.pow_le_pow_right (by decide) (Nat.le_max_right _ _)
 rw[Nat.pow_succ]
 have h5:2*BN^max (nl m) (nl n)≤BN^max (nl m) (nl n)*BN:=by rw[Nat.mul_comm];exact Nat.mul_le_mul_left _ (by decide)
 omega
theorem RL_frac {n d:Int} {K:Nat} (hn:nl n.natAbs≤K) (hd:nl d.natAbs≤K) (h1:1≤K):RL K ((n:Rat)/d):=frac_RL n d K hn hd h1
theorem RL_pos {K:Nat} {q:Rat} (h:RL K q):1≤K:=by
 have h1:=h.2
 rcases Nat.eq_zero_or_pos K with h0|h0
 ·subst h0
  have:=lt_pow_nl q.den
  rw[show nl q.den=0 by omega] at this
  have:=q.den_pos
  simp at *
  omega
 ·exact h0
theorem mul_RL {x y:Rat} {a b:Nat} (hx:RL a x) (hy:RL b y):RL (a+b) (x*y):=by
 rw[←rat_mul]
 refine RL_frac ?_ ?_ (by have:=RL_pos hx;omega)
 ·rw[Int.natAbs_mul];exact Nat.le_trans (nl_mul _ _) (Nat.add_le_add hx.1 hy.1)
 ·rw[Int.natAbs_mul];exact Nat.le_trans (nl_mul _ _) (Nat.add_le_add hx.2 hy.2)
theorem sum_RL {x y:Rat} {a b:Nat} (hx:RL a x) (hy:RL b y):RL (a+b+1) (x+y):=by
 rw[←rat_sum]
 refine RL_frac ?_ ?_ (by omega)
 ·refine Nat.le_trans (nl_mono (Int.natAbs_add_le _ _)) (Nat.le_trans (nl_sum _ _) ?_)
  have h1:=nl_mul x.num.natAbs y.den
  have h2:=nl_mul y.num.natAbs x.den
  have e1:(x.num*y.den).natAbs=x.num.natAbs*y.den:=by rw[Int.natAbs_mul,Int.natAbs_natCast]
  have e2:(y.num*x.den).natAbs=y.num.natAbs*x.den:=by rw[Int.natAbs_mul,Int.natAbs_natCast]
  rw[e1,e2]
  have:=hx.1
  have:=hx.2
  have:=hy.1
  have:=hy.2
  omega
 ·rw[Int.natAbs_mul];exact Nat.le_trans (nl_mul _ _) (by have:=hx.2;have:=hy.2;simp only[Int.natAbs_natCast];omega)
theorem sub_RL {x y:Rat} {a b:Nat} (hx:RL a x) (hy:RL b y):RL (a+b+1) (x-y):=by
 rw[Rat.sub_eq_add_neg];exact sum_RL hx (RL_neg hy)
theorem div_RL {x y:Rat} {a b:Nat} (hx:RL a x) (hy:RL b y):RL (a+b) (x/y):=by
 by_cases h0:y=0
 ·rw[h0,Rat.div_def,Rat.inv_zero,Rat.mul_zero];exact RL_zero (by have:=RL_pos hx;omega)
 ·rw[←rat_div x y h0]
  refine RL_frac ?_ ?_ (by have:=RL_pos hx;omega)
  ·rw[Int.natAbs_mul];exact Nat.le_trans (nl_mul _ _) (Nat.add_le_add hx.1 hy.2)
  ·rw[Int.natAbs_mul];exact Nat.le_trans (nl_mul _ _) (Nat.add_le_add hx.2 hy.1)
theorem nat_RL {n:Nat} (h:n<18446744073709551616):RL 1 ((n:Nat):Rat):=⟨nl_le (by unfold BN;simpa using h),by show nl 1≤1;exact nl_le (by decide)⟩
theorem cfR_RL {l:List Rat} {K:Nat} (h:∀q∈l,RL K q) (h0:RL K 0) (i:Nat):RL K (cf l i):=by
 by_cases hi:i<l.length
 ·rw[cf_get hi];exact h _ (List.getElem_mem hi)
 ·rw[cf_top (by omega)];exact h0
def evR (p:List Rat) (x:Rat):Rat:=p.foldr (fun a s=>s*x+a) 0
theorem evR_drop {p:List Rat} {i:Nat} {q:Rat} (x:Rat) (h:p[i]? =some q):evR (p.drop i) x=evR (p.drop (i+1)) x*x+q:=by
 obtain⟨hi,rfl⟩:=List.getElem?_eq_some_iff.1 h
 rw[List.drop_eq_getElem_cons hi];rfl
theorem evR_RL {p:List Rat} {x:Rat} {K:Nat} (hp:∀q∈p,RL K q) (hx:RL K x):RL (1+p.length*(2*K+1)) (evR p x):=by
 induction p with
 |nil=>exact RL_zero (by omega)
 |cons a p ih=>
  have h1:=ih (fun q hq=>hp q (List.mem_cons_of_mem _ hq))
  have h2:=sum_RL (mul_RL h1 hx) (hp a (List.mem_cons_self ..))
  refine RL_mono h2 ?_
  rw[List.length_cons,Nat.succ_mul p.length]
  generalize p.length*(2*K+1)=z
  omega
def homV (ns:List Int) (a b:Int):Int:=(ns.foldr (fun c v=>(v.1*a+c*v.2,v.2*b)) ((0:Int),(1:Int))).1
def homP (ns:List Int) (a b:Int):Int:=(ns.foldr (fun c v=>(v.1*a+c*v.2,v.2*b)) ((0:Int),(1:Int))).2
theorem hom_drop {ns:List Int} {i:Nat} {n:Int} (a b:Int) (h:ns[i]? =some n):homV (ns.drop i) a b=homV (ns.drop (i+1)) a b*a+n*homP (ns.drop (i+1)) a b∧homP (ns.drop i) a b=homP (ns.drop (i+1)) a b*b:=by
 obtain⟨hi,rfl⟩:=List.getElem?_eq_some_iff.1 h
 rw[List.drop_eq_getElem_cons hi];exact⟨rfl,rfl⟩
theorem homP_pow (ns:List Int) (a b:Int):homP ns a b=b^ns.length:=by
 induction ns with
 |nil=>simp[homP]
 |cons c ns ih=>show homP ns a b*b=_;rw[ih,List.length_cons,Int.pow_succ]
theorem hom_ev (ns:List Int) (a b:Int) (hb:b≠0):(homV ns a b:Rat)*b=homP ns a b*evR (ns.map (fun n:Int=>(n:Rat))) (a/b):=by
 have hb':(b:Rat)≠0:=by exact_mod_cast hb
 induction ns with
 |nil=>show((0:Int):Rat)*b=((1:Int):Rat)*0;simp
 |cons c ns ih=>
  have e1:homV (c :: ns) a b=homV ns a b*a+c*homP ns a b:=rfl
  have e2:homP (c :: ns) a b=homP ns a b*b:=rfl
  have e3:evR ((c :: ns).map (fun n:Int=>(n:Rat))) (a/b)=evR (ns.map (fun n:Int=>(n:Rat))) (a/b)*(a/b)+c:=rfl
  rw[e1,e2,e3]
  push_cast
  generalize (homV ns a b:Rat)=v at *
  generalize (homP ns a b:Rat)=p at *
  generalize evR (ns.map (fun n:Int=>(n:Rat))) (a/b)=s at *
  have h3:(v*a+c*p)*b=(v*b)*a+c*p*b:=by grind
  rw[h3,ih]
  have h4:(a:Rat)=(a/b)*b:=by rw[Rat.div_mul_cancel hb']
  generalize (a:Rat)/b=t at *
  rw[h4]
  grind
end Go.Proofs.YtlojjipfnejbnaaGreatDoor
set_option maxHeartbeats 8000000
set_option maxRecDepth 100000
namespace Go.Proofs.YtlojjipfnejbnaaGreatDoor
open Go.RowKit Sos
def QBx (w:World) (b:Nat) (q:Rat):Prop:=∃s A l c s' A' l' c',Bx w b [.bool s,.slice A l c,.bool s',.slice A' l' c'] 96∧NQ w (.agg #[.bool s,.slice A l c,.bool s',.slice A' l' c']) q
theorem refAt_any (p:List Rat) (x:Rat) (v vx:Value) (w:World) (hv:QsAt w v p) (hx:NQ w vx x) (K:Nat) (hK:∀q∈p,RL K q) (kx:RL K x) (hl:p.length≤1024) (hK2:2*(1+p.length*(2*K+1)+K)+1≤549755813888):
  Calls Tryz.prog 72 #[v,vx] w (RetNQ w (evR p x)):=by
 obtain⟨A,c,rfl,hc⟩:=hv.form
 obtain⟨s1,A1,k1,c1,s2,A2,k2,c2,rfl⟩:=hx.form
 obtain⟨W,eW,hb,X,R,V⟩:=box3 w [.bool s1,.slice A1 k1 c1,.bool s2,.slice A2 k2 c2] 96 [.bool false,.slice none 0 0,.bool false,.slice none 0 0] 96 [.bool false,.slice none 0 0,.bool false,.slice none 0 0] 96
 have cM:=aa X.g4 (aa R.g4 V.g4)
 go_enter Tryz.func72,Tryz.ntmps72
 go_wp2_with fail
 (try rw[eW]);clear eW
 obtain⟨W1,eW1,V,hb,hk,ff⟩:=V.mut4 hb (by omega) (.bool false) (.slice none 0 0) (.bool false) (.slice none 0 0) rfl rfl
 replace X:=ff X (by omega)
 replace R:=ff R (by omega)
 rw[eW1];clear eW1
 replace cM:=aa X.k4 (aa R.g4 V.g4)
 go_loopg [6] p.length (fun k i wr=>∃z:Int,Hid (z=(k:Int)-1)∧i= .int .i64 z∧k≤p.length∧Bx wr w.heap.size [.bool s1,.slice A1 k1 c1,.bool s2,.slice A2 k2 c2] 96∧Bx wr (w.heap.size+1) [.bool false,.slice none 0 0,.bool false,.slice none 0 0] 96∧QBx wr (w.heap.size+1+1) (evR (p.drop k) x)∧Below w.heap.size w wr)
 case atStart=>exact⟨(p.length:Int)-1,rfl,rfl,Nat.le_refl _,X,R,⟨_,_,_,_,_,_,_,_,V,by rw[List.drop_length];exact NQ.zero _⟩,hb⟩
 case round=>
  clear X R V hb cM
  obtain⟨z,HZ,rfl,hk,X,R,⟨s3,A3,k3,c3,s4,A4,k4,c4,V,hV⟩,hb⟩:=hrel
  generalize wr=wx at *
  have cM:=aa X.g4 (aa R.g4 V.g4)
  cases gk with
  |zero=>
   have hz:z<0:=by have:=HZ.out;omega
   have hz':¬0≤z:=by omega
   go_wp2_with fail
   obtain⟨W6,eW6,R,hb,hk,ff⟩:=R.mut4 hb (by omega) (.bool s3) (.slice A3 k3 c3) (.bool s4) (.slice A4 k4 c4) rfl rfl
   replace X:=ff X (by omega)
   replace V:=ff V (by omega)
   replace hV:=hV.keep hk
   rw[eW6];clear eW6
   replace cM:=aa X.k4 (aa R.k4 V.k4)
   exact bodyPost_ret (v:= .agg #[.bool s3,.slice A3 k3 c3,.bool s4,.slice A4 k4 c4]) (by simp[results,Tryz.results72,go_sem,R.k4]) rfl ⟨_,rfl,hV,hb⟩
  |succ k=>
   obtain rfl:z=(k:Int):=by have:=HZ.out;omega
   obtain⟨q,hq⟩:∃q,p[k]? =some q:=⟨_,List.getElem?_eq_getElem (by omega)⟩
   obtain⟨b,s5,A5,k5,c5,s6,A6,k6,c6,rfl,hbl,g0,hi⟩:=(hv.below hb).at_ hq
   have hkl:(k:Int)<(p.length:Int):=by omega
   have hk0:(0:Int)≤(k:Int):=by omega
   have hev:=evR_drop x hq
   have bs:=evR_RL (p:=p.drop (k+1)) (fun q hq=>hK q (List.mem_of_mem_drop hq)) kx
   have bl:1+(p.drop (k+1)).length*(2*K+1)≤1+p.length*(2*K+1):=by
    rw[List.length_drop]
    have:=Nat.mul_le_mul_right (2*K+1) (show p.length-(k+1)≤p.length by omega)
    omega
   replace bs:=RL_mono bs bl
   have hp1:1≤p.length:=by omega
   have hK3:2*K+1≤p.length*(2*K+1):=by
    have:=Nat.mul_le_mul_right (2*K+1) hp1
    omega
   have bm:=mul_RL bs kx
   have hmul:=fun W u v h h'=>rMul_any (evR (p.drop (k+1)) x) x u v W h h' (1+p.length*(2*K+1)) bs (RL_mono kx (by omega)) (by omega)
   have hadd:=fun W u v h h'=>rAdd_any (evR (p.drop (k+1)) x*x) q u v W h h' (1+p.length*(2*K+1)+K) bm (RL_mono (hK q (List.mem_of_getElem? hq)) (by omega)) (by omega)
   have HEV:=Lib.hid hev
   have hxx:=hx.below hb
   unfold RetNQ at hmul hadd
   clear hev bs bm bl hK3 hq
   generalize evR (p.drop (k+1)) x*x+q=y at *
   generalize evR (p.drop (k+1)) x*x=m at *
   generalize evR (p.drop (k+1)) x=sv at *
   go_wp2_with fail
   go_region_with (first
    |(go_at_call 104;(with_reducible refine(hmul _ _ _ hV.up hxx.up).mono ?_);rintro e7 w7 ⟨v7,rfl,h7,hb7⟩;obtain⟨s7,A7,k7,c7,s8,A8,k8,c8,rfl⟩:=h7.form;have:=St.mk hb7;have g1:=g0.up (b:=w7) hbl)
    |(go_at_call 124;(with_reducible refine(hadd _ _ _ h7.up hi.up).mono ?_);rintro e9 w9 ⟨v9,rfl,h9,hb9⟩;obtain⟨s9,A9,k9,c9,s0,A0,k0,c0,rfl⟩:=h9.form;have:=St.mk hb9;replace X:=X.up (b:=w9);replace R:=R.up (b:=w9);replace V:=V.up (b:=w9);replace hb:=bup (b:=w9) hb;replace cM:=aa X.g4 (aa R.g4 V.g4)))
   all_goals (
    go_wp2_with fail
    obtain⟨W6,eW6,V,hb,hk,ff⟩:=V.mut4 hb (by omega) (.bool s9) (.slice A9 k9 c9) (.bool s0) (.slice A0 k0 c0) rfl rfl
    replace X:=ff X (by omega)
    replace R:=ff R (by omega)
    replace h9:=h9.keep hk
    rw[eW6];clear eW6
    replace cM:=aa X.k4 (aa R.k4 V.k4)
    go_roundg k
    case rel=>exact⟨(k:Int)-1,rfl,by first|rfl|go_num,by omega,X,R,⟨_,_,_,_,_,_,_,_,V,by rw[HEV.out];exact h9⟩,hb⟩
    case measure=>omega)
def derR (p:List Rat):List Rat:=(List.range (p.length-1)).map (fun i=>cf p (i+1)*((i+1:Nat):Rat))
theorem derR_len (p:List Rat):(derR p).length=p.length-1:=by unfold derR;rw[List.length_map,List.length_range]
theorem derR_next {p:List Rat} {m:Nat} {q:Rat} (h1:1≤m) (h:p[m]? =some q):(derR p).take m=(derR p).take (m-1)++[q*(m:Rat)]:=by
 obtain⟨i,rfl⟩:∃i,m=i+1:=⟨m-1,by omega⟩
 have hl:=(List.getElem?_eq_some_iff.1 h).1
 have e:(derR p)[i]? =some (q*((i+1:Nat):Rat)):=by
  unfold derR
  rw[List.getElem?_map,List.getElem?_range (by omega),←cf_of h];rfl
 rw[List.take_add_one,e,Nat.add_sub_cancel];rfl
theorem derR_RL {p:List Rat} {K:Nat} (hK:∀q∈p,RL K q) (hl:p.length≤1024) (h1:1≤K):∀q∈derR p,RL (K+1) q:=fun q hq=>by
 obtain⟨i,hi,rfl⟩:=List.mem_map.1 hq
 exact mul_RL (cfR_RL hK (RL_zero h1) _) (nat_RL (by have:=List.mem_range.1 hi;omega))
theorem refDerived_any (p:List Rat) (v:Value) (w:World) (hv:QsAt w v p) (K:Nat) (hK:∀q∈p,RL K q) (hl:p.length≤1024) (h1:1≤K) (hK2:2*K≤549755813888):
  Calls Tryz.prog 63 #[v] w (RetQs w (trimG isZ (derR p))):=by
 obtain⟨A,c,rfl,hc⟩:=hv.form
 go_enter Tryz.func63,Tryz.ntmps63
 go_wp2_with fail
 go_loopg [3,4] (p.length-1) (fun k s3 s4 wr=>∃m,Hid (m+k=p.length-1+1)∧1≤m∧s4= .int .i64 (m:Int)∧GrowQ wr w.heap.size s3 ((derR p).take (m-1))∧Below w.heap.size w wr)
 case atStart=>exact⟨1,by unfold Hid;omega,Nat.le_refl _,rfl,by simpa using GrowQ.nil _,Below.refl _ _⟩
 case round=>
  obtain⟨m,HM,hm1,rfl,hG,hb⟩:=hrel
  generalize wr=wx at *
  have hm0:(0:Int)≤(m:Int):=by omega
  cases gk with
  |zero=>
   have hge:¬(m:Int)<(p.length:Int):=by have:=HM.out;omega
   have hQ:=hG.nums
   rw[List.take_of_length_le (by rw[derR_len];have:=HM.out;omega)] at hQ
   have htr:=refTrim_any (derR p) _ wx hQ (fun q hq=>Nat.le_trans (derR_RL hK hl h1 q hq).1 (by omega)) (by rw[derR_len];omega)
   clear hG HM
   go_wp2_with fail
   with_reducible refine htr.mono ?_
   rintro e1 w1 ⟨v1,rfl,h1,hb1⟩
   go_wp2_with fail
   go_ret
   exact⟨_,rfl,h1,hb.trans (hb1.mono hb.size)⟩
  |succ k=>
   have hml:m<p.length:=by have:=HM.out;omega
   have hmi:(m:Int)<(p.length:Int):=by omega
   obtain⟨q,hq⟩:∃q,p[m]? =some q:=⟨_,List.getElem?_eq_getElem hml⟩
   obtain⟨b,s5,A5,k5,c5,s6,A6,k6,c6,rfl,hbl,g0,hi⟩:=hv.at_ hq
   have hnx:=derR_next hm1 hq
   have hR:=fun W=>rInt_any m W (by omega)
   have hmul:=fun W u v h h'=>rMul_any q (m:Rat) u v W h h' K (hK q (List.mem_of_getElem? hq)) (RL_mono (nat_RL (by omega)) h1) hK2
   have hgl:((derR p).take (m-1)).length≤1073741824:=by rw[List.length_take,derR_len];omega
   have HNX:=Lib.hid hnx
   unfold RetNQ at hmul hR
   clear hnx hq
   have:=St.mk hb
   generalize q*(m:Rat)=y at *
   generalize (m:Rat)=mr at *
   have gx:=g0.up (b:=wx) hbl
   go_wp2_with fail
   go_region_held3 (fun w'=>R4 w' b (m*4) (.bool s5) (.slice A5 k5 c5) (.bool s6) (.slice A6 k6 c6))
    (first|(with_reducible exact g0.up hbl)|(with_reducible exact R4.old (g0.up hbl) (by assumption) hbl))
    (first
     |(go_at_call 99;(with_reducible refine(hR _).mono ?_);rintro e7 w7 ⟨v7,rfl,h7,hb7⟩;obtain⟨s7,A7,k7,c7,s8,A8,k8,c8,rfl⟩:=h7.form;have:=St.mk hb7)
     |(go_at_call 104;(with_reducible refine(hmul _ _ _ hi.up h7.up).mono ?_);rintro e9 w9 ⟨v9,rfl,h9,hb9⟩;obtain⟨s9,A9,k9,c9,s0,A0,k0,c0,rfl⟩:=h9.form;have:=St.mk hb9)
     |((refine step_pushQ (by rfl) (by rfl) (by rfl) hG.up (by rfl) (Bx.new _ _ _) h9.up hgl (Up.out (a:=w)).size ?_;intro v4 w4 hG4 hb4)))
   all_goals (
    go_wp2_with fail
    go_roundg k
    case rel=>exact⟨m+1,by have:=HM.out;unfold Hid;omega,by omega,by go_num,by rw[Nat.add_sub_cancel,HNX.out];exact hG4,(Up.out (a:=w)).trans hb4⟩
    case measure=>omega)
def RetDv (w:World) (ls:List (List UInt8)) (e:Ending) (w':World):Prop:=if vl ls=true then RetTE w ((trimG isZ (derR (ratsOf ls))).map ratTxt) 0 e w' else RetTE w [] 1 e w'
theorem refDerive_any (ls:List (List UInt8)) (v:Value) (w:World) (hv:StrsAt w v ls) (hl:ls.length≤1024) (hll:∀l∈ls,l.length≤1073741824) (K:Nat) (hK:∀q∈ratsOf ls,RL K q) (h1:1≤K) (hK2:2*K≤549755813888):
  Calls Tryz.prog 21 #[v] w (RetDv w ls):=by
 obtain⟨A,c,rfl,hc⟩:=hv.form
 have hql:=rats_len ls
 go_enter Tryz.func21,Tryz.ntmps21
 go_wp2_with fail
 with_reducible refine(refRead_any ls _ _ hv (by omega) hll (fun q hq=>RL_mono (hK q hq) (by omega))).mono ?_
 rintro e1 w1 ⟨v1,rfl,h1',hb1⟩
 cases ha:vl ls with
 |false=>
  have HA:Hid (¬vl ls=true):=by unfold Hid;rw[ha];simp
  clear ha h1'
  go_wp2_with fail
  go_ret2
  unfold RetDv
  rw[if_neg HA.out]
  exact⟨_,rfl,StrsAt.nil _ _ _,hb1⟩
 |true=>
  have HA:=Lib.hid ha
  rw[rdQ_yes ha] at h1'
  have hde:=fun W v h=>refDerived_any (ratsOf ls) v W h K hK (by omega) h1 hK2
  have hdl:=derR_len (ratsOf ls)
  have htx:=fun W v h=>texts_any (trimG isZ (derR (ratsOf ls))) v W h (K+1) (fun q hq=>derR_RL hK (by omega) h1 q (trimG_mem hq)) (by omega) (Nat.le_trans (trimG_len _ _) (by omega))
  obtain⟨T,hT⟩:∃T,trimG isZ (derR (ratsOf ls))=T:=⟨_,rfl⟩
  rw[hT] at hde htx
  have HT:=Lib.hid hT
  clear hT ha hdl hql
  go_wp2_with fail
  with_reducible refine(hde _ _ h1').mono ?_
  rintro e2 w2 ⟨v2,rfl,h2,hb2⟩
  replace hb1:=hb1.trans (hb2.mono hb1.size)
  clear hde h1'
  go_wp2_with fail
  with_reducible refine(htx _ _ h2).mono ?_
  rintro e3 w3 ⟨v3,rfl,h3,hb3⟩
  go_wp2_with fail
  go_ret2
  unfold RetDv
  rw[if_pos HA.out,HT.out]
  exact⟨_,rfl,h3,hb1.trans (hb3.mono hb1.size)⟩
def RetEv (w:World) (ls:List (List UInt8)) (x:List UInt8) (e:Ending) (w':World):Prop:=
 (if vl ls=true∧rd x=true then e= .returned (.tuple #[.string ⟨(ratTxt (evR (ratsOf ls) ((readL x).getD 0))).toArray⟩,.int .i64 0]) else e= .returned (.tuple #[.string ⟨#[]⟩,.int .i64 1]))∧Below w.heap.size w w'
theorem refEval_any (ls:List (List UInt8)) (x:List UInt8) (v:Value) (w:World) (hv:StrsAt w v ls) (hl:ls.length≤1024) (hll:∀l∈ls,l.length≤1073741824) (hx:x.length≤1073741824) (K:Nat) (hK:∀q∈ratsOf ls,RL K q) (kx:RL K ((readL x).getD 0)) (hK2:K≤1048576):
  Calls Tryz.prog 23 #[v,.string ⟨x.toArray⟩] w (RetEv w ls x):=by
 obtain⟨A,c,rfl,hc⟩:=hv.form
 have hql:=rats_len ls
 have hlk:ls.length*(2*K+1)≤1024*(2*K+1):=Nat.mul_le_mul_right _ hl
 go_enter Tryz.func23,Tryz.ntmps23
 go_wp2_with fail
 with_reducible refine(refRead_any ls _ _ hv (by omega) hll (fun q hq=>RL_mono (hK q hq) (by omega))).mono ?_
 rintro e1 w1 ⟨v1,rfl,h1,hb1⟩
 go_wp2_with fail
 with_reducible refine(numRead_any x _ hx).mono ?_
 rintro e2 w2 ⟨v2,q2,rfl,h2,hq2,hb2⟩
 obtain⟨s2,A2,k2,c2,s3,A3,k3,c3,rfl⟩:=h2.form
 replace h1:=h1.below hb2
 replace hb1:=hb1.trans (hb2.mono hb1.size)
 cases ha:vl ls with
 |false=>
  have HA:Hid (¬(vl ls=true∧rd x=true)):=by unfold Hid;rw[ha];simp
  clear ha h1 hq2
  go_wp2_with fail
  go_ret2
  unfold RetEv
  rw[if_neg HA.out]
  exact⟨rfl,hb1.alloc hb1.size _⟩
 |true=>
  cases hr:rd x with
  |false=>
   have HA:Hid (¬(vl ls=true∧rd x=true)):=by unfold Hid;rw[hr];simp
   clear ha hr h1 hq2
   go_wp2_with fail
   go_ret2
   unfold RetEv
   rw[if_neg HA.out]
   exact⟨rfl,hb1.alloc hb1.size _⟩
  |true=>
   have HA:Hid (vl ls=true∧rd x=true):=⟨ha,hr⟩
   rw[rdQ_yes ha] at h1
   have hq:q2=(readL x).getD 0:=by
    obtain⟨r,hr'⟩:=Option.isSome_iff_exists.1 hr
    rw[hr'];exact hq2 r hr'
   rw[hq] at h2
   have hat:=fun W u v h h'=>refAt_any (ratsOf ls) ((readL x).getD 0) u v W h h' K hK kx (by omega) (by rw[hql];omega)
   have hev:=evR_RL hK kx
   rw[hql] at hev
   have htx:=fun W v h=>text_any (evR (ratsOf ls) ((readL x).getD 0)) v W h _ hev (by omega)
   obtain⟨T,hT⟩:∃T,evR (ratsOf ls) ((readL x).getD 0)=T:=⟨_,rfl⟩
   rw[hT] at hat htx
   have HT:=Lib.hid hT
   clear hT ha hr hq hq2 hev hlk hql
   obtain⟨W3,eW3,hb3,X⟩:=box1 w2 [.bool s2,.slice A2 k2 c2,.bool s3,.slice A3 k3 c3] 96
   have cM:=X.g4
   replace h1:=h1.below hb3
   replace h2:=h2.below hb3
   replace hb1:=hb1.trans (hb3.mono hb1.size)
   go_wp2_with fail
   (try rw[eW3]);clear eW3
   with_reducible refine(hat _ _ _ h1 h2).mono ?_
   rintro e4 w4 ⟨v4,rfl,h4,hb4⟩
   replace hb1:=hb1.trans (hb4.mono hb1.size)
   clear hat
   go_wp2_with fail
   with_reducible refine(htx _ _ h4).mono ?_
   rintro e5 w5 ⟨rfl,hb5⟩
   go_wp2_with fail
   go_ret2
   unfold RetEv
   rw[if_pos HA.out,HT.out]
   exact⟨rfl,hb1.trans (hb5.mono hb1.size)⟩
end Go.Proofs.YtlojjipfnejbnaaGreatDoor
set_option maxHeartbeats 8000000
set_option maxRecDepth 100000
namespace Go.Proofs.YtlojjipfnejbnaaGreatDoor
open Go.RowKit Sos
theorem uniMake_any (ls:List (List UInt8)) (v:Value) (w:World) (hG:Glob w) (hv:StrsAt w v ls) (hl:ls.length≤1073741824) (hll:∀l∈ls,l.length≤1073741824) (K:Nat) (hK:∀q∈ratsOf ls,RL K q) (hK2:K≤1073741824):
  Calls Tryz.prog 19 #[v] w (RetMk w ls):=by
 obtain⟨A,c,rfl,hc⟩:=hv.form
 have hql:=rats_len ls
 go_enter Tryz.func19,Tryz.ntmps19
 go_wp2_with fail
 with_reducible refine(readAll_any ls _ _ hG hv hl hll).mono ?_
 rintro e1 w1 ⟨v1,rfl,h1,hb1⟩
 cases ha:ls.all rd with
 |false=>
  have HA:Hid (¬ls.all rd=true):=by unfold Hid;rw[ha];simp
  clear ha h1
  go_wp2_with fail
  go_ret2
  unfold RetMk
  rw[if_neg HA.out]
  exact⟨_,rfl,StrsAt.nil _ _ _,hb1⟩
 |true=>
  have HA:=Lib.hid ha
  replace h1:=h1 ha
  have hwr:=write_any (ratsOf ls) v1 w1 (hG.below hb1) h1 K hK hK2 (by omega)
  clear ha hql
  go_wp2_with fail
  with_reducible refine hwr.mono ?_
  rintro e2 w2 ⟨v2,he2,h2,hb2⟩
  generalize hec:(if (trimG isZ (ratsOf ls)).length≤65 then (0:Int) else 2)=ec at he2
  subst he2
  have HEC:=Lib.hid hec
  clear hec
  go_wp2_with fail
  go_ret2
  unfold RetMk
  rw[if_pos HA.out]
  unfold RetPoly
  rw[HEC.out]
  exact⟨_,rfl,h2,hb1.trans (hb2.mono hb1.size)⟩
theorem uniDegree_any (ls:List (List UInt8)) (v:Value) (w:World) (hG:Glob w) (hv:StrsAt w v ls) (hl:ls.length≤1073741824) (hll:ls.length≤65→∀l∈ls,l.length≤1073741824):
  Calls Tryz.prog 26 #[v] w (RetI w ((rdQ ls).length-1)):=by
 obtain⟨A,c,rfl,hc⟩:=hv.form
 go_enter Tryz.func26,Tryz.ntmps26
 go_wp2_with fail
 with_reducible refine(valid_any ls _ _ hG hv hl hll).mono ?_
 rintro e1 w1 ⟨rfl,hb1⟩
 cases ha:vl ls with
 |false=>
  have HA:=Lib.hid (rdQ_no ha)
  clear ha
  go_wp2_with fail
  go_ret
  exact⟨by rw[HA.out];rfl,hb1⟩
 |true=>
  have HA:Hid (((rdQ ls).length:Int)=(ls.length:Int)):=by unfold Hid;rw[rdQ_yes ha,rats_len]
  clear ha
  go_wp2_with fail
  go_ret
  exact⟨by rw[HA.out];rfl,hb1⟩
theorem cf_derR (p:List Rat) (i:Nat):cf (derR p) i=cf p (i+1)*((i+1:Nat):Rat):=by
 unfold derR
 rw[cf_range]
 split
 ·rfl
 ·rw[cf_top (l:=p) (by omega),Rat.zero_mul]
theorem derR_trimmed {p:List Rat} (h:Trimmed p):Trimmed (derR p):=by
 by_cases h0:derR p=[]
 ·rw[h0];exact fun a ha=>by simp at ha
 ·have hl:=derR_len p
  have hp:(derR p).length≠0:=fun e=>h0 (List.eq_nil_of_length_eq_zero e)
  have hp0:p≠[]:=fun e=>h0 (by rw[e];rfl)
  rw[trimmed_cf h0,cf_derR,show(derR p).length-1+1=p.length-1 by omega]
  have h1:=(trimmed_cf hp0).1 h
  intro e
  rcases Rat.mul_eq_zero.1 e with e|e
  ·exact h1 e
  ·have:((p.length-1:Nat):Rat)≠0:=by
    intro e'
    have:=Rat.natCast_inj.1 (e'.trans (show(0:Rat)=((0:Nat):Rat) from rfl))
    omega
   exact this e
theorem ratios_der {Q:List Rat} {D:Int} (hD:0<D) (hd:∀q∈Q,(q.den:Int)∣D):ratios (deriveL (numsL Q D)) D=derR Q:=by
 have hD':(D:Rat)≠0:=by intro e;have:=Rat.intCast_inj.1 (e.trans (show(0:Rat)=((0:Int):Rat) from rfl));omega
 refine List.ext_getElem? (fun i=> ?_)
 have l1:(ratios (deriveL (numsL Q D)) D).length=Q.length-1:=by unfold ratios;rw[List.length_map,deriveL_len,nums_len]
 by_cases hi:i<Q.length-1
 ·have e1:=cf_ratios (deriveL (numsL Q D)) D i
  rw[cf_derive,Rat.intCast_mul,nums_cf Q D hd] at e1
  have e2:=cf_derR Q i
  rw[cf_get (by rw[l1];exact hi)] at e1
  rw[cf_get (by rw[derR_len];exact hi)] at e2
  rw[List.getElem?_eq_getElem (by rw[l1];exact hi),List.getElem?_eq_getElem (by rw[derR_len];exact hi),e1,e2]
  congr 1
  have:(((i:Int)+1:Int):Rat)=((i+1:Nat):Rat):=by
   rw[show((i:Int)+1)=((i+1:Nat):Int) from rfl,Rat.intCast_natCast]
  rw[this]
  generalize ((i+1:Nat):Rat)=z
  generalize cf Q (i+1)=y
  rw[Rat.div_def,show y*(D:Rat)*z*(D:Rat)⁻¹=y*z*((D:Rat)*(D:Rat)⁻¹) by grind,Rat.mul_inv_cancel _ hD',Rat.mul_one]
 ·rw[List.getElem?_eq_none (by omega),List.getElem?_eq_none (by rw[derR_len];omega)]
theorem derive_nl {ns:List Int} {K:Nat} (hK:∀n∈ns,nl n.natAbs≤K) (hl:ns.length≤1073741824):∀n∈deriveL ns,nl n.natAbs≤K+1:=fun n hn=>by
 unfold deriveL at hn
 obtain⟨i,hi,rfl⟩:=List.mem_map.1 hn
 have:=List.mem_range.1 hi
 exact nl_mul_int _ _ _ _ (cf_nl hK _) (nl_le (by rw[show((i:Int)+1).natAbs=i+1 by omega];unfold BN;omega))
theorem uniDerive_any (ls:List (List UInt8)) (v:Value) (w:World) (hG:Glob w) (hv:StrsAt w v ls) (hl:ls.length≤1024) (hll:∀l∈ls,l.length≤1073741824) (K:Nat) (hK:∀q∈ratsOf ls,RL K q) (hK1:1≤K) (hK2:K≤1048576):
  Calls Tryz.prog 17 #[v] w (RetDv w ls):=by
 obtain⟨A,c,rfl,hc⟩:=hv.form
 have hql:=rats_len ls
 go_enter Tryz.func17,Tryz.ntmps17
 go_wp2_with fail
 with_reducible refine(uniRead_any ls _ _ hG hv (by omega) (fun _=>hll) K (1+65*K) (fun _=>hK) (Nat.le_refl _) (by unfold LIM;omega)).mono ?_
 rintro e1 w1 ⟨v1,vd1,xs,D,rfl,hx,hD,hvx,hb1⟩
 obtain⟨A1,c1,rfl,hc1⟩:=hx.form
 obtain⟨s1,B1,k1,d1,rfl⟩:=hD.form
 cases ha:vl ls with
 |false=>
  have HA:Hid (¬vl ls=true):=by unfold Hid;rw[ha];simp
  clear ha hvx
  go_wp2_with fail
  go_ret2
  unfold RetDv
  rw[if_neg HA.out]
  exact⟨_,rfl,StrsAt.nil _ _ _,hb1.alloc hb1.size _⟩
 |true=>
  have HA:=Lib.hid ha
  obtain⟨rfl,hcx⟩:=hvx ha
  have bx:=nums_nl _ D K _ hK hcx.nl_
  have lx:=nums_len (ratsOf ls) D
  have hT:(ratios (deriveL (numsL (ratsOf ls) D)) D).map ratTxt=(trimG isZ (derR (ratsOf ls))).map ratTxt:=by rw[ratios_der hcx.pos hcx.dvd,trim_self (derR_trimmed (vl_parts ha).2.2)]
  have hde:=fun W h=>derive_whole (numsL (ratsOf ls) D) (.slice A1 (numsL (ratsOf ls) D).length c1) W h _ bx (by unfold LIM;omega) (by omega)
  have hst:=fun W v u hG h h'=>wholeStrings_any (deriveL (numsL (ratsOf ls) D)) D v u W hG h h' (K+(1+65*K)+1) (derive_nl bx (by omega)) (Nat.le_trans hcx.nl_ (by omega)) (by omega) (by omega) (by rw[deriveL_len];omega)
  rw[hT] at hst
  obtain⟨W2,eW2,hb2,X⟩:=box1 w1 [.bool s1,.slice B1 k1 d1] 53
  have hb:=hb1.trans (hb2.mono hb1.size)
  have:=St.mk hb1
  have:=St.mk hb2
  have cM:=X.k2
  clear ha hvx bx lx hT hcx hql
  generalize numsL (ratsOf ls) D=ns at *
  generalize deriveL ns=ds at *
  go_wp2_with fail
  (try rw[eW2]);clear eW2
  go_region_held3 (fun w'=>C2 w' w1.heap.size (.bool s1) (.slice B1 k1 d1)) (with_reducible exact X.up.k2)
   (first
    |(go_at_call 57;(with_reducible refine(hde _ hx.up).mono ?_);rintro e3 w3 ⟨v3,rfl,h3,hb3⟩;have:=St.mk hb3)
    |(go_at_call 47;(with_reducible refine(hst _ _ _ hG.up h3.up hD.up).mono ?_);rintro e4 w4 ⟨v4,rfl,h4,hb4⟩;have:=St.mk hb4))
  all_goals (
   go_wp2_with fail
   go_ret2
   unfold RetDv
   rw[if_pos HA.out]
   exact⟨_,rfl,h4,bup (b:=w4) hb⟩)
end Go.Proofs.YtlojjipfnejbnaaGreatDoor
set_option maxHeartbeats 8000000
set_option maxRecDepth 100000
namespace Go.Proofs.YtlojjipfnejbnaaGreatDoor
open Go.RowKit Sos
theorem ratNum_any (x:Rat) (v:Value) (w:World) (hv:RatAt w v x):Calls Tryz.prog 114 #[v] w (RetInt w x.num):=by
 obtain⟨s1,A1,k1,c1,s2,A2,k2,c2,rfl⟩:=hv.form
 have hb:=((Below.refl w.heap.size w).alloc (Nat.le_refl _) (.cells #[.bool s1,.slice A1 k1 c1,.bool s2,.slice A2 k2 c2] 83)).alloc (by simp) (.cells #[.bool s1,.slice A1 k1 c1] 53)
 go_enter Tryz.func114,Tryz.ntmps114
 go_wp2_with fail
 exact bodyPost_ret (v:= .agg #[.bool s1,.slice A1 k1 c1]) (by simp[results,Tryz.results114,go_sem]) rfl ⟨_,rfl,hv.num.below hb,hb⟩
theorem ratDen_any (x:Rat) (v:Value) (w:World) (hv:RatAt w v x) (lx:nl x.den≤17592186044416):Calls Tryz.prog 65 #[v] w (RetInt w (x.den:Int)):=by
 obtain⟨s1,A1,k1,c1,s2,A2,k2,c2,rfl⟩:=hv.form
 have hl:=Nat.le_trans (denI_le x) lx
 obtain⟨W,eW,hb,X,R⟩:=box2 w [.bool s1,.slice A1 k1 c1,.bool s2,.slice A2 k2 c2] 83 [.bool false,.slice none 0 0] 53
 have cM:=aa X.g4 R.g2
 go_enter Tryz.func65,Tryz.ntmps65
 go_wp2_with fail
 (try rw[eW]);clear eW
 have hd:=(hv.below hb).den
 with_reducible refine(isZero_any (denI x) _ _ hd hl).mono ?_
 rintro e3 w3 ⟨rfl,hb3⟩
 replace X:=X.below hb3
 replace R:=R.below hb3
 replace cM:=aa X.k4 R.g2
 replace hk:=Keep.below hb3
 replace hd:=hd.keep hk
 replace hb:=hb.trans (hb3.mono hb.size)
 by_cases h1:x.den=1
 ·have hdd:decide (denI x=0)=true:=by rw[decide_eq_true_iff,denI_one];exact h1
  have HD:Hid ((x.den:Int)=1):=by unfold Hid;omega
  rw[hdd]
  clear hdd h1 hl
  go_wp2_with fail
  with_reducible refine(new_any 1 _ (by decide) (by decide)).mono ?_
  rintro e4 w4 ⟨v4,rfl,h4,hb4⟩
  obtain⟨s4,A4,k4,c4,rfl⟩:=h4.form
  replace X:=X.below hb4
  replace R:=R.below hb4
  replace cM:=aa X.k4 R.g2
  replace hb:=hb.trans (hb4.mono hb.size)
  go_wp2_with fail
  replace h4:IntAt w4 (.agg #[.bool s4,.slice A4 k4 c4]) (x.den:Int):=by rw[HD.out];exact h4
  obtain⟨W6,eW6,R,hb,hk,ff⟩:=R.put2 hb (by omega) (.bool s4) (.slice A4 k4 c4) rfl rfl
  replace X:=ff X (by omega)
  replace h4:=h4.keep hk
  rw[eW6];clear eW6
  replace cM:=aa X.k4 R.k2
  exact bodyPost_ret (v:= .agg #[.bool s4,.slice A4 k4 c4]) (by simp[results,Tryz.results65,go_sem,R.k2]) rfl ⟨_,rfl,h4,hb⟩
 ·have hdd:decide (denI x=0)=false:=by rw[decide_eq_false_iff_not,denI_one];exact h1
  rw[hdd]
  rw[denI_ne h1] at hd
  clear hdd h1 hl
  go_wp2_with fail
  obtain⟨W6,eW6,R,hb,hk,ff⟩:=R.put2 hb (by omega) (.bool s2) (.slice A2 k2 c2) rfl rfl
  replace X:=ff X (by omega)
  replace hd:=hd.keep hk
  rw[eW6];clear eW6
  replace cM:=aa X.k4 R.k2
  exact bodyPost_ret (v:= .agg #[.bool s2,.slice A2 k2 c2]) (by simp[results,Tryz.results65,go_sem,R.k2]) rfl ⟨_,rfl,hd,hb⟩
end Go.Proofs.YtlojjipfnejbnaaGreatDoor
set_option maxHeartbeats 8000000
set_option maxRecDepth 100000
namespace Go.Proofs.YtlojjipfnejbnaaGreatDoor
open Go.RowKit Sos
abbrev R2 (w:World) (b o:Nat) (v0 v1:Value):Prop:=w.cell? ⟨b,o,none⟩=some v0∧w.cell? ⟨b,o+1,none⟩=some v1
theorem R2.up {a b:World} [u:Up a b] {g o:Nat} {v0 v1:Value} (h:R2 a g o v0 v1) (hl:g<a.heap.size):R2 b g o v0 v1:=⟨(u.out.cell (p:=⟨g,o,none⟩) hl).trans h.1,(u.out.cell (p:=⟨g,o+1,none⟩) hl).trans h.2⟩
theorem hom_bd {ns:List Int} {a b:Int} {T:Nat} (hn:∀n∈ns,n.natAbs≤T) (ha:a.natAbs≤T) (hb:b.natAbs≤T):(homV ns a b).natAbs≤ns.length*T^ns.length∧(homP ns a b).natAbs≤T^ns.length:=by
 induction ns with
 |nil=>exact⟨by show(0:Int).natAbs≤_;simp,by show(1:Int).natAbs≤_;simp⟩
 |cons c ns ih=>
  obtain⟨h1,h2⟩:=ih (fun n hn'=>hn n (List.mem_cons_of_mem _ hn'))
  have e1:homV (c :: ns) a b=homV ns a b*a+c*homP ns a b:=rfl
  have e2:homP (c :: ns) a b=homP ns a b*b:=rfl
  have hc:=hn c (List.mem_cons_self ..)
  have m1:=Nat.mul_le_mul h1 ha
  have m2:=Nat.mul_le_mul hc h2
  have m3:=Nat.mul_le_mul h2 hb
  rw[e1,e2,List.length_cons]
  constructor
  ·refine Nat.le_trans (Int.natAbs_add_le _ _) ?_
   rw[Int.natAbs_mul,Int.natAbs_mul,Nat.succ_mul,Nat.pow_succ]
   rw[Nat.mul_assoc] at m1
   rw[Nat.mul_comm T] at m2
   exact Nat.add_le_add m1 m2
  ·rw[Int.natAbs_mul,Nat.pow_succ];exact m3
theorem hom_words {t K:Nat} (h:t≤65):t*(BN^K)^t<BN^(K*t+1)∧(BN^K)^t<BN^(K*t+1):=by
 rw[←Nat.pow_mul,Nat.pow_succ,Nat.mul_comm _ BN]
 have hp:0<BN^(K*t):=Nat.pow_pos (by decide)
 exact⟨Nat.mul_lt_mul_of_pos_right (Nat.lt_of_le_of_lt h (by decide)) hp,by have:=Nat.mul_lt_mul_of_pos_right (show 1<BN by decide) hp;rwa [Nat.one_mul] at this⟩
theorem nl_pow_le {n K:Nat} (h:nl n≤K):n≤BN^K:=Nat.le_of_lt (Nat.lt_of_lt_of_le (lt_pow_nl n) (Nat.pow_le_pow_right (by decide) h))
theorem whoAt_any (ns:List Int) (x:Rat) (v vx:Value) (w:World) (hv:WholeAt w v ns) (hx:RatAt w vx x) (K:Nat) (hK:∀n∈ns,nl n.natAbs≤K) (kx:RL K x) (hl:ns.length≤65) (hK2:140*K+10≤17592186044416):
  Calls Tryz.prog 68 #[v,vx] w (RetInt w (homV ns x.num x.den)):=by
 obtain⟨A,c,rfl,hc⟩:=hv.form
 obtain⟨s1,A1,k1,c1,s2,A2,k2,c2,rfl⟩:=hx.form
 have hnu:=fun W h=>ratNum_any x (.agg #[.bool s1,.slice A1 k1 c1,.bool s2,.slice A2 k2 c2]) W h
 have hde:=fun W h=>ratDen_any x (.agg #[.bool s1,.slice A1 k1 c1,.bool s2,.slice A2 k2 c2]) W h (Nat.le_trans kx.2 (by omega))
 unfold RetInt at hnu hde
 have ka:=kx.1
 have kb:nl (x.den:Int).natAbs≤K:=kx.2
 obtain⟨W,eW,hb,X,R,V⟩:=box3 w [.bool s1,.slice A1 k1 c1,.bool s2,.slice A2 k2 c2] 83 [.bool false,.slice none 0 0] 53 [.bool false,.slice none 0 0] 53
 have cM:=aa X.g4 (aa R.g2 V.g2)
 go_enter Tryz.func68,Tryz.ntmps68
 go_wp2_with fail
 (try rw[eW]);clear eW
 replace hx:=hx.below hb
 generalize x.num=a at *
 generalize (x.den:Int)=b at *
 clear kx
 have X_ltW:=X.lt
 go_cut [6,7] (fun s6 s7 wx=>∃g6 g7,s6= .pointer (some ⟨g6,0,none⟩)∧s7= .pointer (some ⟨g7,0,none⟩)∧W.heap.size≤g6∧W.heap.size≤g7∧g6≠g7∧IntBx wx g6 (a)∧IntBx wx g7 (b)∧Below W.heap.size W wx)
 case first=>
  go_region_held3 (fun w'=>w'.cell? ⟨w.heap.size,0,none⟩=some (.bool s1)∧w'.cell? ⟨w.heap.size,1,none⟩=some (.slice A1 k1 c1)∧w'.cell? ⟨w.heap.size,2,none⟩=some (.bool s2)∧w'.cell? ⟨w.heap.size,3,none⟩=some (.slice A2 k2 c2))
   (with_reducible exact⟨X.up.cell 0 rfl,X.up.cell 1 rfl,X.up.cell 2 rfl,X.up.cell 3 rfl⟩)
   (first
    |(go_at_call 114;(with_reducible refine(hnu _ hx.up).mono ?_);rintro e2 w2 ⟨v2,rfl,h2,hb2⟩;have l2:=hb2.size;(try simp at l2);have:=St.mk hb2;obtain⟨s2,A2,k2,c2,rfl⟩:=h2.form)
    |(go_at_call 65;(with_reducible refine(hde _ hx.up).mono ?_);rintro e3 w3 ⟨v3,rfl,h3,hb3⟩;have l3:=hb3.size;(try simp at l3);have:=St.mk hb3;have TT3:=Up.out (a:=W) (b:=w3);have ll3:=TT3.size;have h2z:=h2.up (b:=w3);(try (have D2_0:=(Bx.newAt W [.bool false,.slice none 0 0] 53 (W.heap.size) rfl).up (b:=w3);obtain⟨D2_0_k,D2_0_a,D2_0_n,D2_0_m⟩:=dd D2_0));(try (have D2_1:=(Bx.newAt (W.alloc Z0) [.bool false,.slice none 0 0] 53 (W.heap.size+1) (World.size_alloc _ _)).up (b:=w3);obtain⟨D2_1_k,D2_1_a,D2_1_n,D2_1_m⟩:=dd D2_1));(try (have D3_0:=(Bx.newAt w2 [.bool false,.slice none 0 0] 53 (w2.heap.size) rfl).up (b:=w3);obtain⟨D3_0_k,D3_0_a,D3_0_n,D3_0_m⟩:=dd D3_0));(try (have D3_1:=(Bx.newAt (w2.alloc Z0) [.bool false,.slice none 0 0] 53 (w2.heap.size+1) (World.size_alloc _ _)).up (b:=w3);obtain⟨D3_1_k,D3_1_a,D3_1_n,D3_1_m⟩:=dd D3_1));obtain⟨s3,A3,k3,c3,rfl⟩:=h3.form))
  all_goals (
   go_wp2_with fail
   go_meet
   refine⟨_,_,rfl,rfl,by omega,by omega,by omega,?_⟩
   first
    |(with_reducible exact late2 h2z h3 TT3)
    |(with_reducible exact late2' h2z h3 TT3)
    |(with_reducible exact late_early h2z h3 (zb D2_0) TT3 (by omega))
    |(with_reducible exact late_early h2z h3 (zb D2_1) TT3 (by omega))
    |(with_reducible exact late_early h2z h3 (zb D3_0) TT3 (by omega))
    |(with_reducible exact late_early h2z h3 (zb D3_1) TT3 (by omega))
    |(with_reducible exact early_late (zb D2_0) h2z h3 TT3 (by omega))
    |(with_reducible exact early_late (zb D2_1) h2z h3 TT3 (by omega))
    |(with_reducible exact early_late (zb D3_0) h2z h3 TT3 (by omega))
    |(with_reducible exact early_late (zb D3_1) h2z h3 TT3 (by omega))
    |(with_reducible exact two_early (zb D2_0) (zb D2_1) h2z h3 (by omega) TT3 (by omega) (by omega))
    |(with_reducible exact two_early (zb D2_0) (zb D3_0) h2z h3 (by omega) TT3 (by omega) (by omega))
    |(with_reducible exact two_early (zb D2_0) (zb D3_1) h2z h3 (by omega) TT3 (by omega) (by omega))
    |(with_reducible exact two_early (zb D2_1) (zb D2_0) h2z h3 (by omega) TT3 (by omega) (by omega))
    |(with_reducible exact two_early (zb D2_1) (zb D3_0) h2z h3 (by omega) TT3 (by omega) (by omega))
    |(with_reducible exact two_early (zb D2_1) (zb D3_1) h2z h3 (by omega) TT3 (by omega) (by omega))
    |(with_reducible exact two_early (zb D3_0) (zb D2_0) h2z h3 (by omega) TT3 (by omega) (by omega))
    |(with_reducible exact two_early (zb D3_0) (zb D2_1) h2z h3 (by omega) TT3 (by omega) (by omega))
    |(with_reducible exact two_early (zb D3_0) (zb D3_1) h2z h3 (by omega) TT3 (by omega) (by omega))
    |(with_reducible exact two_early (zb D3_1) (zb D2_0) h2z h3 (by omega) TT3 (by omega) (by omega))
    |(with_reducible exact two_early (zb D3_1) (zb D2_1) h2z h3 (by omega) TT3 (by omega) (by omega))
    |(with_reducible exact two_early (zb D3_1) (zb D3_0) h2z h3 (by omega) TT3 (by omega) (by omega)))
 case rest=>
  obtain⟨gn,gd,rfl,rfl,hgn,hgd,hgnd,hN,hD,hb1⟩:=hcut
  have hWl:w.heap.size+1+1<W.heap.size:=V.lt
  replace R:=R.below hb1
  replace V:=V.below hb1
  replace hb:=hb.trans (hb1.mono hb.size)
  have hnl:=hN.lt
  have hdl:=hD.lt
  clear hnu hde hx hb1 X cM
  have cM:=aa R.g2 V.g2
  go_wp2_with fail
  with_reducible refine(new_any 1 _ (by decide) (by decide)).mono ?_
  rintro e4 w4 ⟨v4,rfl,h4,hb4⟩
  obtain⟨s4,A4,k4,c4,rfl⟩:=h4.form
  obtain⟨W5,eW5,hb5,P⟩:=box1 w4 [.bool s4,.slice A4 k4 c4] 53
  have hl4:=hb4.size
  replace R:=(R.below hb4).below hb5
  replace V:=(V.below hb4).below hb5
  replace hN:=(hN.below hb4).below hb5
  replace hD:=(hD.below hb4).below hb5
  replace h4:=h4.below hb5
  replace hb:=(hb.trans (hb4.mono hb.size)).trans (hb5.mono (hb.trans (hb4.mono hb.size)).size)
  replace cM:=aa R.g2 (aa V.g2 P.g2)
  go_wp2_with fail
  (try rw[eW5]);clear eW5
  generalize w4.heap.size=gp at *
  have n1:gn≠gp:=by omega
  have n2:gd≠gp:=by omega
  have n3:w.heap.size+1+1<gn:=by omega
  have n4:w.heap.size+1+1<gd:=by omega
  have n5:w.heap.size+1+1<gp:=by omega
  clear hl4 hnl hdl hgn hgd hWl hb4 hb5
  go_loopg [9] ns.length (fun k i wr=>∃z:Int,Hid (z=(k:Int)-1)∧i= .int .i64 z∧k≤ns.length∧Bx wr (w.heap.size+1) [.bool false,.slice none 0 0] 53∧IntBx wr (w.heap.size+1+1) (homV (ns.drop k) a b)∧IntBx wr gn a∧IntBx wr gd b∧IntBx wr gp (homP (ns.drop k) a b)∧Below w.heap.size w wr)
  case atStart=>exact⟨(ns.length:Int)-1,rfl,rfl,Nat.le_refl _,R,⟨_,_,_,_,V,by rw[List.drop_length];exact IntAt.zero _⟩,hN,hD,⟨_,_,_,_,P,by rw[List.drop_length];exact h4⟩,hb⟩
  case round=>
   clear R V P hN hD h4 hb cM
   obtain⟨z,HZ,rfl,hk,R,⟨s5,A5,k5,c5,V,hV⟩,⟨s6,A6,k6,c6,N,hN⟩,⟨s7,A7,k7,c7,D,hD⟩,⟨s8,A8,k8,c8,P,hP⟩,hb⟩:=hrel
   generalize wr=wx at *
   have cM:=aa R.g2 (aa V.g2 (aa N.k2 (aa D.k2 P.g2)))
   cases gk with
   |zero=>
    have hz:z<0:=by have:=HZ.out;omega
    have hz':¬0≤z:=by omega
    rw[List.drop_zero] at hV
    clear hP HZ
    go_wp2_with fail
    have R_l:=R.lt
    have V_l:=V.lt
    have N_l:=N.lt
    have D_l:=D.lt
    have P_l:=P.lt
    have hsz_:=hb.size
    obtain⟨W6,eW6,R,hb,hk,ff⟩:=R.put2 hb (by omega) (.bool s5) (.slice A5 k5 c5) rfl rfl
    replace V:=ff V (by omega)
    replace N:=ff N (by omega)
    replace D:=ff D (by omega)
    replace P:=ff P (by omega)
    replace hV:=hV.keep hk
    rw[eW6];clear eW6
    replace cM:=aa R.k2 (aa V.k2 (aa N.k2 (aa D.k2 P.k2)))
    exact bodyPost_ret (v:= .agg #[.bool s5,.slice A5 k5 c5]) (by simp[results,Tryz.results68,go_sem,R.k2]) rfl ⟨_,rfl,hV,hb⟩
   |succ k=>
    obtain rfl:z=(k:Int):=by have:=HZ.out;omega
    obtain⟨n,hn⟩:∃n,ns[k]? =some n:=⟨_,List.getElem?_eq_getElem (by omega)⟩
    obtain⟨B,s9,A9,k9,c9,rfl,hbl,g0,g1,hi⟩:=(hv.below hb).at_ hn
    have hkl:(k:Int)<(ns.length:Int):=by omega
    have hk0:(0:Int)≤(k:Int):=by omega
    obtain⟨hv1,hv2⟩:=hom_drop a b hn
    have hbd:=hom_bd (ns:=ns.drop (k+1)) (a:=a) (b:=b) (T:=BN^K) (fun n h=>nl_pow_le (hK n (List.mem_of_mem_drop h))) (nl_pow_le ka) (nl_pow_le kb)
    have hkn:=hK n (List.mem_of_getElem? hn)
    obtain⟨t,ht⟩:∃t,(ns.drop (k+1)).length=t:=⟨_,rfl⟩
    have ht6:t≤65:=by rw[←ht,List.length_drop];omega
    rw[ht] at hbd
    obtain⟨pw1,pw2⟩:=hom_words (K:=K) ht6
    have hkt:K*t≤65*K:=by rw[Nat.mul_comm];exact Nat.mul_le_mul_right _ ht6
    have HV:Hid (0+homV (ns.drop (k+1)) a b*a+n*homP (ns.drop (k+1)) a b=homV (ns.drop k) a b):=by unfold Hid;rw[hv1,Int.zero_add]
    have HP:=Lib.hid hv2
    obtain⟨Y',hY⟩:∃Y',homV (ns.drop k) a b=Y':=⟨_,rfl⟩
    rw[hY] at HV
    have HY:=Lib.hid hY
    clear hv1 hv2 ht hn hY
    generalize homV (ns.drop (k+1)) a b=Y at *
    generalize homP (ns.drop (k+1)) a b=Q at *
    have lY:nl Y.natAbs≤K*t+1:=nl_le (Nat.lt_of_le_of_lt hbd.1 pw1)
    have lQ:nl Q.natAbs≤K*t+1:=nl_le (Nat.lt_of_le_of_lt hbd.2 pw2)
    have m1:Y.natAbs*a.natAbs<BN^(K*t+1+K):=by
     have h1:=lt_pow_nl (Y.natAbs*a.natAbs)
     exact Nat.lt_of_lt_of_le h1 (Nat.pow_le_pow_right (by decide) (Nat.le_trans (nl_mul _ _) (Nat.add_le_add lY ka)))
    have m2:n.natAbs*Q.natAbs<BN^(K*t+1+K):=by
     have h1:=lt_pow_nl (n.natAbs*Q.natAbs)
     exact Nat.lt_of_lt_of_le h1 (Nat.pow_le_pow_right (by decide) (Nat.le_trans (nl_mul _ _) (by omega)))
    have m3:BN^(K*t+1+K)*BN≤BN^(67*K+3):=by rw[←Nat.pow_succ];exact Nat.pow_le_pow_right (by decide) (by omega)
    have m4:2*BN^(K*t+1+K)≤BN^(K*t+1+K)*BN:=by rw[Nat.mul_comm];exact Nat.mul_le_mul_left _ (by decide)
    obtain⟨ws,es,hbs, -⟩:=box1 wx [.slice none 0 0,.slice none 0 0] 120
    have hS0:=(SumAt.new wx (67*K+3)).now
    have hes:wx.alloc (.cells #[.slice none 0 0,.slice none 0 0] 120)=ws:=es
    rw[hes] at hS0
    have:=St.mk hbs
    have hs1:=sumAdd_any wx.heap.size ws.heap.size (67*K+3) 0 0 Y a s5 A5 k5 c5 s6 A6 k6 c6 ws hS0 hV.up hN.up hV.blk hN.blk (by omega) (by unfold LIM;omega) (by omega)
    have hs2:=fun W Z h h1 h2=>sumAdd_any wx.heap.size Z (67*K+3) (0+Y.natAbs*a.natAbs) (0+Y*a) n Q s9 A9 k9 c9 s8 A8 k8 c8 W h h1 h2 hi.blk hP.blk (by omega) (by unfold LIM;omega) (by omega)
    have hsv:=fun W Z M h=>sumValue_any wx.heap.size Z (67*K+3) M Y' W h (by unfold LIM;omega)
    have hmu:=fun W v u h h'=>mul_any Q b v u W h h' (by omega)
    rw[HV.out] at hs2
    unfold RetInt at hsv hmu
    have gr:R2 wx B (k*2) (.bool s9) (.slice A9 k9 c9):=⟨g0,g1⟩
    clear hS0 hbd pw1 pw2 m1 m2 m3 m4 lY lQ hkt hes g0 g1
    have cX:=aa (V.up (b:=ws)).k2 (N.up (b:=ws)).k2
    go_wp2_with fail
    (try rw[es])
    clear es
    with_reducible refine hs1.mono ?_
    rintro e1 w1 ⟨rfl,hS1,hb1, -⟩
    have:=St.mk (hbs.trans hb1)
    have hbl1:=hbl
    clear hs1
    go_wp2_with fail
    go_region_held3 (fun w'=>R2 w' B (k*2) (.bool s9) (.slice A9 k9 c9)∧C2 w' gp (.bool s8) (.slice A8 k8 c8)) (with_reducible exact⟨gr.up hbl,P.up.k2⟩)
     (first
      |(go_at_call 93;(with_reducible refine(hs2 _ _ (hS1.below Up.out) hi.up hP.up).mono ?_);rintro e2 w2 ⟨rfl,hS2,hb2, -⟩;have:=St.mk ((Up.out (a:=wx)).trans hb2)))
    all_goals (
     clear hs2 hS1 cX
     go_wp2_with fail
     with_reducible refine(hsv _ _ _ hS2).mono ?_
     rintro e3 w3 ⟨v3,rfl,h3,hb3⟩
     obtain⟨s3,A3,k3,c3,rfl⟩:=h3.form
     have:=St.mk hb3
     replace R:=R.up (b:=w3)
     replace V:=V.up (b:=w3)
     replace N:=N.up (b:=w3)
     replace D:=D.up (b:=w3)
     replace P:=P.up (b:=w3)
     replace hN:=hN.up (b:=w3)
     replace hD:=hD.up (b:=w3)
     replace hP:=hP.up (b:=w3)
     replace hb:=bup (b:=w3) hb
     replace cM:=aa R.g2 (aa V.g2 (aa N.k2 (aa D.k2 P.g2)))
     clear hsv hS2
     go_wp2_with fail
     have R_l:=R.lt
     have V_l:=V.lt
     have N_l:=N.lt
     have D_l:=D.lt
     have P_l:=P.lt
     have hsz_:=hb.size
     obtain⟨W4,eW4,V,hb,hk,ff⟩:=V.put2 hb (by omega) (.bool s3) (.slice A3 k3 c3) rfl rfl
     replace R:=ff R (by omega)
     replace N:=ff N (by omega)
     replace D:=ff D (by omega)
     replace P:=ff P (by omega)
     replace h3:=h3.keep hk
     replace hN:=hN.keep hk
     replace hD:=hD.keep hk
     replace hP:=hP.keep hk
     rw[eW4];clear eW4
     replace cM:=aa R.g2 (aa V.g2 (aa N.k2 (aa D.k2 P.g2)))
     with_reducible refine(hmu _ _ _ hP hD).mono ?_
     rintro e5 w5 ⟨v5,rfl,h5,hb5⟩
     obtain⟨sx,Ax,kx,cx,rfl⟩:=h5.form
     replace R:=R.below hb5
     replace V:=V.below hb5
     replace N:=N.below hb5
     replace D:=D.below hb5
     replace P:=P.below hb5
     replace cM:=aa R.g2 (aa V.g2 (aa N.k2 (aa D.k2 P.g2)))
     replace hk:=Keep.below hb5
     replace h3:=h3.keep hk
     replace hN:=hN.keep hk
     replace hD:=hD.keep hk
     replace hb:=hb.trans (hb5.mono hb.size)
     clear hmu
     go_wp2_with fail
     have R_l:=R.lt
     have V_l:=V.lt
     have N_l:=N.lt
     have D_l:=D.lt
     have P_l:=P.lt
     have hsz_:=hb.size
     obtain⟨W6,eW6,P,hb,hk,ff⟩:=P.put2 hb (by omega) (.bool sx) (.slice Ax kx cx) rfl rfl
     replace R:=ff R (by omega)
     replace V:=ff V (by omega)
     replace N:=ff N (by omega)
     replace D:=ff D (by omega)
     replace h5:=h5.keep hk
     replace h3:=h3.keep hk
     replace hN:=hN.keep hk
     replace hD:=hD.keep hk
     rw[eW6];clear eW6
     replace cM:=aa R.k2 (aa V.k2 (aa N.k2 (aa D.k2 P.k2)))
     go_roundg k
     case rel=>exact⟨(k:Int)-1,rfl,by first|rfl|go_num,by omega,R,⟨_,_,_,_,V,by rw[HY.out];exact h3⟩,⟨_,_,_,_,N,hN⟩,⟨_,_,_,_,D,hD⟩,⟨_,_,_,_,P,by rw[HP.out];exact h5⟩,hb⟩
     case measure=>omega)
end Go.Proofs.YtlojjipfnejbnaaGreatDoor
set_option maxHeartbeats 8000000
set_option maxRecDepth 100000
namespace Go.Proofs.YtlojjipfnejbnaaGreatDoor
open Go.RowKit Sos
theorem evR_scale (Q:List Rat) (D x:Rat):evR (Q.map (·*D)) x=evR Q x*D:=by
 induction Q with
 |nil=>show(0:Rat)=0*D;rw[Rat.zero_mul]
 |cons a Q ih=>
  show evR (Q.map (·*D)) x*x+a*D=(evR Q x*x+a)*D
  rw[ih]
  grind
theorem nums_map {Q:List Rat} {D:Int} (hd:∀q∈Q,(q.den:Int)∣D):(numsL Q D).map (fun n:Int=>(n:Rat))=Q.map (·*(D:Rat)):=by
 refine List.ext_getElem? (fun i=> ?_)
 have h:=nums_cf Q D hd i
 by_cases hi:i<Q.length
 ·have h1:i<(numsL Q D).length:=by rw[nums_len];exact hi
  rw[cf_get h1,cf_get hi] at h
  rw[List.getElem?_map,List.getElem?_map,List.getElem?_eq_getElem h1,List.getElem?_eq_getElem hi,Option.map_some,Option.map_some,h]
 ·rw[List.getElem?_eq_none (by rw[List.length_map,nums_len];omega),List.getElem?_eq_none (by rw[List.length_map];omega)]
theorem hom_eval {Q:List Rat} {D:Int} (hD:0<D) (hd:∀q∈Q,(q.den:Int)∣D) (x:Rat) {M:Nat} (hM:Q.length=M+1):(homV (numsL Q D) x.num x.den:Rat)/((D*(x.den:Int)^M:Int):Rat)=evR Q x:=by
 have hb0:(x.den:Int)≠0:=by have:=x.den_nz;omega
 have h:=hom_ev (numsL Q D) x.num x.den hb0
 rw[homP_pow,nums_len,hM,nums_map hd,evR_scale,Int.pow_succ] at h
 have hx:((x.num:Int):Rat)/((x.den:Int):Rat)=x:=by rw[Rat.intCast_natCast,←rat_eq]
 rw[hx] at h
 have hb:(((x.den:Int):Rat))≠0:=fun e=>hb0 (Rat.intCast_inj.1 e)
 have hD':(D:Rat)≠0:=fun e=>by have:=Rat.intCast_inj.1 (e.trans (show(0:Rat)=((0:Int):Rat) from rfl));omega
 have hp:(((x.den:Int)^M:Int):Rat)≠0:=fun e=>Int.pow_ne_zero hb0 (Rat.intCast_inj.1 e)
 rw[Rat.intCast_mul] at h⊢
 generalize (((x.den:Int)^M:Int):Rat)=p at *
 generalize ((x.den:Int):Rat)=b at *
 generalize (homV (numsL Q D) x.num x.den:Rat)=v at *
 generalize evR Q x=s at *
 have h2:v=p*(s*D):=by
  have:v*b*b⁻¹=p*b*(s*D)*b⁻¹:=by rw[h]
  rw[Rat.mul_assoc,Rat.mul_inv_cancel _ hb,Rat.mul_one] at this
  rw[this,show p*b*(s*D)*b⁻¹=p*(s*D)*(b*b⁻¹) by grind,Rat.mul_inv_cancel _ hb,Rat.mul_one]
 have h3:(D:Rat)*p≠0:=fun e=>(Rat.mul_eq_zero.1 e).elim hD' hp
 rw[h2,show p*(s*D)=s*(D*p) by grind,Rat.div_def,Rat.mul_assoc,Rat.mul_inv_cancel _ h3,Rat.mul_one]
theorem WholeAt.blk_lt {w:World} {A:Option Addr} {l c:Nat} {ns:List Int} (h:WholeAt w (.slice A l c) ns) (h0:ns≠[]):∀b,A=some ⟨b,0,none⟩→b<w.heap.size:=fun b e=>by
 obtain⟨A',c',e',_,h⟩:=h
 simp only[Value.slice.injEq] at e'
 obtain⟨rfl,_,rfl⟩:=e'
 obtain⟨b',rows,e2,hr,_⟩:=h.resolve_left h0
 rw[e] at e2
 simp at e2
 subst e2
 exact hr.lt
theorem stepAt_two {w W:World} {g:Nat} {v0 v1:Value} (h:Keep w W) (e:(w.setCell ⟨g,0,none⟩ v0).setCell ⟨g,1,none⟩ v1=W):StepAt g w W:=by
 subst e
 exact⟨h,fun b hb=>by rw[Below.heap_setCell _ ⟨g,1,none⟩ _ b hb,Below.heap_setCell _ ⟨g,0,none⟩ _ b hb],by simp,rfl,rfl,rfl⟩
theorem uniEval_any (ls:List (List UInt8)) (x:List UInt8) (v:Value) (w:World) (hG:Glob w) (hv:StrsAt w v ls) (hl:ls.length≤1024) (hll:∀l∈ls,l.length≤1073741824) (hx:x.length≤1073741824) (K:Nat) (hK:∀q∈ratsOf ls,RL K q) (kx:RL K ((readL x).getD 0)) (hK2:K≤65536):
  Calls Tryz.prog 22 #[v,.string ⟨x.toArray⟩] w (RetEv w ls x):=by
 obtain⟨A,c,rfl,hc⟩:=hv.form
 have hql:=rats_len ls
 go_enter Tryz.func22,Tryz.ntmps22
 go_wp2_with fail
 with_reducible refine(uniRead_any ls _ _ hG hv (by omega) (fun _=>hll) K (1+65*K) (fun _=>hK) (Nat.le_refl _) (by unfold LIM;omega)).mono ?_
 rintro e1 w1 ⟨v1,vd1,xs,D,rfl,hxs,hD,hvx,hb1⟩
 obtain⟨A1,c1,rfl,hc1⟩:=hxs.form
 obtain⟨s1,B1,k1,d1,rfl⟩:=hD.form
 have hA1:=fun h0=>hxs.blk_lt h0
 obtain⟨w2,e2,hb2,X⟩:=box1 w1 [.bool s1,.slice B1 k1 d1] 53
 have hb:=hb1.trans (hb2.mono hb1.size)
 go_wp2_with fail
 (try rw[e2])
 clear e2
 with_reducible refine(read_any x _ (hG.below hb) hx).mono ?_
 rintro e3 w3 ⟨v3,rfl,h3,hb3⟩
 obtain⟨s3,A3,k3,c3,s4,A4,k4,c4,rfl⟩:=h3.form
 have hrs:(readL x).isSome=rd x:=rfl
 rw[hrs]
 obtain⟨w4,e4,hb4,P⟩:=box1 w3 [.bool s3,.slice A3 k3 c3,.bool s4,.slice A4 k4 c4] 83
 have h12:w1.heap.size<w3.heap.size:=Nat.lt_of_lt_of_le X.lt hb3.size
 replace X:=(X.below hb3).below hb4
 replace hxs:=((hxs.below hb2).below hb3).below hb4
 replace hD:=((hD.below hb2).below hb3).below hb4
 replace h3:=h3.below hb4
 replace hb:=(hb.trans (hb3.mono hb.size)).trans (hb4.mono (hb.trans (hb3.mono hb.size)).size)
 have cM:=aa X.g2 P.k4
 have hgx:w.heap.size≤w1.heap.size:=hb1.size
 generalize w1.heap.size=gx at *
 cases ha:vl ls with
 |false=>
  have HA:Hid (¬(vl ls=true∧rd x=true)):=by unfold Hid;rw[ha];simp
  clear ha hrs
  clear hvx
  go_wp2_with fail
  go_ret2
  unfold RetEv
  rw[if_neg HA.out]
  (try clear e4)
  exact⟨rfl,by first|exact hb|exact hb4⟩
 |true=>
  cases hr:rd x with
  |false=>
   have HA:Hid (¬(vl ls=true∧rd x=true)):=by unfold Hid;rw[hr];simp
   clear ha hr hrs
   clear hvx
   go_wp2_with fail
   go_ret2
   unfold RetEv
   rw[if_neg HA.out]
   (try clear e4)
   exact⟨rfl,by first|exact hb|exact hb4⟩
  |true=>
   have HA:Hid (vl ls=true∧rd x=true):=⟨ha,hr⟩
   obtain⟨rfl,hcx⟩:=hvx ha
   have lx:=nums_len (ratsOf ls) D
   clear hvx hr hrs
   by_cases h0:ls.length=0
   ·have HZ:Hid (ratTxt (evR (ratsOf ls) ((readL x).getD 0))=[48]):=by
     have:ls=[]:=List.eq_nil_of_length_eq_zero h0
     unfold Hid;rw[this];exact txt_zero
    have q0:(((numsL (ratsOf ls) D).length:Int)==0)=true:=by rw[lx,hql,h0];rfl
    clear ha h0 lx hcx hql
    go_wp2_with fail
    go_ret2
    unfold RetEv
    rw[if_pos HA.out,HZ.out]
    exact⟨rfl,hb⟩
   ·obtain⟨M,hM⟩:∃M,ls.length=M+1:=⟨ls.length-1,by omega⟩
    have hMl:(numsL (ratsOf ls) D).length=M+1:=by rw[lx,hql,hM]
    have q0:(((numsL (ratsOf ls) D).length:Int)==0)=false:=by rw[beq_eq_false_iff_ne];omega
    have hMi:((numsL (ratsOf ls) D).length:Int)-1=(M:Int):=by omega
    have bx:=nums_nl _ D K _ hK hcx.nl_
    have bD:=hcx.nl_
    have hEV:=hom_eval hcx.pos hcx.dvd ((readL x).getD 0) (show(ratsOf ls).length=M+1 by rw[hql,hM])
    have h65:=(vl_parts ha).1
    have hM64:M≤64:=by omega
    have hev:=evR_RL hK kx
    rw[hql] at hev
    have hlk:ls.length*(2*K+1)≤1024*(2*K+1):=Nat.mul_le_mul_right _ hl
    have hmk:M*K≤64*K:=Nat.mul_le_mul_right _ (by omega)
    have kd:nl ((((readL x).getD 0).den:Int)).natAbs≤K:=kx.2
    have hde:=fun W h=>ratDen_any ((readL x).getD 0) (.agg #[.bool s3,.slice A3 k3 c3,.bool s4,.slice A4 k4 c4]) W h (Nat.le_trans kx.2 (by omega))
    have hdg:=fun W=>degree_any (numsL (ratsOf ls) D).length c1 A1 W (by omega)
    have hpw:=fun W v h=>pow_any (((readL x).getD 0).den:Int) M v W h (by unfold BN;omega) (by
     have:M*nl ((((readL x).getD 0).den:Int)).natAbs≤M*K:=Nat.mul_le_mul_left _ kd
     unfold LIM;omega)
    have bpw:nl ((((readL x).getD 0).den:Int)^M).natAbs≤64*K+1:=by
     rw[Int.natAbs_pow]
     refine Nat.le_trans (nl_pow _ _) ?_
     have:M*nl ((((readL x).getD 0).den:Int)).natAbs≤M*K:=Nat.mul_le_mul_left _ kd
     omega
    have bmd:=nl_mul_int D ((((readL x).getD 0).den:Int)^M) _ _ bD bpw
    have hmu:=fun W u h h'=>mul_any D ((((readL x).getD 0).den:Int)^M) (.agg #[.bool s1,.slice B1 k1 d1]) u W h h' (by omega)
    have hat:=fun W h h'=>whoAt_any (numsL (ratsOf ls) D) ((readL x).getD 0) (.slice A1 (numsL (ratsOf ls) D).length c1) (.agg #[.bool s3,.slice A3 k3 c3,.bool s4,.slice A4 k4 c4]) W h h' (K+(1+65*K)) bx (RL_mono kx (by omega)) (by omega) (by omega)
    have bho:=hom_bd (ns:=numsL (ratsOf ls) D) (a:=((readL x).getD 0).num) (b:=((readL x).getD 0).den) (T:=BN^(K+(1+65*K))) (fun n h=>nl_pow_le (bx n h)) (nl_pow_le (Nat.le_trans kx.1 (by omega))) (nl_pow_le (Nat.le_trans kd (by omega)))
    have bnv:nl (homV (numsL (ratsOf ls) D) ((readL x).getD 0).num ((readL x).getD 0).den).natAbs≤(K+(1+65*K))*65+1:=by
     refine nl_le (Nat.lt_of_le_of_lt bho.1 (Nat.lt_of_lt_of_le (hom_words (by omega)).1 (Nat.pow_le_pow_right (by decide) ?_)))
     have:=Nat.mul_le_mul_left (K+(1+65*K)) (show(numsL (ratsOf ls) D).length≤65 by omega)
     omega
    have hfr:=fun W u v hG h h'=>fraction_any (homV (numsL (ratsOf ls) D) ((readL x).getD 0).num ((readL x).getD 0).den) (D*(((readL x).getD 0).den:Int)^M) u v W hG h h' ((K+(1+65*K))*65+1) bnv (by omega) (by unfold LIM;omega)
    rw[hEV] at hfr
    have hst:=fun W v hG h=>ratString_any (evR (ratsOf ls) ((readL x).getD 0)) v W hG h _ hev (by omega)
    replace hA1:=hA1 (fun e=>by rw[e] at hMl;cases hMl)
    obtain⟨T,hT⟩:∃T,evR (ratsOf ls) ((readL x).getD 0)=T:=⟨_,rfl⟩
    rw[hT] at hfr hst
    have HT:=Lib.hid hT
    unfold RetInt at hde hpw hmu hat
    unfold RetRat at hfr
    clear bho bnv bmd bpw bx bD hev hlk hmk kd hT hEV hcx h0 lx hMl ha kx hK hM
    generalize hy:(readL x).getD 0=y at *
    have HY:=Lib.hid hy
    clear hy
    generalize homV (numsL (ratsOf ls) D) y.num y.den=V at *
    generalize D*(y.den:Int)^M=E at *
    generalize (y.den:Int)^M=F at *
    generalize (y.den:Int)=yd at *
    generalize numsL (ratsOf ls) D=ns at *
    go_upto_region 7 with fail
    (try rw[e4])
    clear e4 hb4
    generalize w3.heap.size=gp at *
    go_cut [] (fun wx=>∃s A k c,Bx wx gx [.bool s,.slice A k c] 53∧IntAt wx (.agg #[.bool s,.slice A k c]) E∧Bx wx gp [.bool s3,.slice A3 k3 c3,.bool s4,.slice A4 k4 c4] 83∧WholeAt wx (.slice A1 ns.length c1) ns∧RatAt wx (.agg #[.bool s3,.slice A3 k3 c3,.bool s4,.slice A4 k4 c4]) y∧Below w.heap.size w wx)
    case first=>
     have hwr:IntKind.u64.wrap (M:Int)=(M:Int):=by
      rw[show IntKind.u64.wrap (M:Int)=(M:Int)%18446744073709551616 by simp[IntKind.wrap,IntKind.bits,IntKind.signed]];omega
     go_wp2_with fail
     go_region_with (first
      |(go_at_call 65;(with_reducible refine(hde _ h3.up).mono ?_);rintro e5 w5 ⟨v5,rfl,h5,hb5⟩;obtain⟨s5,A5,k5,c5,rfl⟩:=h5.form;have:=St.mk hb5;have c5X:=(X.up (b:=w5)).k2;have c5P:=(P.up (b:=w5)).k4)
      |(go_at_call 41;(with_reducible refine(hdg _).mono ?_);rintro e6 w6 ⟨rfl,rfl⟩)
      |(go_at_call 66;(with_reducible refine(hpw _ _ h5.up).mono ?_);rintro e7 w7 ⟨v7,rfl,h7,hb7⟩;obtain⟨s7,A7,k7,c7,rfl⟩:=h7.form;have:=St.mk hb7;have c7X:=(X.up (b:=w7)).k2)
      |(go_at_call 46;(with_reducible refine(hmu _ _ hD.up h7.up).mono ?_);rintro e8 w8 ⟨v8,rfl,h8,hb8⟩;obtain⟨s8,A8,k8,c8,rfl⟩:=h8.form;have:=St.mk hb8;have X8:=X.up (b:=w8);have P8:=P.up (b:=w8);have c8X:=X8.g2;have hb9:=bup (b:=w8) hb))
     all_goals (
      go_wp2_with fail
      obtain⟨W6,e6,X6,hb6,hk6,ff⟩:=X8.put2 hb9 hgx (.bool s8) (.slice A8 k8 c8) rfl rfl
      have hst:=stepAt_two hk6 e6
      rw[e6];clear e6
      go_meet
      exact⟨_,_,_,_,X6,h8.keep hk6,ff P8 (by omega),hxs.up.step hst (fun b e=>Nat.ne_of_lt (hA1 b e)),h3.up.keep hk6,hb6⟩)
    case rest=>
     clear X P cM h3 hD hb hxs hde hdg hpw hmu
     obtain⟨s5,A5,k5,c5,X,hE,P,hxs,h3,hb⟩:=hcut
     go_wp2_with fail
     go_region_held3 (fun w'=>C2 w' gx (.bool s5) (.slice A5 k5 c5)∧C4 w' gp (.bool s3) (.slice A3 k3 c3) (.bool s4) (.slice A4 k4 c4)) (with_reducible exact⟨X.up.k2,P.up.k4⟩)
      (first
       |(go_at_call 68;(with_reducible refine(hat _ hxs.up h3.up).mono ?_);rintro e6 w6 ⟨v6,rfl,h6,hb6⟩;have:=St.mk hb6)
       |(go_at_call 67;(with_reducible refine(hfr _ _ _ (hG.below (bup hb)) h6.up hE.up).mono ?_);rintro e7 w7 ⟨v7,rfl,h7,hb7⟩;have:=St.mk hb7)
       |(go_at_call 69;(with_reducible refine(hst _ _ (hG.below (bup hb)) h7.up).mono ?_);rintro e8 w8 ⟨rfl,hb8⟩;have:=St.mk hb8))
     all_goals (
      go_wp2_with fail
      go_ret2
      unfold RetEv
      rw[if_pos HA.out,HY.out,HT.out]
      exact⟨rfl,bup (b:=w8) hb⟩)
end Go.Proofs.YtlojjipfnejbnaaGreatDoor
set_option maxHeartbeats 8000000
set_option maxRecDepth 100000
namespace Go.Proofs.YtlojjipfnejbnaaGreatDoor
open Go.RowKit Sos
theorem polys_one {w:World} {A:Option Addr} {c:Nat} {a:List (List UInt8)} (ha:StrsAt w (.slice A a.length c) a) (t:TypeId):
  PolysAt (w.alloc (.cells #[.slice A a.length c] t)) (.slice (some ⟨w.heap.size,0,none⟩) 1 1) [a]:=by
 have B:=Bx.new w [.slice A a.length c] t
 have hu:Below w.heap.size w (w.alloc (.cells #[.slice A a.length c] t)):=(Below.refl _ _).alloc (Nat.le_refl _) _
 refine⟨w.heap.size,1,rfl,fun i p hp=> ?_⟩
 match i,hp with
 |0,hp=>
  simp at hp
  subst hp
  exact⟨A,c,B.cell 0 rfl,ha.below hu⟩
def RetSE (w:World) (t:List UInt8) (c:Int) (e:Ending) (w':World):Prop:=e= .returned (.tuple #[.string ⟨t.toArray⟩,.int .i64 c])∧Below w.heap.size w w'
def SameTE (f g:Nat) (a:List (List UInt8)):Prop:=∃L c,L.length≤1099511627776∧(∀W v,Glob W→StrsAt W v a→Calls Tryz.prog f #[v] W (RetTE W L c))∧∀W v,Glob W→StrsAt W v a→Calls Tryz.prog g #[v] W (RetTE W L c)
section
variable (a:List (List UInt8)) (hl:a.length≤1024) (hll:∀l∈a,l.length≤1073741824) (hK:∀q∈ratsOf a,RL 1 q)
include hl hll hK
theorem same_make:SameTE 19 20 a:=by
 have hp:=fun W v hG h=>uniMake_any a v W hG h (by omega) hll 1 hK (by decide)
 have hr:=fun W v h=>refMake_any a v W h (by omega) hll 1 hK (by decide)
 have hql:=rats_len a
 have htl:=trimG_len isZ (ratsOf a)
 by_cases h:a.all rd=true
 ·have e:∀W,RetMk W a=RetPoly W (trimG isZ (ratsOf a)):=fun W=>by funext e w';unfold RetMk;rw[if_pos h]
  simp only[e] at hp hr
  exact⟨if (trimG isZ (ratsOf a)).length≤65 then (trimG isZ (ratsOf a)).map ratTxt else [],_,by split<;>simp<;>omega,hp,fun W v _ h=>hr W v h⟩
 ·have e:∀W,RetMk W a=RetTE W [] 1:=fun W=>by funext e w';unfold RetMk;rw[if_neg h]
  simp only[e] at hp hr
  exact⟨[],1,by simp,hp,fun W v _ h=>hr W v h⟩
theorem same_derive:SameTE 17 21 a:=by
 have hp:=fun W v hG h=>uniDerive_any a v W hG h hl hll 1 hK (by decide) (by decide)
 have hr:=fun W v h=>refDerive_any a v W h hl hll 1 hK (by decide) (by decide)
 have hql:=rats_len a
 have htl:=trimG_len isZ (derR (ratsOf a))
 rw[derR_len] at htl
 by_cases h:vl a=true
 ·have e:∀W,RetDv W a=RetTE W ((trimG isZ (derR (ratsOf a))).map ratTxt) 0:=fun W=>by funext e w';unfold RetDv;rw[if_pos h]
  simp only[e] at hp hr
  exact⟨_,_,by rw[List.length_map];omega,hp,fun W v _ h=>hr W v h⟩
 ·have e:∀W,RetDv W a=RetTE W [] 1:=fun W=>by funext e w';unfold RetDv;rw[if_neg h]
  simp only[e] at hp hr
  exact⟨[],1,by simp,hp,fun W v _ h=>hr W v h⟩
theorem same_eval (x:List UInt8) (hx:x.length≤18):∃t c,(∀W v,Glob W→StrsAt W v a→Calls Tryz.prog 22 #[v,.string ⟨x.toArray⟩] W (RetSE W t c))∧∀W v,StrsAt W v a→Calls Tryz.prog 23 #[v,.string ⟨x.toArray⟩] W (RetSE W t c):=by
 have kx:RL 1 ((readL x).getD 0):=by
  cases hr:readL x with
  |none=>exact RL_zero (Nat.le_refl 1)
  |some q=>exact RL_text hr hx
 have hp:=fun W v hG h=>uniEval_any a x v W hG h hl hll (by omega) 1 hK kx (by decide)
 have hr:=fun W v h=>refEval_any a x v W h hl hll (by omega) 1 hK kx (by decide)
 by_cases h:vl a=true∧rd x=true
 ·have e:∀W,RetEv W a x=RetSE W (ratTxt (evR (ratsOf a) ((readL x).getD 0))) 0:=fun W=>by funext e w';unfold RetEv RetSE;rw[if_pos h]
  simp only[e] at hp hr
  exact⟨_,_,hp,hr⟩
 ·have e:∀W,RetEv W a x=RetSE W [] 1:=fun W=>by funext e w';unfold RetEv RetSE;rw[if_neg h]
  simp only[e] at hp hr
  exact⟨_,_,hp,hr⟩
end
theorem basics_any (a:List (List UInt8)) (x:List UInt8) (va:Value) (w:World) (hG:Glob w) (ha:StrsAt w va a) (hca:∀l∈a,l.length≤9223372036854775807) (hcx:x.length≤9223372036854775807):
  Calls Tryz.prog 5 #[va,.string ⟨x.toArray⟩] w fun e w'=>e= .returned (.bool true)∧Below w.heap.size w w':=by
 obtain⟨A,c,rfl,hc⟩:=ha.form
 have hp:=polys_one ha 22
 have hxz:(⟨x.toArray⟩:ByteArray).size=x.length:=by simp[ByteArray.size]
 have hb:Below w.heap.size w (w.alloc (.cells #[.slice A a.length c] 22)):=(Below.refl _ _).alloc (Nat.le_refl _) _
 have hsm:=fun W v (hp:PolysAt W v [a])=>show Calls Tryz.prog 8 #[.int .i64 70,.int .i64 12,v] W fun e w'=>e= .returned (.bool (smallB 70 12 [a]))∧W=w' from small_any 70 12 [a] v W hp (by decide) (by decide) (by show 1≤1073741824;decide) (fun p hp=>by
  simp only[List.mem_cons,List.not_mem_nil,or_false] at hp
  subst hp;exact hca)
 clear hca
 go_enter Tryz.func5,Tryz.ntmps5
 go_wp2_with fail
 replace ha:=ha.below hb
 generalize w.alloc (.cells #[.slice A a.length c] 22)=W at *
 with_reducible refine(hsm _ _ hp).mono ?_
 rintro e1 w1 ⟨rfl,rfl⟩
 clear hsm hp
 cases hs:smallB 70 12 [a] with
 |false=>
  clear hs
  go_wp2_with fail
  with_reducible refine(awake_any _ (hG.below hb)).mono ?_
  rintro e9 w9 ⟨rfl,hb9⟩
  go_wp2_with fail
  go_ret
  exact⟨rfl,hb.trans (hb9.mono hb.size)⟩
 |true=>
  by_cases hx6:x.length≤6
  ·have r0:¬(6:Int)<(x.length:Int):=by omega
   obtain⟨la,sa⟩:=small_parts hs (p:=a) (by simp)
   have hll:∀l∈a,l.length≤1073741824:=fun l hl=>Nat.le_trans (sa l hl) (by decide)
   have hK:∀q∈ratsOf a,RL 1 q:=RL_short (fun l hl=>Nat.le_trans (sa l hl) (by decide))
   obtain⟨L1,c1,l1,p1,r1⟩:=same_make a (by omega) hll hK
   obtain⟨L2,c2,l2,p2,r2⟩:=same_derive a (by omega) hll hK
   obtain⟨t3,c3,p3,r3⟩:=same_eval a (by omega) hll hK x (by omega)
   have p4:=fun W v hG h=>valid_any a v W hG h (by omega) (fun _=>hll)
   have r4:=fun W v h=>refValid_any a v W h (by omega) hll (fun q hq=>RL_mono (hK q hq) (by decide))
   have p5:=fun W v hG h=>uniDegree_any a v W hG h (by omega) (fun _=>hll)
   have r5:=fun W v h=>refDegree_any a v W h (by omega) hll (fun q hq=>RL_mono (hK q hq) (by decide))
   generalize vl a=va at *
   generalize ((rdQ a).length:Int)-1=da at *
   clear hs sa hll hK
   go_wp2_with fail
   with_reducible refine(p1 _ _ (hG.below hb) ha).mono ?_
   rintro e2 w2 ⟨v2,rfl,h2,hb2⟩
   replace ha:=ha.below hb2
   replace hb:=hb.trans (hb2.mono hb.size)
   go_wp2_with fail
   with_reducible refine(r1 _ _ (hG.below hb) ha).mono ?_
   rintro e3 w3 ⟨v3,rfl,h3,hb3⟩
   replace ha:=ha.below hb3
   replace h2:=h2.below hb3
   replace hb:=hb.trans (hb3.mono hb.size)
   go_wp2_with fail
   with_reducible refine(p2 _ _ (hG.below hb) ha).mono ?_
   rintro e4 w4 ⟨v4,rfl,h4,hb4⟩
   replace ha:=ha.below hb4
   replace h2:=h2.below hb4
   replace h3:=h3.below hb4
   replace hb:=hb.trans (hb4.mono hb.size)
   go_wp2_with fail
   with_reducible refine(r2 _ _ (hG.below hb) ha).mono ?_
   rintro e5 w5 ⟨v5,rfl,h5,hb5⟩
   replace ha:=ha.below hb5
   replace h2:=h2.below hb5
   replace h3:=h3.below hb5
   replace h4:=h4.below hb5
   replace hb:=hb.trans (hb5.mono hb.size)
   go_wp2_with fail
   with_reducible refine(p3 _ _ (hG.below hb) ha).mono ?_
   rintro e6 w6 ⟨rfl,hb6⟩
   replace ha:=ha.below hb6
   replace h2:=h2.below hb6
   replace h3:=h3.below hb6
   replace h4:=h4.below hb6
   replace h5:=h5.below hb6
   replace hb:=hb.trans (hb6.mono hb.size)
   go_wp2_with fail
   with_reducible refine(r3 _ _ ha).mono ?_
   rintro e7 w7 ⟨rfl,hb7⟩
   replace ha:=ha.below hb7
   replace h2:=h2.below hb7
   replace h3:=h3.below hb7
   replace h4:=h4.below hb7
   replace h5:=h5.below hb7
   replace hb:=hb.trans (hb7.mono hb.size)
   go_wp2_with fail
   with_reducible refine(p4 _ _ (hG.below hb) ha).mono ?_
   rintro e8 w8 ⟨rfl,hb8⟩
   replace ha:=ha.below hb8
   replace h2:=h2.below hb8
   replace h3:=h3.below hb8
   replace h4:=h4.below hb8
   replace h5:=h5.below hb8
   replace hb:=hb.trans (hb8.mono hb.size)
   go_wp2_with fail
   with_reducible refine(r4 _ _ ha).mono ?_
   rintro e9 w9 ⟨rfl,hb9⟩
   replace ha:=ha.below hb9
   replace h2:=h2.below hb9
   replace h3:=h3.below hb9
   replace h4:=h4.below hb9
   replace h5:=h5.below hb9
   replace hb:=hb.trans (hb9.mono hb.size)
   clear p1 r1 p2 r2 p3 r3 p4 r4
   go_wp2_with fail
   with_reducible refine(p5 _ _ (hG.below hb) ha).mono ?_
   rintro e10 w10 ⟨rfl,hb10⟩
   replace ha:=ha.below hb10
   replace h2:=h2.below hb10
   replace h3:=h3.below hb10
   replace h4:=h4.below hb10
   replace h5:=h5.below hb10
   replace hb:=hb.trans (hb10.mono hb.size)
   go_wp2_with fail
   with_reducible refine(r5 _ _ ha).mono ?_
   rintro e11 w11 ⟨rfl,hb11⟩
   replace ha:=ha.below hb11
   replace h2:=h2.below hb11
   replace h3:=h3.below hb11
   replace h4:=h4.below hb11
   replace h5:=h5.below hb11
   replace hb:=hb.trans (hb11.mono hb.size)
   go_wp2_with fail
   with_reducible refine(keepSame L1 _ _ _ h2 h3 l1).mono ?_
   rintro e12 w12 ⟨rfl,hb12⟩
   replace h4:=h4.below hb12
   replace h5:=h5.below hb12
   replace hb:=hb.trans (hb12.mono hb.size)
   go_wp2_with fail
   with_reducible refine(keepSame L2 _ _ _ h4 h5 l2).mono ?_
   rintro e13 w13 ⟨rfl,hb13⟩
   replace hb:=hb.trans (hb13.mono hb.size)
   go_wp2_with fail
   with_reducible refine(awake_any _ (hG.below hb)).mono ?_
   rintro e9 w9 ⟨rfl,hb9⟩
   go_wp2_with fail
   go_ret
   exact⟨rfl,hb.trans (hb9.mono hb.size)⟩
  ·have r0:(6:Int)<(x.length:Int):=by omega
   clear hs hx6
   go_wp2_with fail
   with_reducible refine(awake_any _ (hG.below hb)).mono ?_
   rintro e9 w9 ⟨rfl,hb9⟩
   go_wp2_with fail
   go_ret
   exact⟨rfl,hb.trans (hb9.mono hb.size)⟩
end Go.Proofs.YtlojjipfnejbnaaGreatDoor
