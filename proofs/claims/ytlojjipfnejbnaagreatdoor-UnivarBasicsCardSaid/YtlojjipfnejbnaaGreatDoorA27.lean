/-
  Contracts of functions that the statement reaches, and plain laws: RatB.
-/
import Derived.Test.YtlojjipfnejbnaaGreatDoorA19
set_option linter.unusedVariables false
set_option linter.unusedSimpArgs false
set_option maxHeartbeats 8000000
set_option maxRecDepth 100000
namespace Go.Proofs.YtlojjipfnejbnaaGreatDoor
open Go.RowKit Sos
theorem nl_gcd_left (n d K:Nat) (hn:n≠0) (h:nl n≤K):nl (Nat.gcd n d)≤K:=Nat.le_trans (nl_mono (Nat.le_of_dvd (by omega) (Nat.gcd_dvd_left _ _))) h
theorem natAbs_tdiv_le (x y:Int) (K:Nat) (h:nl x.natAbs≤K):nl (x.tdiv y).natAbs≤K:=by
 refine Nat.le_trans (nl_mono ?_) h
 rw[Int.natAbs_tdiv]
 exact Nat.div_le_self _ _
def FracIn (w:World) (q:Rat) (K:Nat) (lowest:Bool) (wx:World):Prop:=
 ∃n d s1 A1 k1 c1 s2 A2 k2 c2,Bx wx w.heap.size [.bool s1,.slice A1 k1 c1] 53∧Bx wx (w.heap.size+1) [.bool s2,.slice A2 k2 c2] 53∧
  Bx wx (w.heap.size+1+1) [.bool false,.slice none 0 0,.bool false,.slice none 0 0] 83∧IntAt wx (.agg #[.bool s1,.slice A1 k1 c1]) n∧IntAt wx (.agg #[.bool s2,.slice A2 k2 c2]) d∧
  0<d∧n≠0∧Hid ((n:Rat)/d=q)∧nl n.natAbs≤K∧nl d.natAbs≤K∧(lowest=true→Hid (q.num=n∧(q.den:Int)=d))∧Below w.heap.size w wx
theorem fraction_any (n d:Int) (vn vd:Value) (w:World) (hG:Glob w) (hn:IntAt w vn n) (hd:IntAt w vd d) (K:Nat) (bn:nl n.natAbs≤K) (bd:nl d.natAbs≤K) (hK:5*K+4≤LIM):
  Calls Tryz.prog 67 #[vn,vd] w (RetRat w ((n:Rat)/d)):=by
 unfold LIM at hK
 obtain⟨sn,An,kn,cn,rfl⟩:=hn.form
 obtain⟨sd,Ad,kd,cd,rfl⟩:=hd.form
 obtain⟨W,eW,hb,B1,B2,R⟩:=box3 w [.bool sn,.slice An kn cn] 53 [.bool sd,.slice Ad kd cd] 53 [.bool false,.slice none 0 0,.bool false,.slice none 0 0] 83
 have cM:=aa B1.g2 (aa B2.g2 R.g4)
 go_enter Tryz.func67,Tryz.ntmps67
 go_wp2_with fail
 (try rw[eW]);clear eW
 replace hn:=hn.below hb
 replace hd:=hd.below hb
 with_reducible refine(isZero_any d _ _ hd (by omega)).mono ?_
 rintro e1 w1 ⟨rfl,hb1⟩
 replace B1:=B1.below hb1
 replace B2:=B2.below hb1
 replace R:=R.below hb1
 replace cM:=aa B1.k2 (aa B2.k2 R.g4)
 replace hk:=Keep.below hb1
 replace hn:=hn.keep hk
 replace hd:=hd.keep hk
 replace hb:=hb.trans (hb1.mono hb.size)
 by_cases hd0:d=0
 ·have hdd:decide (d=0)=true:=by simpa using hd0
  have hq:(n:Rat)/d=0:=by rw[hd0,Rat.intCast_zero];grind
  rw[hdd]
  have HQ:=Lib.hid hq
  clear hdd hq
  go_wp2_with fail
  obtain⟨W6,eW6,R,hb,hk,ff⟩:=R.put4 hb (by omega) (.bool false) (.slice none 0 0) (.bool false) (.slice none 0 0) rfl rfl
  replace B1:=ff B1 (by omega)
  replace B2:=ff B2 (by omega)
  rw[eW6];clear eW6
  replace cM:=aa B1.k2 (aa B2.k2 R.k4)
  exact bodyPost_ret (v:= .agg #[.bool false,.slice none 0 0,.bool false,.slice none 0 0]) (by simp[results,Tryz.results67,go_sem,R.k4]) rfl ⟨_,rfl,RatAt.of (IntAt.zero _) (IntAt.zero _) (by rw[HQ.out];rfl) (by rw[HQ.out];rfl),hb⟩
 ·have hdd:decide (d=0)=false:=by simpa using hd0
  rw[hdd]
  clear hdd
  go_wp2_with fail
  with_reducible refine(isZero_any n _ _ hn (by omega)).mono ?_
  rintro e2 w2 ⟨rfl,hb2⟩
  replace B1:=B1.below hb2
  replace B2:=B2.below hb2
  replace R:=R.below hb2
  replace cM:=aa B1.k2 (aa B2.k2 R.g4)
  replace hk:=Keep.below hb2
  replace hn:=hn.keep hk
  replace hd:=hd.keep hk
  replace hb:=hb.trans (hb2.mono hb.size)
  by_cases hn0:n=0
  ·have hdd:decide (n=0)=true:=by simpa using hn0
   have hq:(n:Rat)/d=0:=by rw[hn0];exact frac_zero d
   rw[hdd]
   have HQ:=Lib.hid hq
   clear hdd hq
   go_wp2_with fail
   obtain⟨W6,eW6,R,hb,hk,ff⟩:=R.put4 hb (by omega) (.bool false) (.slice none 0 0) (.bool false) (.slice none 0 0) rfl rfl
   replace B1:=ff B1 (by omega)
   replace B2:=ff B2 (by omega)
   rw[eW6];clear eW6
   replace cM:=aa B1.k2 (aa B2.k2 R.k4)
   exact bodyPost_ret (v:= .agg #[.bool false,.slice none 0 0,.bool false,.slice none 0 0]) (by simp[results,Tryz.results67,go_sem,R.k4]) rfl ⟨_,rfl,RatAt.of (IntAt.zero _) (IntAt.zero _) (by rw[HQ.out];rfl) (by rw[HQ.out];rfl),hb⟩
  ·have hdd:decide (n=0)=false:=by simpa using hn0
   rw[hdd]
   clear hdd
   go_wp2_with fail
   with_reducible refine(sign_any d _ _ hd (by omega)).mono ?_
   rintro e3 w3 ⟨rfl,hb3⟩
   replace B1:=B1.below hb3
   replace B2:=B2.below hb3
   replace R:=R.below hb3
   replace cM:=aa B1.g2 (aa B2.g2 R.g4)
   replace hk:=Keep.below hb3
   replace hn:=hn.keep hk
   replace hd:=hd.keep hk
   replace hb:=hb.trans (hb3.mono hb.size)
   go_upto_if 15 with fail
   go_cut [] (fun wx=>FracIn w ((n:Rat)/d) K false wx)
   case first=>
    by_cases hneg:d<0
    ·have hs:d.sign= -1:=Int.sign_eq_neg_one_of_neg hneg
     rw[hs]
     clear hs
     go_wp2_with fail
     replace hn:=hn.drew
     replace hd:=hd.drew
     replace B1:=B1.drew
     replace B2:=B2.drew
     replace R:=R.drew
     replace hb:=hb.drew
     go_region_with (first
       |(go_at_call 107;(with_reducible refine(neg_any n _ _ hn (by omega)).mono ?_);rintro e4 w4 ⟨v4,rfl,h4,hb4⟩;obtain⟨s4,A4,k4,c4,rfl⟩:=h4.form;replace B1:=B1.below hb4;replace B2:=B2.below hb4;replace R:=R.below hb4;replace cM:=aa B1.g2 (aa B2.g2 R.g4);replace hk:=Keep.below hb4;replace hn:=hn.keep hk;replace hd:=hd.keep hk;(try replace h5:=h5.keep hk);replace hb:=hb.trans (hb4.mono hb.size))
       |(go_at_call 107;(with_reducible refine(neg_any d _ _ hd (by omega)).mono ?_);rintro e5 w5 ⟨v5,rfl,h5,hb5⟩;obtain⟨s5,A5,k5,c5,rfl⟩:=h5.form;replace B1:=B1.below hb5;replace B2:=B2.below hb5;replace R:=R.below hb5;replace cM:=aa B1.g2 (aa B2.g2 R.g4);replace hk:=Keep.below hb5;replace hn:=hn.keep hk;replace hd:=hd.keep hk;(try replace h4:=h4.keep hk);replace hb:=hb.trans (hb5.mono hb.size)))
     all_goals (
      go_wp2_with fail
      have B1_ltw5:=B1.lt
      have B2_ltw5:=B2.lt
      have R_ltw5:=R.lt
      have hszw5:=hb.size
      replace B2:=(B2.far 0 (.bool s4) (show w.heap.size≠w.heap.size+1 by omega)).far 1 (.slice A4 k4 c4) (show w.heap.size≠w.heap.size+1 by omega)
      replace R:=(R.far 0 (.bool s4) (show w.heap.size≠w.heap.size+1+1 by omega)).far 1 (.slice A4 k4 c4) (show w.heap.size≠w.heap.size+1+1 by omega)
      replace hk:=int_stored (s:=s4) (u:= .slice A4 k4 c4) hb (by omega) B1
      clear B1 hb
      obtain⟨-, -,B1,hb,hk⟩:=hk
      replace h4:=h4.keep hk
      replace h5:=h5.keep hk
      replace B1:=(B1.far 0 (.bool s5) (show w.heap.size+1≠w.heap.size by omega)).far 1 (.slice A5 k5 c5) (show w.heap.size+1≠w.heap.size by omega)
      replace R:=(R.far 0 (.bool s5) (show w.heap.size+1≠w.heap.size+1+1 by omega)).far 1 (.slice A5 k5 c5) (show w.heap.size+1≠w.heap.size+1+1 by omega)
      replace hk:=int_stored (s:=s5) (u:= .slice A5 k5 c5) hb (by omega) B2
      clear B2 hb
      obtain⟨-, -,B2,hb,hk⟩:=hk
      replace h4:=h4.keep hk
      replace h5:=h5.keep hk
      go_meet
      exact⟨-n, -d,_,_,_,_,_,_,_,_,B1,B2,R,h4,h5,by omega,by omega,frac_neg n d,by rw[Int.natAbs_neg];exact bn,by rw[Int.natAbs_neg];exact bd,(fun h=>by cases h),hb⟩)
    ·have hs:d.sign=1:=Int.sign_eq_one_of_pos (by omega)
     rw[hs]
     clear hs
     go_wp2_with fail
     go_meet
     exact⟨n,d,_,_,_,_,_,_,_,_,B1,B2,R,hn,hd,by omega,hn0,rfl,bn,bd,(fun h=>by cases h),hb⟩
   case rest=>
    clear B1 B2 R hn hd hb hn0 hd0 bn bd
    obtain⟨n',d',s1,A1,k1,c1,s2,A2,k2,c2,B1,B2,R,hn,hd,hd0,hn0,HQ,bn,bd, -,hb⟩:=hcut
    generalize (n:Rat)/d=q at *
    replace cM:=aa B1.g2 (aa B2.g2 R.g4)
    go_wp2_with fail
    with_reducible refine(isOne_any d' _ _ hd (by omega)).mono ?_
    rintro e3 w3 ⟨rfl,hb3⟩
    replace B1:=B1.below hb3
    replace B2:=B2.below hb3
    replace R:=R.below hb3
    replace cM:=aa B1.g2 (aa B2.g2 R.g4)
    replace hk:=Keep.below hb3
    replace hn:=hn.keep hk
    replace hd:=hd.keep hk
    replace hb:=hb.trans (hb3.mono hb.size)
    by_cases h1:d'=1
    ·have hdd:decide (d'=1)=true:=by simpa using h1
     rw[hdd]
     have hq:q=(n':Rat):=by rw[←HQ.out,h1,Rat.intCast_one];grind
     have HQQ:=Lib.hid hq
     clear hdd hq
     go_wp2_with fail
     obtain⟨W6,eW6,R,hb,hk,ff⟩:=R.put4 hb (by omega) (.bool s1) (.slice A1 k1 c1) (.bool false) (.slice none 0 0) rfl rfl
     replace B1:=ff B1 (by omega)
     replace B2:=ff B2 (by omega)
     replace hn:=hn.keep hk
     rw[eW6];clear eW6
     replace cM:=aa B1.k2 (aa B2.k2 R.k4)
     exact bodyPost_ret (v:= .agg #[.bool s1,.slice A1 k1 c1,.bool false,.slice none 0 0]) (by simp[results,Tryz.results67,go_sem,R.k4]) rfl ⟨_,rfl,RatAt.of hn (IntAt.zero _) (by rw[HQQ.out];rfl) (by rw[HQQ.out];rfl),hb⟩
    ·have hdd:decide (d'=1)=false:=by simpa using h1
     rw[hdd]
     clear hdd
     obtain⟨hp1,hp2⟩:=frac_parts (n:=n') hd0
     rw[HQ.out] at hp1 hp2
     have hgl:=nl_gcd_left n'.natAbs d'.natAbs K (by omega) bn
     have hg0:Nat.gcd n'.natAbs d'.natAbs≠0:=fun h=>by have:=Nat.eq_zero_of_gcd_eq_zero_left h;omega
     have hqn:=natAbs_tdiv_le n' (Nat.gcd n'.natAbs d'.natAbs:Nat) K bn
     have hqd:=natAbs_tdiv_le d' (Nat.gcd n'.natAbs d'.natAbs:Nat) K bd
     have hgc:=fun W hG h1 h2=>gcd_any n' d' (.agg #[.bool s1,.slice A1 k1 c1]) (.agg #[.bool s2,.slice A2 k2 c2]) W hG h1 h2 K bn bd (by unfold LIM;omega)
     have hq0:0<d'.tdiv (Nat.gcd n'.natAbs d'.natAbs:Nat):=by rw[←hp2];have:=q.den_nz;omega
     have hqn0:n'.tdiv (Nat.gcd n'.natAbs d'.natAbs:Nat)≠0:=by
      rw[←hp1]
      intro h
      have h2:q=0:=Rat.num_eq_zero.1 h
      have h3:=HQ.out
      rw[h2] at h3
      have h4:(n':Rat)≠0:=fun e=>hn0 (Rat.intCast_inj.1 e)
      have h5:(d':Rat)≠0:=fun e=>(show d'≠0 by omega) (Rat.intCast_inj.1 e)
      grind
     have HP:=Lib.hid (And.intro hp1 hp2)
     generalize hg:Nat.gcd n'.natAbs d'.natAbs=g at *
     have hqq:Hid (((n'.tdiv (g:Int):Int):Rat)/((d'.tdiv (g:Int):Int):Rat)=q):=by
      unfold Hid
      rw[←HP.out.1,←HP.out.2,Rat.intCast_natCast,←Rat.mkRat_eq_div,Rat.mkRat_self]
     have hg1:g=1→Hid (q.num=n'∧(q.den:Int)=d'):=fun h=>by
      have:=HP.out
      rw[h] at this
      unfold Hid
      simpa using this
     unfold RetInt at hgc
     clear hp1 hp2 h1 hg
     go_wp2_with fail
     with_reducible refine(hgc _ ((hG.below hb)) hn hd).mono ?_
     rintro e4 w4 ⟨v4,rfl,h4,hb4⟩
     obtain⟨s4,A4,k4,c4,rfl⟩:=h4.form
     replace B1:=B1.below hb4
     replace B2:=B2.below hb4
     replace R:=R.below hb4
     replace cM:=aa B1.g2 (aa B2.g2 R.g4)
     replace hk:=Keep.below hb4
     replace hn:=hn.keep hk
     replace hd:=hd.keep hk
     replace hb:=hb.trans (hb4.mono hb.size)
     clear hgc
     go_wp2_with fail
     have B1_l:=B1.lt
     have B2_l:=B2.lt
     have R_l:=R.lt
     have hsz_:=hb.size
     obtain⟨W4,eW4,hA,B5⟩:=box1 w4 [.bool s4,.slice A4 k4 c4] 53
     replace B1:=B1.below hA
     replace B2:=B2.below hA
     replace R:=R.below hA
     replace hk:=Keep.below hA
     replace hb:=hb.trans (hA.mono hb.size)
     replace hn:=hn.keep hk
     replace hd:=hd.keep hk
     replace h4:=h4.keep hk
     rw[eW4];clear eW4
     replace cM:=aa B1.g2 (aa B2.g2 (aa R.g4 B5.k2))
     with_reducible refine(isOne_any (g:Int) _ _ h4 (by simp;omega)).mono ?_
     rintro e6 w6 ⟨rfl,hb6⟩
     replace B1:=B1.below hb6
     replace B2:=B2.below hb6
     replace R:=R.below hb6
     replace B5:=B5.below hb6
     replace cM:=aa B1.g2 (aa B2.g2 (aa R.g4 B5.k2))
     replace hk:=Keep.below hb6
     replace hn:=hn.keep hk
     replace hd:=hd.keep hk
     replace h4:=h4.keep hk
     replace hb:=hb.trans (hb6.mono hb.size)
     have hn52:w4.heap.size≠w.heap.size+1:=by omega
     go_upto_if 29 with fail
     go_cut [] (fun wx=>FracIn w q K true wx)
     case first=>
      by_cases h1:(g:Int)=1
      ·have hdd:decide ((g:Int)=1)=true:=by simpa using h1
       rw[hdd]
       go_wp2_with fail
       go_meet
       exact⟨n',d',_,_,_,_,_,_,_,_,B1,B2,R,hn,hd,hd0,hn0,HQ,bn,bd,(fun _=>hg1 (by omega)),hb⟩
      ·have hdd:decide ((g:Int)=1)=false:=by simpa using h1
       rw[hdd]
       have hq1:=fun W v u h1 h2=>quo_any n' (g:Int) v u W h1 h2 (by omega) (by simp;omega)
       have hq2:=fun W v u h1 h2=>quo_any d' (g:Int) v u W h1 h2 (by omega) (by simp;omega)
       unfold RetInt at hq1 hq2
       generalize n'.tdiv (g:Int)=Q1 at *
       generalize d'.tdiv (g:Int)=Q2 at *
       clear hdd h1 hg1
       have HALL:=Lib.hid (And.intro hq0 (And.intro hqn0 (And.intro hqq (And.intro hqn (And.intro hqd HP)))))
       clear hq0 hqn0 hqq hqn hqd HP HQ hG hgl hg0 bn bd hd0 hn0 hn52
       go_wp2_with fail
       replace hn:=hn.drew
       replace hd:=hd.drew
       replace h4:=h4.drew
       replace B1:=B1.drew
       replace B2:=B2.drew
       replace R:=R.drew
       replace B5:=B5.drew
       replace hb:=hb.drew
       go_region_with (first
         |(go_at_call 112;(with_reducible refine(hq1 _ _ _ hn h4).mono ?_);rintro e7 w7 ⟨v7,rfl,h7,hb7⟩;obtain⟨s7,A7,k7,c7,rfl⟩:=h7.form;replace B1:=B1.below hb7;replace B2:=B2.below hb7;replace R:=R.below hb7;replace B5:=B5.below hb7;replace cM:=aa B1.g2 (aa B2.g2 (aa R.g4 B5.k2));replace hk:=Keep.below hb7;replace hn:=hn.keep hk;replace hd:=hd.keep hk;replace h4:=h4.keep hk;(try replace h8:=h8.keep hk);replace hb:=hb.trans (hb7.mono hb.size))
         |(go_at_call 112;(with_reducible refine(hq2 _ _ _ hd h4).mono ?_);rintro e8 w8 ⟨v8,rfl,h8,hb8⟩;obtain⟨s8,A8,k8,c8,rfl⟩:=h8.form;replace B1:=B1.below hb8;replace B2:=B2.below hb8;replace R:=R.below hb8;replace B5:=B5.below hb8;replace cM:=aa B1.g2 (aa B2.g2 (aa R.g4 B5.k2));replace hk:=Keep.below hb8;replace hn:=hn.keep hk;replace hd:=hd.keep hk;replace h4:=h4.keep hk;(try replace h7:=h7.keep hk);replace hb:=hb.trans (hb8.mono hb.size)))
       all_goals (
        go_wp2_with fail
        have B1_ltw8:=B1.lt
        have B2_ltw8:=B2.lt
        have R_ltw8:=R.lt
        have B5_ltw8:=B5.lt
        have hszw8:=hb.size
        replace B2:=(B2.far 0 (.bool s7) (show w.heap.size≠w.heap.size+1 by omega)).far 1 (.slice A7 k7 c7) (show w.heap.size≠w.heap.size+1 by omega)
        replace R:=(R.far 0 (.bool s7) (show w.heap.size≠w.heap.size+1+1 by omega)).far 1 (.slice A7 k7 c7) (show w.heap.size≠w.heap.size+1+1 by omega)
        replace B5:=(B5.far 0 (.bool s7) (show w.heap.size≠w4.heap.size by omega)).far 1 (.slice A7 k7 c7) (show w.heap.size≠w4.heap.size by omega)
        replace hk:=int_stored (s:=s7) (u:= .slice A7 k7 c7) hb (by omega) B1
        clear B1 hb
        obtain⟨-, -,B1,hb,hk⟩:=hk
        replace h7:=h7.keep hk
        replace h8:=h8.keep hk
        replace B1:=(B1.far 0 (.bool s8) (show w.heap.size+1≠w.heap.size by omega)).far 1 (.slice A8 k8 c8) (show w.heap.size+1≠w.heap.size by omega)
        replace R:=(R.far 0 (.bool s8) (show w.heap.size+1≠w.heap.size+1+1 by omega)).far 1 (.slice A8 k8 c8) (show w.heap.size+1≠w.heap.size+1+1 by omega)
        replace B5:=(B5.far 0 (.bool s8) (show w.heap.size+1≠w4.heap.size by omega)).far 1 (.slice A8 k8 c8) (show w.heap.size+1≠w4.heap.size by omega)
        replace hk:=int_stored (s:=s8) (u:= .slice A8 k8 c8) hb (by omega) B2
        clear B2 hb
        obtain⟨-, -,B2,hb,hk⟩:=hk
        replace h7:=h7.keep hk
        replace h8:=h8.keep hk
        go_meet
        exact⟨Q1,Q2,_,_,_,_,_,_,_,_,B1,B2,R,h7,h8,HALL.out.1,HALL.out.2.1,HALL.out.2.2.1,HALL.out.2.2.2.1,HALL.out.2.2.2.2.1,(fun _=>HALL.out.2.2.2.2.2.out),hb⟩)
     case rest=>
      clear B1 B2 R hn hd hb hn0 hd0 bn bd HQ hqq HP hqn hqd hqn0 hq0 hg1
      obtain⟨n',d',s1,A1,k1,c1,s2,A2,k2,c2,B1,B2,R,hn,hd,hd0,hn0,HQ,bn,bd,HL,hb⟩:=hcut
      replace cM:=aa B1.g2 (aa B2.g2 R.g4)
      go_wp2_with fail
      with_reducible refine(lowest_any q n' d' _ _ _ hn hd (HL trivial).out.1 (HL trivial).out.2 (by omega)).mono ?_
      rintro e9 w9 ⟨v9,rfl,h9,hb9⟩
      obtain⟨s9,A9,k9,c9,t9,D9,l9,d9,rfl⟩:=h9.form
      replace B1:=B1.below hb9
      replace B2:=B2.below hb9
      replace R:=R.below hb9
      replace cM:=aa B1.k2 (aa B2.k2 R.g4)
      replace hb:=hb.trans (hb9.mono hb.size)
      go_wp2_with fail
      obtain⟨W6,eW6,R,hb,hk,ff⟩:=R.put4 hb (by omega) (.bool s9) (.slice A9 k9 c9) (.bool t9) (.slice D9 l9 d9) rfl rfl
      replace B1:=ff B1 (by omega)
      replace B2:=ff B2 (by omega)
      replace h9:=h9.keep hk
      rw[eW6];clear eW6
      replace cM:=aa B1.k2 (aa B2.k2 R.k4)
      exact bodyPost_ret (v:= .agg #[.bool s9,.slice A9 k9 c9,.bool t9,.slice D9 l9 d9]) (by simp[results,Tryz.results67,go_sem,R.k4]) rfl ⟨_,rfl,h9,hb⟩
end Go.Proofs.YtlojjipfnejbnaaGreatDoor
