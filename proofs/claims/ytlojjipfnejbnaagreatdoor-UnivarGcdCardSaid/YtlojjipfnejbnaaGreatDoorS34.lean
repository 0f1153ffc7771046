/-
  Contracts of functions that the statement reaches, and plain laws: NumH, NumI.
-/
import Derived.Test.YtlojjipfnejbnaaGreatDoorS19
import Derived.Test.YtlojjipfnejbnaaGreatDoorS25
import Derived.Test.YtlojjipfnejbnaaGreatDoorS27
set_option linter.unusedVariables false
set_option linter.unusedSimpArgs false
set_option maxHeartbeats 8000000
set_option maxRecDepth 100000
namespace Go.Proofs.YtlojjipfnejbnaaGreatDoor
open Go.RowKit Sos
def NQ (w:World) (v:Value) (q:Rat):Prop:=∃s u s' u',v= .agg #[.bool s,u,.bool s',u']∧NI w (.agg #[.bool s,u]) q.num∧NI w (.agg #[.bool s',u']) (aS q)
def fR (w:World) (q:Rat) (e:Ending) (w':World):Prop:=∃v,e= .returned v∧NQ w' v q∧Below w.heap.size w w'
section
variable {w w':World} {v:Value} {q:Rat}
theorem NQ.below (h:NQ w v q) (hb:Below w.heap.size w w'):NQ w' v q:=by
 obtain⟨s,u,s',u',e,h1,h2⟩:=h;exact⟨s,u,s',u',e,h1.below hb,h2.below hb⟩
theorem NQ.keep (h:NQ w v q) (hk:KM w w'):NQ w' v q:=by
 obtain⟨s,u,s',u',e,h1,h2⟩:=h;exact⟨s,u,s',u',e,h1.keep hk,h2.keep hk⟩
theorem NQ.drew (h:NQ w v q):NQ w.drew v q:=h.below (Below.refl _ _).drew
theorem NQ.form (h:NQ w v q):∃s A k c s' A' k' c',v= .agg #[.bool s,.slice A k c,.bool s',.slice A' k' c']:=by
 obtain⟨s,u,s',u',rfl,h1,h2⟩:=h;obtain⟨_,A,k,c,e⟩:=h1.form;obtain⟨_,A',k',c',e'⟩:=h2.form;simp at e e';rw[e.2,e'.2];exact⟨_,_,_,_,_,_,_,_,rfl⟩
theorem NQ.num {s s':Bool} {u u':Value} (h:NQ w (.agg #[.bool s,u,.bool s',u']) q):NI w (.agg #[.bool s,u]) q.num:=by
 obtain⟨_,_,_,_,e,h1,h2⟩:=h;simp at e;rw[e.1,e.2.1];exact h1
theorem NQ.den {s s':Bool} {u u':Value} (h:NQ w (.agg #[.bool s,u,.bool s',u']) q):NI w (.agg #[.bool s',u']) (aS q):=by
 obtain⟨_,_,_,_,e,h1,h2⟩:=h;simp at e;rw[e.2.2.1,e.2.2.2];exact h2
theorem NQ.of {s s':Bool} {u u':Value} {n d:Int} (h1:NI w (.agg #[.bool s,u]) n) (h2:NI w (.agg #[.bool s',u']) d) (e1:q.num=n) (e2:aS q=d):NQ w (.agg #[.bool s,u,.bool s',u']) q:=
 ⟨s,u,s',u',rfl,by rw[e1];exact h1,by rw[e2];exact h2⟩
theorem NQ.zero (w:World):NQ w (.agg #[.bool false,.slice none 0 0,.bool false,.slice none 0 0]) 0:=NQ.of (NI.zero w) (NI.zero w) rfl rfl
end
theorem TU {n d:Int} {q:Rat} (hd:0<d) (hq:q=(n:Rat)/d):q.num=n.tdiv (Nat.gcd n.natAbs d.natAbs:Nat)∧((q.den:Nat):Int)=d.tdiv (Nat.gcd n.natAbs d.natAbs:Nat):=by rw[hq];exact BC hd
def GS (w:World) (q:Rat) (low:Bool) (wx:World):Prop:=∃(n d:Int) (s:Bool) (A:Option Addr) (k c:Nat) (t:Bool) (C:Option Addr) (l e:Nat),0<d∧Hid ((n:Rat)/d=q)∧(low=true→Hid (q.num=n∧(q.den:Int)=d))∧nl n.natAbs≤549755813888∧nl d.natAbs≤549755813888∧
 Bx wx w.heap.size [.bool s,.slice A k c] 94∧Bx wx (w.heap.size+1) [.bool t,.slice C l e] 94∧Bx wx (w.heap.size+1+1) [.bool false,.slice none 0 0,.bool false,.slice none 0 0] 96∧NI wx (.agg #[.bool s,.slice A k c]) n∧NI wx (.agg #[.bool t,.slice C l e]) d∧Below w.heap.size w wx
theorem uM (n d:Int) (vn vd:Value) (w:World) (hn:NI w vn n) (hd:NI w vd d) (h0:d≠0) (ln:nl n.natAbs≤549755813888) (ld:nl d.natAbs≤549755813888):
  Calls Tryz.prog 122 #[vn,vd] w (fR w ((n:Rat)/d)):=by
 obtain⟨s,A,k,c,rfl⟩:=hn.form;obtain⟨t,C,l,e,rfl⟩:=hd.form;have hT:=hd.neg;generalize hq:(n:Rat)/d=q;obtain⟨W,eW,hb,X,Y,R⟩:=dK w [.bool s,.slice A k c] 94 [.bool t,.slice C l e] 94 [.bool false,.slice none 0 0,.bool false,.slice none 0 0] 96;replace hn:=hn.below hb;replace hd:=hd.below hb;have cM:=aa X.g2 (aa Y.g2 R.g4);have HQ:=Lib.hid hq;have HT:=Lib.hid hT;clear hq hT;go_enter Tryz.func122,Tryz.ntmps122;go_upto_if 7 with fail;(try rw[eW]);clear eW;go_cut [] (fun wx=>GS w q false wx)
 case first=>
  cases t with
  |false=>
   go_wp2_with fail;go_meet;exact⟨n,d,_,_,_,_,_,_,_,_,by have:=HT.out;simp at this;omega,HQ,(fun h=>by cases h),ln,ld,X,Y,R,hn,hd,hb⟩
  |true=>
   go_wp2_with fail;replace hn:=hn.drew;replace hd:=hd.drew;replace X:=X.drew;replace Y:=Y.drew;replace R:=R.drew;replace hb:=hb.drew
   go_region_with (first
     |(go_at_call 161;(with_reducible refine(yK n _ _ hn (by omega)).mono ?_);rintro e4 w4 ⟨v4,rfl,h4,hb4⟩;obtain⟨s4,A4,k4,c4,rfl⟩:=h4.form;replace X:=X.below hb4;replace Y:=Y.below hb4;replace R:=R.below hb4;replace cM:=aa X.g2 (aa Y.g2 R.g4);replace hk:=KM.below hb4;replace hn:=hn.keep hk;replace hd:=hd.keep hk;(try replace h5:=h5.keep hk);replace hb:=aB hb hb4)
     |(go_at_call 161;(with_reducible refine(yK d _ _ hd (by omega)).mono ?_);rintro e5 w5 ⟨v5,rfl,h5,hb5⟩;obtain⟨s5,A5,k5,c5,rfl⟩:=h5.form;replace X:=X.below hb5;replace Y:=Y.below hb5;replace R:=R.below hb5;replace cM:=aa X.g2 (aa Y.g2 R.g4);replace hk:=KM.below hb5;replace hn:=hn.keep hk;replace hd:=hd.keep hk;(try replace h4:=h4.keep hk);replace hb:=aB hb hb5))
   all_goals (
    go_wp2_with fail;obtain⟨U0,eU0,X,hb,hk,ff⟩:=X.mut2 hb (by omega) (.bool s4) (.slice A4 k4 c4) rfl rfl;replace Y:=ff Y (by omega);replace R:=ff R (by omega);replace h4:=h4.keep hk;replace h5:=h5.keep hk;obtain⟨W6,eW6,Y,hb,hk,ff⟩:=Y.mut2 hb (by omega) (.bool s5) (.slice A5 k5 c5) rfl rfl;replace X:=ff X (by omega);replace R:=ff R (by omega);replace h4:=h4.keep hk;replace h5:=h5.keep hk;rw[eU0,eW6];clear eU0 eW6;replace cM:=aa X.k2 (aa Y.k2 R.k4);go_meet;exact⟨-n, -d,_,_,_,_,_,_,_,_,by have:=HT.out;simp at this;omega,by unfold Hid;rw[BD];exact HQ.out,(fun h=>by cases h),by rw[Int.natAbs_neg];exact ln,by rw[Int.natAbs_neg];exact ld,X,Y,R,h4,h5,hb⟩)
 case rest=>
  clear X Y R hn hd hb cM ln ld h0 HT HQ;obtain⟨n',d',s1,A1,k1,c1,s2,A2,k2,c2,hd0,HQ, -,ln,ld,X,Y,R,hn,hd,hb⟩:=hcut;have cM:=aa X.g2 (aa Y.g2 R.g4);obtain⟨hp1,hp2⟩:=TU hd0 HQ.out.symm;have hg0:Nat.gcd n'.natAbs d'.natAbs≠0:=fun h=>by have:=Nat.eq_zero_of_gcd_eq_zero_right h;omega
  have hgl:nl (Nat.gcd n'.natAbs d'.natAbs)≤nl d'.natAbs:=aX (Nat.le_of_dvd (by omega) (Nat.gcd_dvd_right _ _));have hqn:=gB n' (Nat.gcd n'.natAbs d'.natAbs:Nat) _ ln;have hqd:=gB d' (Nat.gcd n'.natAbs d'.natAbs:Nat) _ ld;have hq0:0<d'.tdiv (Nat.gcd n'.natAbs d'.natAbs:Nat):=by rw[←hp2];have:=q.den_nz;omega
  have hgc:=fun W h1 h2=>S8 n' d' (.agg #[.bool s1,.slice A1 k1 c1]) (.agg #[.bool s2,.slice A2 k2 c2]) W h1 h2 ln ld;have HP:=Lib.hid (And.intro hp1 hp2);clear hp1 hp2;generalize Nat.gcd n'.natAbs d'.natAbs=g at *;go_wp2_with fail;refine(hgc _ hn hd).mono ?_;rintro e4 w4 ⟨v4,rfl,h4,hb4⟩;obtain⟨s4,A4,k4,c4,rfl⟩:=h4.form;replace X:=X.below hb4;replace Y:=Y.below hb4;replace R:=R.below hb4;replace cM:=aa X.g2 (aa Y.g2 R.g4);replace hk:=KM.below hb4;replace hn:=hn.keep hk;replace hd:=hd.keep hk;replace hb:=aB hb hb4;clear hgc;go_wp2_with fail;have X_l:=X.lt;have Y_l:=Y.lt;have R_l:=R.lt;have hsz_:=hb.size;obtain⟨w5,ew5,hA,G⟩:=bA w4 [.bool s4,.slice A4 k4 c4] 94;replace X:=X.below hA;replace Y:=Y.below hA;replace R:=R.below hA;replace hk:=KM.below hA;replace hb:=aB hb hA;replace hn:=hn.keep hk;replace hd:=hd.keep hk;replace h4:=h4.keep hk;rw[ew5];clear ew5;replace cM:=aa X.g2 (aa Y.g2 (aa R.g4 G.k2));have hlg:nl g≤549755813888:=by omega
  refine(G3 _ _ _ h4 (by rw[Int.natAbs_natCast];exact hlg)).mono ?_;rintro e6 w6 ⟨bb,rfl,hB1, -,hb6⟩;rw[Int.natAbs_natCast] at hB1;replace X:=X.below hb6;replace Y:=Y.below hb6;replace R:=R.below hb6;replace G:=G.below hb6;replace cM:=aa X.g2 (aa Y.g2 (aa R.g4 G.k2));replace hk:=KM.below hb6;replace hn:=hn.keep hk;replace hd:=hd.keep hk;replace h4:=h4.keep hk;replace hb:=aB hb hb6;go_upto_if 17 with fail;go_cut [] (fun wx=>GS w q true wx)
  case first=>
   by_cases hg1:1<g
   ·have q1:decide (1<bb)=true:=by simpa using hB1.2 hg1
    have hq1:=fun W u v h k=>G0 n' (g:Int) u v W h k ln (by rw[Int.natAbs_natCast];exact hlg) (by omega);have hq2:=fun W u v h k=>G0 d' (g:Int) u v W h k ld (by rw[Int.natAbs_natCast];exact hlg) (by omega);unfold FZ at hq1 hq2;have HQ2:Hid (((n'.tdiv (g:Int):Int):Rat)/((d'.tdiv (g:Int):Int):Rat)=q):=by
     unfold Hid;rw[←HP.out.1,←HP.out.2,Rat.intCast_natCast,←Rat.mkRat_eq_div,Rat.mkRat_self]
    generalize n'.tdiv (g:Int)=N at *;generalize d'.tdiv (g:Int)=D at *;clear hB1;go_wp2_with fail;refine(hq1 _ _ _ hn h4).mono ?_;rintro e7 w7 ⟨v7,u7',rfl,h7, -,hb7⟩;obtain⟨s7,A7,k7,c7,rfl⟩:=h7.form;replace X:=X.below hb7;replace Y:=Y.below hb7;replace R:=R.below hb7;replace G:=G.below hb7;replace cM:=aa X.g2 (aa Y.g2 (aa R.g4 G.k2));replace hk:=KM.below hb7;replace hn:=hn.keep hk;replace hd:=hd.keep hk;replace h4:=h4.keep hk;replace hb:=aB hb hb7;go_wp2_with fail;have X_l:=X.lt;have Y_l:=Y.lt;have R_l:=R.lt;have G_l:=G.lt;have hsz_:=hb.size;obtain⟨w8,ew8,X,hb,hk,ff⟩:=X.mut2 hb (by omega) (.bool s7) (.slice A7 k7 c7) rfl rfl;replace Y:=ff Y (by omega);replace R:=ff R (by omega);replace G:=ff G (by omega);replace hd:=hd.keep hk;replace h4:=h4.keep hk;replace h7:=h7.keep hk;rw[ew8];clear ew8;replace cM:=aa X.g2 (aa Y.g2 (aa R.g4 G.k2));refine(hq2 _ _ _ hd h4).mono ?_;rintro e9 w9 ⟨v9,u9',rfl,h9, -,hb9⟩;obtain⟨s9,A9,k9,c9,rfl⟩:=h9.form;replace X:=X.below hb9;replace Y:=Y.below hb9;replace R:=R.below hb9;replace G:=G.below hb9;replace cM:=aa X.g2 (aa Y.g2 (aa R.g4 G.k2));replace hk:=KM.below hb9;replace hd:=hd.keep hk;replace h4:=h4.keep hk;replace h7:=h7.keep hk;replace hb:=aB hb hb9;go_wp2_with fail;have X_l:=X.lt;have Y_l:=Y.lt;have R_l:=R.lt;have G_l:=G.lt;have hsz_:=hb.size;obtain⟨W6,eW6,Y,hb,hk,ff⟩:=Y.mut2 hb (by omega) (.bool s9) (.slice A9 k9 c9) rfl rfl;replace X:=ff X (by omega);replace R:=ff R (by omega);replace G:=ff G (by omega);replace h7:=h7.keep hk;replace h9:=h9.keep hk;rw[eW6];clear eW6;replace cM:=aa X.k2 (aa Y.k2 (aa R.k4 G.k2));go_meet;exact⟨N,D,_,_,_,_,_,_,_,_,hq0,HQ2,(fun _=>HP),hqn,hqd,X,Y,R,h7,h9,hb⟩
   ·have q1:decide (1<bb)=false:=by simpa using fun h=>hg1 (hB1.1 h)
    have hg:g=1:=by omega
    subst hg;have HP2:Hid (q.num=n'∧(q.den:Int)=d'):=by have:=HP.out;unfold Hid;simpa using this
    clear hB1 hg1;go_wp2_with fail;go_meet;exact⟨n',d',_,_,_,_,_,_,_,_,hd0,HQ,(fun _=>HP2),ln,ld,X,Y,R,hn,hd,hb⟩
  case rest=>
   clear X Y R hn hd hb cM ln ld HP HQ hd0 hq0 hqd hqn;obtain⟨N,D,s1,A1,k1,c1,s2,A2,k2,c2,hd0, -,hP,ln,ld,X,Y,R,hn,hd,hb⟩:=hcut;have HP:=hP rfl;clear hP;have cM:=aa X.g2 (aa Y.g2 R.g4);go_wp2_with fail;refine(G3 _ _ _ hd ld).mono ?_;rintro e6 w6' ⟨bb',rfl, -,hB2,hb6'⟩;replace X:=X.below hb6';replace Y:=Y.below hb6';replace R:=R.below hb6';replace cM:=aa X.g2 (aa Y.g2 R.g4);replace hk:=KM.below hb6';replace hn:=hn.keep hk;replace hd:=hd.keep hk;replace hb:=aB hb hb6';by_cases hd1:D=1
   ·have q1:(bb'==1)=true:=by simpa using hB2.2 (by rw[hd1];rfl)
    have hden:Hid (aS q=0):=dH.2 (by have:=HP.out.2;omega);clear hB2 hd1;go_wp2_with fail;obtain⟨U0,eU0,Y,hb,hk,ff⟩:=Y.mut2 hb (by omega) (.bool false) (.slice none 0 0) rfl rfl;replace X:=ff X (by omega);replace R:=ff R (by omega);replace hn:=hn.keep hk;obtain⟨W6,eW6,R,hb,hk,ff⟩:=R.mut4 hb (by omega) (.bool s1) (.slice A1 k1 c1) (.bool false) (.slice none 0 0) rfl rfl;replace X:=ff X (by omega);replace Y:=ff Y (by omega);replace hn:=hn.keep hk;rw[eU0,eW6];clear eU0 eW6;replace cM:=aa X.k2 (aa Y.k2 R.k4);exact bodyPost_ret (v:= .agg #[.bool s1,.slice A1 k1 c1,.bool false,.slice none 0 0]) (by simp[results,Tryz.results122,go_sem,R.k4]) rfl ⟨_,rfl,NQ.of hn (NI.zero _) HP.out.1 hden.out,hb⟩
   ·have q1:(bb'==1)=false:=by simpa using fun h=>hd1 (by have:=hB2.1 h;omega)
    have hden:Hid (aS q=D):=(iS (by have:=HP.out.2;omega)).trans HP.out.2;clear hB2 hd1;go_wp2_with fail;obtain⟨W6,eW6,R,hb,hk,ff⟩:=R.mut4 hb (by omega) (.bool s1) (.slice A1 k1 c1) (.bool s2) (.slice A2 k2 c2) rfl rfl;replace X:=ff X (by omega);replace Y:=ff Y (by omega);replace hn:=hn.keep hk;replace hd:=hd.keep hk;rw[eW6];clear eW6;replace cM:=aa X.k2 (aa Y.k2 R.k4);exact bodyPost_ret (v:= .agg #[.bool s1,.slice A1 k1 c1,.bool s2,.slice A2 k2 c2]) (by simp[results,Tryz.results122,go_sem,R.k4]) rfl ⟨_,rfl,NQ.of hn hd HP.out.1 hden.out,hb⟩
theorem pN (q:Rat) (v:Value) (w:World) (hv:NQ w v q) (lq:nl q.den≤549755813888):Calls Tryz.prog 149 #[v] w (lI w (q.den:Int)):=by
 obtain⟨s,A,k,c,s',A',k',c',rfl⟩:=hv.form;obtain⟨hk,lk⟩:=hv.den.words.len;have hl:nl (aS q).natAbs≤549755813888:=Nat.le_trans (lO q) lq;by_cases h1:q.den=1
 ·have hk0:k'=0:=hk.2 (by rw[dH.2 h1];rfl);have q0:((k':Int)==0)=true:=by rw[hk0];rfl
  have HD:Hid ((q.den:Int)=1):=by unfold Hid;omega
  have hf:∀W,Calls Tryz.prog 146 #[.int .i64 1] W (lI W 1):=fun W=>G4 1 W (by decide);clear hk lk hk0 h1 hl;obtain⟨W,eW,hb,B,R⟩:=j6 w [.bool s,.slice A k c,.bool s',.slice A' k' c'] 96 [.bool false,.slice none 0 0] 94;have cM:=aa B.g4 R.g2;go_enter Tryz.func149,Tryz.ntmps149;go_wp2_with fail;(try rw[eW]);clear eW;refine(hf _).mono ?_;rintro e3 w3 ⟨v3,rfl,h3,hb3⟩;obtain⟨s3,A3,k3,c3,rfl⟩:=h3.form;replace B:=B.below hb3;replace R:=R.below hb3;replace cM:=aa B.k4 R.g2;replace hb:=aB hb hb3;replace h3:NI w3 (.agg #[.bool s3,.slice A3 k3 c3]) (q.den:Int):=by rw[HD.out];exact h3
  go_wp2_with fail;obtain⟨W6,eW6,R,hb,hk,ff⟩:=R.mut2 hb (by omega) (.bool s3) (.slice A3 k3 c3) rfl rfl;replace B:=ff B (by omega);replace h3:=h3.keep hk;rw[eW6];clear eW6;replace cM:=aa B.k4 R.k2;exact bodyPost_ret (v:= .agg #[.bool s3,.slice A3 k3 c3]) (by simp[results,Tryz.results149,go_sem,R.k2]) rfl ⟨_,rfl,h3,hb⟩
 ·have q0:((k':Int)==0)=false:=by
   have:k'≠0:=fun h=>h1 (dH.1 (by have:=hk.1 h;omega));simpa using this
  have hd:=hv.den;rw[iS h1] at hd;have hb:Below w.heap.size w ((w.alloc (.cells #[.bool s,.slice A k c,.bool s',.slice A' k' c'] 96)).alloc (.cells #[.bool s',.slice A' k' c'] 94)):=((Below.refl _ _).alloc (Nat.le_refl _) _).alloc (by simp) _;clear hk lk h1 hl;go_enter Tryz.func149,Tryz.ntmps149;go_wp2_with fail;exact bodyPost_ret (v:= .agg #[.bool s',.slice A' k' c']) (by simp[results,Tryz.results149,go_sem]) rfl ⟨_,rfl,hd.below hb,hb⟩
theorem zA (q:Rat) (v:Value) (w:World) (hv:NQ w v q) (lq:nl q.num.natAbs≤1099511627776):Calls Tryz.prog 102 #[v] w (sS w q.num.sign):=by
 obtain⟨s,A,k,c,s',A',k',c',rfl⟩:=hv.form;obtain⟨W,eW,hb,B⟩:=bA w [.bool s,.slice A k c,.bool s',.slice A' k' c'] 96;have cM:=B.g4;go_enter Tryz.func102,Tryz.ntmps102;go_wp2_with fail;(try rw[eW]);clear eW;refine(G5 _ _ _ (hv.below hb).num lq).mono ?_;rintro e1 w1 ⟨rfl,hb1⟩;go_wp2_with fail;go_ret;exact⟨rfl,aB hb hb1⟩
theorem TV (q:Rat) (v:Value) (w:World) (hv:NQ w v q) (lq:nl q.num.natAbs≤1099511627776):Calls Tryz.prog 167 #[v] w (fR w (-q)):=by
 obtain⟨s,A,k,c,s',A',k',c',rfl⟩:=hv.form;obtain⟨W,eW,hb,B,R⟩:=j6 w [.bool s,.slice A k c,.bool s',.slice A' k' c'] 96 [.bool false,.slice none 0 0,.bool false,.slice none 0 0] 96;have cM:=aa B.g4 R.g4;go_enter Tryz.func167,Tryz.ntmps167;go_wp2_with fail;(try rw[eW]);clear eW;have hn:=(hv.below hb).num;have hd:=(hv.below hb).den;replace hn:=hn.drew;replace hd:=hd.drew;replace B:=B.drew;replace R:=R.drew;replace hb:=hb.drew;replace cM:=aa B.k4 R.g4;have n_R_B:w.heap.size+1≠w.heap.size:=by omega
 go_region_held3 (fun w'=>C4 w' w.heap.size (.bool s) (.slice A k c) (.bool s') (.slice A' k' c'))
  (first|(with_reducible exact B.k4)|((repeat (first|with_reducible exact B.k4|with_reducible refine fP n_R_B ?_))))
  (first
   |(go_at_call 161;(with_reducible refine(yK _ _ _ hn lq).mono ?_);rintro e4 w4 ⟨v4,rfl,h4,hb4⟩;obtain⟨s4,A4,k4,c4,rfl⟩:=h4.form;replace B:=B.below hb4;replace R:=R.below hb4;replace cM:=aa B.k4 R.g4;replace hk:=KM.below hb4;replace hn:=hn.keep hk;replace hd:=hd.keep hk;replace hb:=aB hb hb4))
 all_goals (
  go_wp2_with fail;obtain⟨W6,eW6,R,hb,hk,ff⟩:=R.mut4 hb (by omega) (.bool s4) (.slice A4 k4 c4) (.bool s') (.slice A' k' c') rfl rfl;replace B:=ff B (by omega);replace h4:=h4.keep hk;replace hd:=hd.keep hk;rw[eW6];clear eW6;replace cM:=aa B.k4 R.k4;exact bodyPost_ret (v:= .agg #[.bool s4,.slice A4 k4 c4,.bool s',.slice A' k' c']) (by simp[results,Tryz.results167,go_sem,R.k4]) rfl ⟨_,rfl,NQ.of h4 hd rfl rfl,hb⟩
 )
theorem pM (x:Rat):x=(x.num:Rat)/(x.den:Rat):=by rw[←Rat.mkRat_eq_div,Rat.mkRat_self]
theorem yY (x y:Rat):((x.num*y.num:Int):Rat)/(((x.den:Int)*(y.den:Int):Int):Rat)=x*y:=by
 conv=>rhs;rw[pM x,pM y]
 rw[Rat.intCast_mul,Rat.intCast_mul,Rat.intCast_natCast,Rat.intCast_natCast];grind
theorem NQ.len {w:World} {s s':Bool} {u:Value} {A:Option Addr} {k c:Nat} {q:Rat} (h:NQ w (.agg #[.bool s,u,.bool s',.slice A k c]) q):((k:Int)==0)=decide (q.den=1):=by
 have:=h.den.words.len.1;rw[Int.natAbs_eq_zero,dH] at this;by_cases h1:q.den=1
 ·rw[this.2 h1];simp[h1]
 ·have:k≠0:=fun e=>h1 (this.1 e);simp[h1,this]
theorem yZ (x y:Rat) (vx vy:Value) (w:World) (hx:NQ w vx x) (hy:NQ w vy y) (K:Nat) (kx:RL K x) (ky:RL K y) (hK:2*K≤549755813888):Calls Tryz.prog 104 #[vx,vy] w (fR w (x*y)):=by
 obtain⟨s,A,k,c,s',A',k',c',rfl⟩:=hx.form;obtain⟨t,C,l,d,t',C',l',d',rfl⟩:=hy.form;obtain⟨k1,k2⟩:=kx;obtain⟨k3,k4⟩:=ky;have q1:=hx.len;have q2:=hy.len;by_cases h1:x.den=1∧y.den=1
 ·have r1:((k':Int)==0)=true:=by rw[q1];simpa using h1.1
  have r2:((l':Int)==0)=true:=by rw[q2];simpa using h1.2
  have HZ:Hid ((x*y).num=x.num*y.num∧(x*y).den=1):=by
   have e:x*y=((x.num*y.num:Int):Rat):=by
    rw[←yY x y,h1.1,h1.2];simp;grind
   rw[e];exact⟨rfl,rfl⟩
  clear q1 q2 h1;obtain⟨W,eW,hb,X,Y,R⟩:=dK w [.bool s,.slice A k c,.bool s',.slice A' k' c'] 96 [.bool t,.slice C l d,.bool t',.slice C' l' d'] 96 [.bool false,.slice none 0 0,.bool false,.slice none 0 0] 96;have cM:=aa X.g4 (aa Y.g4 R.g4);go_enter Tryz.func104,Tryz.ntmps104;go_wp2_with fail;(try rw[eW]);clear eW;refine(nA x.num y.num _ _ _ (hx.below hb).num (hy.below hb).num (by omega) (by omega)).mono ?_;rintro e1 w1 ⟨v1,rfl,h1,hb1⟩;obtain⟨s1,A1,k1,c1,rfl⟩:=h1.form;replace X:=X.below hb1;replace Y:=Y.below hb1;replace R:=R.below hb1;replace cM:=aa X.k4 (aa Y.k4 R.g4);replace hb:=aB hb hb1;go_wp2_with fail;obtain⟨W6,eW6,R,hb,hk,ff⟩:=R.mut4 hb (by omega) (.bool s1) (.slice A1 k1 c1) (.bool false) (.slice none 0 0) rfl rfl;replace X:=ff X (by omega);replace Y:=ff Y (by omega);replace h1:=h1.keep hk;rw[eW6];clear eW6;replace cM:=aa X.k4 (aa Y.k4 R.k4);exact bodyPost_ret (v:= .agg #[.bool s1,.slice A1 k1 c1,.bool false,.slice none 0 0]) (by simp[results,Tryz.results104,go_sem,R.k4]) rfl ⟨_,rfl,NQ.of h1 (NI.zero _) HZ.out.1 (dH.2 HZ.out.2),hb⟩
 ·have HZ:=Lib.hid (yY x y);have lm:=cJ x.num.natAbs y.num.natAbs;have ld:=cJ x.den y.den;have hd0:(x.den:Int)*(y.den:Int)≠0:=Int.mul_ne_zero (by have:=x.den_nz;omega) (by have:=y.den_nz;omega);have e1:nl (x.num*y.num).natAbs≤549755813888:=by rw[Int.natAbs_mul];omega
  have e2:nl ((x.den:Int)*(y.den:Int)).natAbs≤549755813888:=by rw[Int.natAbs_mul];exact Nat.le_trans ld (by omega)
  have hor:((k':Int)==0)=false∨((k':Int)==0)=true∧((l':Int)==0)=false:=by
   rw[q1,q2];by_cases h2:x.den=1
   ·exact .inr ⟨by simpa using h2,by simpa using fun h=>h1 ⟨h2,h⟩⟩
   ·exact .inl (by simpa using h2)
  have hfr:=fun W u v h h'=>uM (x.num*y.num) ((x.den:Int)*(y.den:Int)) u v W h h' hd0 e1 e2;rw[HZ.out] at hfr;have hm1:=fun W u v h h'=>nA x.num y.num u v W h h' (by omega) (by omega);have hm2:=fun W u v h h'=>nA (x.den:Int) (y.den:Int) u v W h h' (by rw[Int.natAbs_natCast];omega) (by rw[Int.natAbs_natCast];omega);have hdx:=fun W h=>pN x (.agg #[.bool s,.slice A k c,.bool s',.slice A' k' c']) W h (by omega);have hdy:=fun W h=>pN y (.agg #[.bool t,.slice C l d,.bool t',.slice C' l' d']) W h (by omega);clear q1 q2 h1 HZ lm ld hd0 e1 e2;rcases hor with r1|⟨r1,r2⟩
  all_goals (
   obtain⟨W,eW,hb,X,Y,R⟩:=dK w [.bool s,.slice A k c,.bool s',.slice A' k' c'] 96 [.bool t,.slice C l d,.bool t',.slice C' l' d'] 96 [.bool false,.slice none 0 0,.bool false,.slice none 0 0] 96;have cM:=aa X.g4 (aa Y.g4 R.g4);go_enter Tryz.func104,Tryz.ntmps104;go_wp2_with fail;(try rw[eW]);clear eW;replace hx:=hx.below hb;replace hy:=hy.below hb;replace hx:=hx.drew;replace hy:=hy.drew;replace X:=X.drew;replace Y:=Y.drew;replace R:=R.drew;replace hb:=hb.drew;replace cM:=aa X.k4 (aa Y.k4 R.g4);have n_R_X:w.heap.size+1+1≠w.heap.size:=by omega
   have n_R_Y:w.heap.size+1+1≠w.heap.size+1:=by omega
   go_region_held3 (fun w'=>C4 w' w.heap.size (.bool s) (.slice A k c) (.bool s') (.slice A' k' c')∧C4 w' (w.heap.size+1) (.bool t) (.slice C l d) (.bool t') (.slice C' l' d'))
    (first|(with_reducible exact⟨X.k4,Y.k4⟩)|(refine⟨?_,?_⟩<;>(repeat (first|with_reducible exact X.k4|with_reducible exact Y.k4|with_reducible refine fP n_R_X ?_|with_reducible refine fP n_R_Y ?_))))
    (first
     |(go_at_call 148;(with_reducible refine(hm1 _ _ _ hx.num hy.num).mono ?_);rintro e1 w1 ⟨v1,rfl,h1,hb1⟩;obtain⟨s1,A1,k1,c1,rfl⟩:=h1.form;replace X:=X.below hb1;replace Y:=Y.below hb1;replace R:=R.below hb1;replace cM:=aa X.k4 (aa Y.k4 R.g4);replace hk:=KM.below hb1;replace hx:=hx.keep hk;replace hy:=hy.keep hk;(try replace h2:=h2.keep hk);(try replace h3:=h3.keep hk);(try replace h4:=h4.keep hk);(try replace h5:=h5.keep hk);replace hb:=aB hb hb1)
     |(go_at_call 149;(with_reducible refine(hdx _ hx).mono ?_);rintro e2 w2 ⟨v2,rfl,h2,hb2⟩;obtain⟨s2,A2,k2,c2,rfl⟩:=h2.form;replace X:=X.below hb2;replace Y:=Y.below hb2;replace R:=R.below hb2;replace cM:=aa X.k4 (aa Y.k4 R.g4);replace hk:=KM.below hb2;replace hx:=hx.keep hk;replace hy:=hy.keep hk;(try replace h1:=h1.keep hk);(try replace h3:=h3.keep hk);(try replace h4:=h4.keep hk);(try replace h5:=h5.keep hk);replace hb:=aB hb hb2)
     |(go_at_call 149;(with_reducible refine(hdy _ hy).mono ?_);rintro e3 w3 ⟨v3,rfl,h3,hb3⟩;obtain⟨s3,A3,k3,c3,rfl⟩:=h3.form;replace X:=X.below hb3;replace Y:=Y.below hb3;replace R:=R.below hb3;replace cM:=aa X.k4 (aa Y.k4 R.g4);replace hk:=KM.below hb3;replace hx:=hx.keep hk;replace hy:=hy.keep hk;(try replace h1:=h1.keep hk);(try replace h2:=h2.keep hk);(try replace h4:=h4.keep hk);(try replace h5:=h5.keep hk);replace hb:=aB hb hb3)
     |(go_at_call 148;(with_reducible refine(hm2 _ _ _ h2 h3).mono ?_);rintro e4 w4 ⟨v4,rfl,h4,hb4⟩;obtain⟨s4,A4,k4,c4,rfl⟩:=h4.form;replace X:=X.below hb4;replace Y:=Y.below hb4;replace R:=R.below hb4;replace cM:=aa X.k4 (aa Y.k4 R.g4);replace hk:=KM.below hb4;replace hx:=hx.keep hk;replace hy:=hy.keep hk;(try replace h1:=h1.keep hk);(try replace h2:=h2.keep hk);(try replace h3:=h3.keep hk);(try replace h5:=h5.keep hk);replace hb:=aB hb hb4)
     |(go_at_call 122;(with_reducible refine(hfr _ _ _ h1 h4).mono ?_);rintro e5 w5 ⟨v5,rfl,h5,hb5⟩;obtain⟨s5,A5,k5,c5,s6,A6,k6,c6,rfl⟩:=h5.form;replace X:=X.below hb5;replace Y:=Y.below hb5;replace R:=R.below hb5;replace cM:=aa X.k4 (aa Y.k4 R.g4);replace hk:=KM.below hb5;replace hx:=hx.keep hk;replace hy:=hy.keep hk;(try replace h1:=h1.keep hk);(try replace h2:=h2.keep hk);(try replace h3:=h3.keep hk);(try replace h4:=h4.keep hk);replace hb:=aB hb hb5))
   all_goals (
    go_wp2_with fail;obtain⟨W6,eW6,R,hb,hk,ff⟩:=R.mut4 hb (by omega) (.bool s5) (.slice A5 k5 c5) (.bool s6) (.slice A6 k6 c6) rfl rfl;replace X:=ff X (by omega);replace Y:=ff Y (by omega);replace h5:=h5.keep hk;rw[eW6];clear eW6;replace cM:=aa X.k4 (aa Y.k4 R.k4);exact bodyPost_ret (v:= .agg #[.bool s5,.slice A5 k5 c5,.bool s6,.slice A6 k6 c6]) (by simp[results,Tryz.results104,go_sem,R.k4]) rfl ⟨_,rfl,h5,hb⟩;))
theorem GR (x y:Rat) (h:y≠0):((x.num*(y.den:Int):Int):Rat)/(((x.den:Int)*y.num:Int):Rat)=x/y:=by
 have hy:(y.num:Rat)≠0:=fun e=>h (Rat.num_eq_zero.1 (Rat.intCast_inj.1 e));have hd:(y.den:Rat)≠0:=fun e=>y.den_nz (by have:=Rat.intCast_inj.1 (show((y.den:Int):Rat)=((0:Int):Rat) from e);omega);have hx:(x.den:Rat)≠0:=fun e=>x.den_nz (by have:=Rat.intCast_inj.1 (show((x.den:Int):Rat)=((0:Int):Rat) from e);omega);conv=>rhs;rw[pM x,pM y]
 rw[Rat.intCast_mul,Rat.intCast_mul,Rat.intCast_natCast,Rat.intCast_natCast];grind
theorem uL (x y:Rat) (vx vy:Value) (w:World) (hx:NQ w vx x) (hy:NQ w vy y) (K:Nat) (kx:RL K x) (ky:RL K y) (hK:2*K≤549755813888) (h0:y≠0):Calls Tryz.prog 128 #[vx,vy] w (fR w (x/y)):=by
 obtain⟨s,A,k,c,s',A',k',c',rfl⟩:=hx.form;obtain⟨t,C,l,d,t',C',l',d',rfl⟩:=hy.form;obtain⟨k1,k2⟩:=kx;obtain⟨k3,k4⟩:=ky;have HZ:=Lib.hid (GR x y h0);have lm:=cJ x.num.natAbs y.den;have ld:=cJ x.den y.num.natAbs;have hy0:y.num≠0:=fun e=>h0 (Rat.num_eq_zero.1 e);have hd0:(x.den:Int)*y.num≠0:=Int.mul_ne_zero (by have:=x.den_nz;omega) hy0;have e1:nl (x.num*(y.den:Int)).natAbs≤549755813888:=by rw[Int.natAbs_mul,Int.natAbs_natCast];omega
 have e2:nl ((x.den:Int)*y.num).natAbs≤549755813888:=by rw[Int.natAbs_mul,Int.natAbs_natCast];omega
 have hfr:=fun W u v h h'=>uM (x.num*(y.den:Int)) ((x.den:Int)*y.num) u v W h h' hd0 e1 e2;rw[HZ.out] at hfr;have hm1:=fun W u v h h'=>nA x.num (y.den:Int) u v W h h' (by omega) (by rw[Int.natAbs_natCast];omega);have hm2:=fun W u v h h'=>nA (x.den:Int) y.num u v W h h' (by rw[Int.natAbs_natCast];omega) (by omega);have hdx:=fun W h=>pN x (.agg #[.bool s,.slice A k c,.bool s',.slice A' k' c']) W h (by omega);have hdy:=fun W h=>pN y (.agg #[.bool t,.slice C l d,.bool t',.slice C' l' d']) W h (by omega);have hsg:=fun W h=>zA y (.agg #[.bool t,.slice C l d,.bool t',.slice C' l' d']) W h (by omega);have q0:(y.num.sign==0)=false:=by rw[beq_eq_false_iff_ne];exact fun e=>hy0 (Int.sign_eq_zero_iff_zero.1 e)
 generalize y.num.sign=sg at *;clear HZ lm ld hd0 e1 e2 hy0 h0;obtain⟨W,eW,hb,X,Y,R⟩:=dK w [.bool s,.slice A k c,.bool s',.slice A' k' c'] 96 [.bool t,.slice C l d,.bool t',.slice C' l' d'] 96 [.bool false,.slice none 0 0,.bool false,.slice none 0 0] 96;have cM:=aa X.g4 (aa Y.g4 R.g4);go_enter Tryz.func128,Tryz.ntmps128;go_wp2_with fail;(try rw[eW]);clear eW;replace hx:=hx.below hb;replace hy:=hy.below hb;refine(hsg _ hy).mono ?_;rintro e0 w0 ⟨rfl,hb0⟩;replace X:=X.below hb0;replace Y:=Y.below hb0;replace R:=R.below hb0;replace cM:=aa X.k4 (aa Y.k4 R.g4);replace hk:=KM.below hb0;replace hx:=hx.keep hk;replace hy:=hy.keep hk;replace hb:=aB hb hb0;go_wp2_with fail;replace hx:=hx.drew;replace hy:=hy.drew;replace X:=X.drew;replace Y:=Y.drew;replace R:=R.drew;replace hb:=hb.drew;replace cM:=aa X.k4 (aa Y.k4 R.g4);have n_R_X:w.heap.size+1+1≠w.heap.size:=by omega
 have n_R_Y:w.heap.size+1+1≠w.heap.size+1:=by omega
 go_region_held3 (fun w'=>C4 w' w.heap.size (.bool s) (.slice A k c) (.bool s') (.slice A' k' c')∧C4 w' (w.heap.size+1) (.bool t) (.slice C l d) (.bool t') (.slice C' l' d'))
  (first|(with_reducible exact⟨X.k4,Y.k4⟩)|(refine⟨?_,?_⟩<;>(repeat (first|with_reducible exact X.k4|with_reducible exact Y.k4|with_reducible refine fP n_R_X ?_|with_reducible refine fP n_R_Y ?_))))
  (first
   |(go_at_call 148;(with_reducible refine(hm1 _ _ _ hx.num h3).mono ?_);rintro e1 w1 ⟨v1,rfl,h1,hb1⟩;obtain⟨s1,A1,k1,c1,rfl⟩:=h1.form;replace X:=X.below hb1;replace Y:=Y.below hb1;replace R:=R.below hb1;replace cM:=aa X.k4 (aa Y.k4 R.g4);replace hk:=KM.below hb1;replace hx:=hx.keep hk;replace hy:=hy.keep hk;(try replace h2:=h2.keep hk);(try replace h3:=h3.keep hk);(try replace h4:=h4.keep hk);(try replace h5:=h5.keep hk);replace hb:=aB hb hb1)
   |(go_at_call 149;(with_reducible refine(hdx _ hx).mono ?_);rintro e2 w2 ⟨v2,rfl,h2,hb2⟩;obtain⟨s2,A2,k2,c2,rfl⟩:=h2.form;replace X:=X.below hb2;replace Y:=Y.below hb2;replace R:=R.below hb2;replace cM:=aa X.k4 (aa Y.k4 R.g4);replace hk:=KM.below hb2;replace hx:=hx.keep hk;replace hy:=hy.keep hk;(try replace h1:=h1.keep hk);(try replace h3:=h3.keep hk);(try replace h4:=h4.keep hk);(try replace h5:=h5.keep hk);replace hb:=aB hb hb2)
   |(go_at_call 149;(with_reducible refine(hdy _ hy).mono ?_);rintro e3 w3 ⟨v3,rfl,h3,hb3⟩;obtain⟨s3,A3,k3,c3,rfl⟩:=h3.form;replace X:=X.below hb3;replace Y:=Y.below hb3;replace R:=R.below hb3;replace cM:=aa X.k4 (aa Y.k4 R.g4);replace hk:=KM.below hb3;replace hx:=hx.keep hk;replace hy:=hy.keep hk;(try replace h1:=h1.keep hk);(try replace h2:=h2.keep hk);(try replace h4:=h4.keep hk);(try replace h5:=h5.keep hk);replace hb:=aB hb hb3)
   |(go_at_call 148;(with_reducible refine(hm2 _ _ _ h2 hy.num).mono ?_);rintro e4 w4 ⟨v4,rfl,h4,hb4⟩;obtain⟨s4,A4,k4,c4,rfl⟩:=h4.form;replace X:=X.below hb4;replace Y:=Y.below hb4;replace R:=R.below hb4;replace cM:=aa X.k4 (aa Y.k4 R.g4);replace hk:=KM.below hb4;replace hx:=hx.keep hk;replace hy:=hy.keep hk;(try replace h1:=h1.keep hk);(try replace h2:=h2.keep hk);(try replace h3:=h3.keep hk);(try replace h5:=h5.keep hk);replace hb:=aB hb hb4)
   |(go_at_call 122;(with_reducible refine(hfr _ _ _ h1 h4).mono ?_);rintro e5 w5 ⟨v5,rfl,h5,hb5⟩;obtain⟨s5,A5,k5,c5,s6,A6,k6,c6,rfl⟩:=h5.form;replace X:=X.below hb5;replace Y:=Y.below hb5;replace R:=R.below hb5;replace cM:=aa X.k4 (aa Y.k4 R.g4);replace hk:=KM.below hb5;replace hx:=hx.keep hk;replace hy:=hy.keep hk;(try replace h1:=h1.keep hk);(try replace h2:=h2.keep hk);(try replace h3:=h3.keep hk);(try replace h4:=h4.keep hk);replace hb:=aB hb hb5))
 all_goals (
  go_wp2_with fail;obtain⟨W6,eW6,R,hb,hk,ff⟩:=R.mut4 hb (by omega) (.bool s5) (.slice A5 k5 c5) (.bool s6) (.slice A6 k6 c6) rfl rfl;replace X:=ff X (by omega);replace Y:=ff Y (by omega);replace h5:=h5.keep hk;rw[eW6];clear eW6;replace cM:=aa X.k4 (aa Y.k4 R.k4);exact bodyPost_ret (v:= .agg #[.bool s5,.slice A5 k5 c5,.bool s6,.slice A6 k6 c6]) (by simp[results,Tryz.results128,go_sem,R.k4]) rfl ⟨_,rfl,h5,hb⟩;)
end Go.Proofs.YtlojjipfnejbnaaGreatDoor
