/-
  Contracts of functions that the statement reaches, and plain laws: NumJ.
-/
import Derived.Test.YtlojjipfnejbnaaGreatDoorS29
import Derived.Test.YtlojjipfnejbnaaGreatDoorS34
import Derived.Test.YtlojjipfnejbnaaGreatDoorS35
set_option linter.unusedVariables false
set_option linter.unusedSimpArgs false
set_option maxHeartbeats 8000000
set_option maxRecDepth 100000
namespace Go.Proofs.YtlojjipfnejbnaaGreatDoor
open Go.RowKit Sos
section
variable {a b:World} [u:Up a b]
theorem NI.up {v:Value} {n:Int} (h:NI a v n):NI b v n:=h.below u.out
theorem NQ.up {v:Value} {n:Rat} (h:NQ a v n):NQ b v n:=h.below u.out
end
theorem GT (x y:Rat):((x.num*(y.den:Int)+y.num*(x.den:Int):Int):Rat)/(((x.den:Int)*(y.den:Int):Int):Rat)=x+y:=by
 have hd:(y.den:Rat)≠0:=fun e=>y.den_nz (by have:=Rat.intCast_inj.1 (show((y.den:Int):Rat)=((0:Int):Rat) from e);omega);have hx:(x.den:Rat)≠0:=fun e=>x.den_nz (by have:=Rat.intCast_inj.1 (show((x.den:Int):Rat)=((0:Int):Rat) from e);omega);conv=>rhs;rw[pM x,pM y]
 rw[Rat.intCast_add,Rat.intCast_mul,Rat.intCast_mul,Rat.intCast_mul,Rat.intCast_natCast,Rat.intCast_natCast];grind
theorem zE (x y:Rat) (vx vy:Value) (w:World) (hx:NQ w vx x) (hy:NQ w vy y) (K:Nat) (kx:RL K x) (ky:RL K y) (hK:2*K+1≤549755813888):Calls Tryz.prog 124 #[vx,vy] w (fR w (x+y)):=by
 obtain⟨s,A,k,c,s',A',k',c',rfl⟩:=hx.form;obtain⟨t,C,l,d,t',C',l',d',rfl⟩:=hy.form;obtain⟨k1,k2⟩:=kx;obtain⟨k3,k4⟩:=ky;have q1:=hx.len;have q2:=hy.len;by_cases h1:x.den=1∧y.den=1
 ·have r1:((k':Int)==0)=true:=by rw[q1];simpa using h1.1
  have r2:((l':Int)==0)=true:=by rw[q2];simpa using h1.2
  have HZ:Hid ((x+y).num=x.num+y.num∧(x+y).den=1):=by
   obtain⟨e1,e2⟩:=zI (y:=y) h1.1;rw[h1.2] at e1 e2;exact⟨by rw[e1];simp,e2⟩
  clear q1 q2 h1;obtain⟨W,eW,hb,X,Y,R⟩:=dK w [.bool s,.slice A k c,.bool s',.slice A' k' c'] 96 [.bool t,.slice C l d,.bool t',.slice C' l' d'] 96 [.bool false,.slice none 0 0,.bool false,.slice none 0 0] 96;have cM:=aa X.g4 (aa Y.g4 R.g4);go_enter Tryz.func124,Tryz.ntmps124;go_wp2_with fail;(try rw[eW]);clear eW;refine(G6 x.num y.num _ _ _ (hx.below hb).num (hy.below hb).num (by omega) (by omega)).mono ?_;rintro e1 w1 ⟨v1,rfl,h1,hb1⟩;obtain⟨s1,A1,k1,c1,rfl⟩:=h1.form;replace X:=X.below hb1;replace Y:=Y.below hb1;replace R:=R.below hb1;replace cM:=aa X.k4 (aa Y.k4 R.g4);replace hb:=aB hb hb1;go_wp2_with fail;obtain⟨W6,eW6,R,hb,hk,ff⟩:=R.mut4 hb (by omega) (.bool s1) (.slice A1 k1 c1) (.bool false) (.slice none 0 0) rfl rfl;replace X:=ff X (by omega);replace Y:=ff Y (by omega);replace h1:=h1.keep hk;rw[eW6];clear eW6;replace cM:=aa X.k4 (aa Y.k4 R.k4);exact bodyPost_ret (v:= .agg #[.bool s1,.slice A1 k1 c1,.bool false,.slice none 0 0]) (by simp[results,Tryz.results124,go_sem,R.k4]) rfl ⟨_,rfl,NQ.of h1 (NI.zero _) HZ.out.1 (dH.2 HZ.out.2),hb⟩
 ·have hor:((k':Int)==0)=false∨((k':Int)==0)=true∧((l':Int)==0)=false:=by
   rw[q1,q2];by_cases h2:x.den=1
   ·exact .inr ⟨by simpa using h2,by simpa using fun h=>h1 ⟨h2,h⟩⟩
   ·exact .inl (by simpa using h2)
  have l1:nl (x.num*(y.den:Int)).natAbs≤2*K:=by rw[Int.natAbs_mul,Int.natAbs_natCast];have:=cJ x.num.natAbs y.den;omega
  have l2:nl (y.num*(x.den:Int)).natAbs≤2*K:=by rw[Int.natAbs_mul,Int.natAbs_natCast];have:=cJ y.num.natAbs x.den;omega
  have l3:nl ((x.den:Int)*(y.den:Int)).natAbs≤549755813888:=by rw[Int.natAbs_mul,Int.natAbs_natCast,Int.natAbs_natCast];have:=cJ x.den y.den;omega
  have l4:nl (x.num*(y.den:Int)+y.num*(x.den:Int)).natAbs≤549755813888:=by
   have h1:nl (x.num*(y.den:Int)+y.num*(x.den:Int)).natAbs≤nl ((x.num*(y.den:Int)).natAbs+(y.num*(x.den:Int)).natAbs):=aX (by omega);have:=oL (x.num*(y.den:Int)).natAbs (y.num*(x.den:Int)).natAbs;omega
  have hd0:(x.den:Int)*(y.den:Int)≠0:=Int.mul_ne_zero (by have:=x.den_nz;omega) (by have:=y.den_nz;omega);have hfr:=fun W u v h h'=>uM (x.num*(y.den:Int)+y.num*(x.den:Int)) ((x.den:Int)*(y.den:Int)) u v W h h' hd0 l4 l3;rw[GT] at hfr;have hmA:=fun W v h h'=>nA x.num (y.den:Int) (.agg #[.bool s,.slice A k c]) v W h h' (by omega) (by rw[Int.natAbs_natCast];omega);have hmB:=fun W v h h'=>nA y.num (x.den:Int) (.agg #[.bool t,.slice C l d]) v W h h' (by omega) (by rw[Int.natAbs_natCast];omega);have hmC:=fun W u v h h'=>nA (x.den:Int) (y.den:Int) u v W h h' (by rw[Int.natAbs_natCast];omega) (by rw[Int.natAbs_natCast];omega);have had:=fun W u v h h'=>G6 (x.num*(y.den:Int)) (y.num*(x.den:Int)) u v W h h' (by omega) (by omega);have hdx:=fun W h=>pN x (.agg #[.bool s,.slice A k c,.bool s',.slice A' k' c']) W h (by omega);have hdy:=fun W h=>pN y (.agg #[.bool t,.slice C l d,.bool t',.slice C' l' d']) W h (by omega);clear q1 q2 h1 l1 l2 l3 l4 hd0;generalize x.num*(y.den:Int)+y.num*(x.den:Int)=N at *;generalize (x.den:Int)*(y.den:Int)=D at *;generalize x.num*(y.den:Int)=xn at *;generalize y.num*(x.den:Int)=yn at *;rcases hor with r1|⟨r1,r2⟩
  all_goals (
   obtain⟨W,eW,hb,X,Y,R⟩:=dK w [.bool s,.slice A k c,.bool s',.slice A' k' c'] 96 [.bool t,.slice C l d,.bool t',.slice C' l' d'] 96 [.bool false,.slice none 0 0,.bool false,.slice none 0 0] 96;have cM:=aa X.g4 (aa Y.g4 R.g4);go_enter Tryz.func124,Tryz.ntmps124;go_wp2_with fail;(try rw[eW]);clear eW;replace hx:=hx.below hb;replace hy:=hy.below hb;have n1:w.heap.size+1+1≠w.heap.size:=by omega
   have n2:w.heap.size+1+1≠w.heap.size+1:=by omega
   go_region_held3 (fun w'=>C4 w' w.heap.size (.bool s) (.slice A k c) (.bool s') (.slice A' k' c')∧C4 w' (w.heap.size+1) (.bool t) (.slice C l d) (.bool t') (.slice C' l' d'))
    (first|(with_reducible exact⟨X.up.k4,Y.up.k4⟩)|(refine⟨?_,?_⟩<;>(repeat (first|with_reducible exact X.up.k4|with_reducible exact Y.up.k4|with_reducible refine fP n1 ?_|with_reducible refine fP n2 ?_))))
    (first
     |(go_at_call 149;(with_reducible refine(hdx _ hx.up).mono ?_);rintro e1 w1 ⟨v1,rfl,h1,hb1⟩;obtain⟨s1,A1,k1,c1,rfl⟩:=h1.form;have:=St.mk hb1)
     |(go_at_call 149;(with_reducible refine(hdy _ hy.up).mono ?_);rintro e1 w1 ⟨v1,rfl,h1,hb1⟩;obtain⟨s1,A1,k1,c1,rfl⟩:=h1.form;have:=St.mk hb1)
     |(go_at_call 148;(with_reducible refine(hmA _ _ hx.num.up (NI.up (by assumption))).mono ?_);rintro e1 w1 ⟨v1,rfl,h1,hb1⟩;obtain⟨s1,A1,k1,c1,rfl⟩:=h1.form;have:=St.mk hb1)
     |(go_at_call 148;(with_reducible refine(hmB _ _ hy.num.up (NI.up (by assumption))).mono ?_);rintro e1 w1 ⟨v1,rfl,h1,hb1⟩;obtain⟨s1,A1,k1,c1,rfl⟩:=h1.form;have:=St.mk hb1)
     |(go_at_call 148;(with_reducible refine(hmC _ _ _ (NI.up (by assumption)) (NI.up (by assumption))).mono ?_);rintro e1 w1 ⟨v1,rfl,h1,hb1⟩;obtain⟨s1,A1,k1,c1,rfl⟩:=h1.form;have:=St.mk hb1)
     |(go_at_call 166;(with_reducible refine(had _ _ _ (NI.up (by assumption)) (NI.up (by assumption))).mono ?_);rintro e1 w1 ⟨v1,rfl,h1,hb1⟩;obtain⟨s1,A1,k1,c1,rfl⟩:=h1.form;have:=St.mk hb1)
     |(go_at_call 122;(with_reducible refine(hfr _ _ _ (NI.up (by assumption)) (NI.up (by assumption))).mono ?_);rintro e5 w5 ⟨v5,rfl,h5,hb5⟩;obtain⟨s5,A5,k5,c5,s6,A6,k6,c6,rfl⟩:=h5.form;have:=St.mk hb5;have U5:=R.up (b:=w5);have hb5':=mL (b:=w5) hb;have cR:=U5.g4))
   all_goals (
    go_wp2_with fail;obtain⟨W6,e6,U6,hb6,hk6,ff⟩:=U5.mut4 hb5' (by omega) (.bool s5) (.slice A5 k5 c5) (.bool s6) (.slice A6 k6 c6) rfl rfl;rw[e6];clear e6;exact bodyPost_ret (v:= .agg #[.bool s5,.slice A5 k5 c5,.bool s6,.slice A6 k6 c6]) (by simp[results,Tryz.results124,go_sem,U6.k4]) rfl ⟨_,rfl,h5.keep hk6,hb6⟩))
theorem U7 (x y:Rat) (vx vy:Value) (w:World) (hx:NQ w vx x) (hy:NQ w vy y) (K:Nat) (kx:RL K x) (ky:RL K y) (hK:2*K+1≤549755813888):Calls Tryz.prog 131 #[vx,vy] w (fR w (x-y)):=by
 obtain⟨s,A,k,c,s',A',k',c',rfl⟩:=hx.form;obtain⟨t,C,l,d,t',C',l',d',rfl⟩:=hy.form;have k5:RL K (-y):=⟨by rw[show(-y).num= -y.num from rfl,Int.natAbs_neg];exact ky.1,ky.2⟩;have hng:=fun W h=>TV y (.agg #[.bool t,.slice C l d,.bool t',.slice C' l' d']) W h (Nat.le_trans ky.1 (by omega));have had:=fun W v h h'=>zE x (-y) (.agg #[.bool s,.slice A k c,.bool s',.slice A' k' c']) v W h h' K kx k5 hK;rw[←Rat.sub_eq_add_neg] at had;clear kx ky k5;obtain⟨W,eW,hb,X,Y,R⟩:=dK w [.bool s,.slice A k c,.bool s',.slice A' k' c'] 96 [.bool t,.slice C l d,.bool t',.slice C' l' d'] 96 [.bool false,.slice none 0 0,.bool false,.slice none 0 0] 96;have cM:=aa X.g4 (aa Y.g4 R.g4);go_enter Tryz.func131,Tryz.ntmps131;go_wp2_with fail;(try rw[eW]);clear eW;replace hx:=hx.below hb;replace hy:=hy.below hb;replace hx:=hx.drew;replace hy:=hy.drew;replace X:=X.drew;replace Y:=Y.drew;replace R:=R.drew;replace hb:=hb.drew;replace cM:=aa X.k4 (aa Y.k4 R.g4);have n_R_X:w.heap.size+1+1≠w.heap.size:=by omega
 have n_R_Y:w.heap.size+1+1≠w.heap.size+1:=by omega
 go_region_held3 (fun w'=>C4 w' w.heap.size (.bool s) (.slice A k c) (.bool s') (.slice A' k' c')∧C4 w' (w.heap.size+1) (.bool t) (.slice C l d) (.bool t') (.slice C' l' d'))
  (first|(with_reducible exact⟨X.k4,Y.k4⟩)|(refine⟨?_,?_⟩<;>(repeat (first|with_reducible exact X.k4|with_reducible exact Y.k4|with_reducible refine fP n_R_X ?_|with_reducible refine fP n_R_Y ?_))))
  (first
   |(go_at_call 167;(with_reducible refine(hng _ hy).mono ?_);rintro e1 w1 ⟨v1,rfl,h1,hb1⟩;obtain⟨s1,A1,k1,c1,s2,A2,k2,c2,rfl⟩:=h1.form;replace X:=X.below hb1;replace Y:=Y.below hb1;replace R:=R.below hb1;replace cM:=aa X.k4 (aa Y.k4 R.g4);replace hk:=KM.below hb1;replace hx:=hx.keep hk;replace hy:=hy.keep hk;(try replace h5:=h5.keep hk);replace hb:=aB hb hb1)
   |(go_at_call 124;(with_reducible refine(had _ _ hx h1).mono ?_);rintro e5 w5 ⟨v5,rfl,h5,hb5⟩;obtain⟨s5,A5,k5,c5,s6,A6,k6,c6,rfl⟩:=h5.form;replace X:=X.below hb5;replace Y:=Y.below hb5;replace R:=R.below hb5;replace cM:=aa X.k4 (aa Y.k4 R.g4);replace hk:=KM.below hb5;replace hx:=hx.keep hk;replace hy:=hy.keep hk;(try replace h1:=h1.keep hk);replace hb:=aB hb hb5))
 all_goals (
  go_wp2_with fail;obtain⟨W6,eW6,R,hb,hk,ff⟩:=R.mut4 hb (by omega) (.bool s5) (.slice A5 k5 c5) (.bool s6) (.slice A6 k6 c6) rfl rfl;replace X:=ff X (by omega);replace Y:=ff Y (by omega);replace h5:=h5.keep hk;rw[eW6];clear eW6;replace cM:=aa X.k4 (aa Y.k4 R.k4);exact bodyPost_ret (v:= .agg #[.bool s5,.slice A5 k5 c5,.bool s6,.slice A6 k6 c6]) (by simp[results,Tryz.results131,go_sem,R.k4]) rfl ⟨_,rfl,h5,hb⟩;)
theorem GU (n:Nat) (w:World) (hn:n≤1000000):Calls Tryz.prog 99 #[.int .i64 (n:Int)] w (fR w (n:Rat)):=by
 have HZ:Hid (((n:Nat):Rat).num=n∧aS ((n:Nat):Rat)=0):=⟨rfl,dH.2 rfl⟩;have hf:=fun W=>G4 n W hn;obtain⟨W,eW,hb,R⟩:=bA w [.bool false,.slice none 0 0,.bool false,.slice none 0 0] 96;have cM:=R.g4;go_enter Tryz.func99,Tryz.ntmps99;go_wp2_with fail;(try rw[eW]);clear eW;refine(hf _).mono ?_;rintro e1 w1 ⟨v1,rfl,h1,hb1⟩;obtain⟨s1,A1,k1,c1,rfl⟩:=h1.form;replace R:=R.below hb1;replace cM:=R.g4;replace hb:=aB hb hb1;go_wp2_with fail;obtain⟨W6,eW6,R,hb,hk,ff⟩:=R.mut4 hb (by omega) (.bool s1) (.slice A1 k1 c1) (.bool false) (.slice none 0 0) rfl rfl;replace h1:=h1.keep hk;rw[eW6];clear eW6;replace cM:=R.k4;exact bodyPost_ret (v:= .agg #[.bool s1,.slice A1 k1 c1,.bool false,.slice none 0 0]) (by simp[results,Tryz.results99,go_sem,R.k4]) rfl ⟨_,rfl,NQ.of h1 (NI.zero _) HZ.out.1 HZ.out.2,hb⟩
end Go.Proofs.YtlojjipfnejbnaaGreatDoor
