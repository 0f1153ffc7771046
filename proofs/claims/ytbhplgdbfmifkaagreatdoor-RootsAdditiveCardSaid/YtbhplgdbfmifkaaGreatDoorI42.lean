/-
  Contracts of functions that the statement reaches, and plain laws: AwkR, AwkA, RooJ, CmpR, RooK.
-/
import Derived.Test.YtbhplgdbfmifkaaGreatDoorI31
import Derived.Test.YtbhplgdbfmifkaaGreatDoorI32
import Derived.Test.YtbhplgdbfmifkaaGreatDoorI39
import Derived.Test.YtbhplgdbfmifkaaGreatDoorI41
set_option linter.unusedVariables false
set_option linter.unusedSimpArgs false
set_option maxHeartbeats 8000000
set_option maxRecDepth 100000
namespace Go.Proofs.YtbhplgdbfmifkaaGreatDoor
open Go.RowKit Sos
theorem StrsAt.built (w:World) (ls:List (List UInt8)) (t:TypeId):StrsAt (w.alloc (.cells (ls.map (fun l=>Value.string ⟨l.toArray⟩)).toArray t)) (.slice (some ⟨w.heap.size,0,none⟩) ls.length ls.length) ls:=by
 refine⟨_,_,rfl,Nat.le_refl _,.inr ⟨w.heap.size,0,rfl,by simp,fun i l hi=> ?_⟩⟩;have B:=Bx.new w (ls.map (fun l=>Value.string ⟨l.toArray⟩)) t;rw[Nat.zero_add];exact B.cell i (by rw[List.getElem?_map,hi];rfl)
theorem K2 (ls:List (List UInt8)) (v:Value) (w:World) (hv:StrsAt w v ls) (hll:∀l∈ls,l.length≤9223372036854775807):
  Calls Tryz.prog 5 #[v] w fun e w'=>e= .returned (.bool (decide (ls.length≤7)&&jC 6 ls))∧w=w':=by
 obtain⟨A,c,rfl,hc⟩:=hv.form;by_cases hx:ls.length≤7
 ·have hx':(ls.length:Int)≤7:=by omega
  have hsh:Calls Tryz.prog 6 #[.int .i64 6,.slice A ls.length c] w fun e w'=>e= .returned (.bool (jC 6 ls))∧w=w':=RQ 6 ls (.slice A ls.length c) w hv (by decide) (by omega) hll;obtain⟨S,hS⟩:∃S,jC 6 ls=S:=⟨_,rfl⟩;have HE:Hid ((decide (ls.length≤7)&&jC 6 ls)=S):=by unfold Hid;rw[hS];simp[hx]
  rw[hS] at hsh;clear hS;go_enter Tryz.func5,Tryz.ntmps5;go_wp2_with fail;refine hsh.mono ?_;rintro e1 w1 ⟨rfl,rfl⟩;go_wp2_with fail;go_ret;rw[HE.out];exact⟨rfl,rfl⟩
 ·have hx':¬(ls.length:Int)≤7:=by omega
  have HE:Hid ((decide (ls.length≤7)&&jC 6 ls)=false):=by unfold Hid;simp[hx]
  go_enter Tryz.func5,Tryz.ntmps5;go_wp2_with fail;go_ret
  first
   |exact⟨rfl,rfl⟩
   |(rw[HE.out];exact⟨rfl,rfl⟩)
theorem lG:aE [[45,50],[48],[49]]=[-2,0,1]:=by
 show[(aR [45,50]).getD 0,(aR [48]).getD 0,(aR [49]).getD 0]=_
 rw[xY,qQ,mM];rfl
theorem KA:aR [45,52]=some (-4):=by decide
theorem KR:aR [52]=some 4:=by decide
theorem L1:([(-4,0),(0,4)]:List (Rat×Rat)).map kE=[([45,52],[48]),([48],[52])]:=by
 show[(aO (-4),aO 0),(aO 0,aO 4)]=_
 rw[kV KA,kV qQ,kV KR]
theorem wB:vl [[45,50],[48],[49]]=true:=by
 unfold vl;rw[decide_eq_true_iff,lG];exact⟨by decide,by decide,by decide⟩
theorem L2:hJ [[45,50],[48],[49]] [] []=0:=by
 have h:dY [[45,50],[48],[49]]=0:=by unfold dY;rw[if_pos wB,if_neg (by simp)]
 unfold hJ;rw[h];rfl
theorem L3 {n:Int} (h:j5 (aE [[45,50],[48],[49]]) (dA [] (-1)) (dU []) (dA [] 1) (dU []) 0 n):n=2:=by
 have h1:=h.2 rfl;rw[lG] at h1;rw[h1.get (by decide) wA E9 (by decide)];exact YQ
theorem L4:∀p∈([(-4,0),(0,4)]:List (Rat×Rat)),RL 35080695 p.1∧RL 35080695 p.2:=fun p hp=>by
 have h4:RL 35080695 ((4:Int):Rat):=lK (Nat.le_trans (bI (m:=1) (by unfold BN;decide)) (by decide)) (by decide);have hm4:RL 35080695 ((-4:Int):Rat):=lK (Nat.le_trans (bI (m:=1) (by unfold BN;decide)) (by decide)) (by decide);have h0:RL 35080695 (0:Rat):=eO (by decide);simp only[List.mem_cons,List.not_mem_nil,or_false] at hp;rcases hp with rfl|rfl
 ·exact⟨hm4,h0⟩
 ·exact⟨h0,h4⟩
theorem eN (w:World) (hG:Glob w):Calls Tryz.prog 7 #[] w fun e w'=>e= .returned (.bool true)∧Below w.heap.size w w':=by
 have his:=fun W v hG h=>NA [[45,50],[48],[49]] 2 [(-4,0),(0,4)] v W hG h (by decide) (by decide) wB (by simp) (by rw[lG,YV];exact YW) (by decide) (by decide) L4 (fun w s c hw hc=>by rw[lG] at hw;exact YX hw hc);have hto:=fun W v hG h=>H6 [[45,50],[48],[49]] v W hG h (by decide) (by decide);rw[L1] at his;unfold kT at hto;rw[L2] at hto;go_enter Tryz.func7,Tryz.ntmps7;go_wp2_with fail;have hb:Below w.heap.size w (w.alloc (.cells #[.string ⟨#[45,50]⟩,.string ⟨#[48]⟩,.string ⟨#[49]⟩] 9)):=(Below.refl _ _).alloc (Nat.le_refl _) _;have x1:StrsAt (w.alloc (.cells #[.string ⟨#[45,50]⟩,.string ⟨#[48]⟩,.string ⟨#[49]⟩] 9)) (.slice (some ⟨w.heap.size,0,none⟩) 3 3) [[45,50],[48],[49]]:=StrsAt.built w [[45,50],[48],[49]] 9;generalize w.alloc (.cells #[.string ⟨#[45,50]⟩,.string ⟨#[48]⟩,.string ⟨#[49]⟩] 9)=W at *;refine(his _ _ (hG.below hb) x1).mono ?_;rintro e1 w1 ⟨v1,rfl,h1,hb1⟩;replace hb:=aB hb hb1;obtain⟨A1,c1,rfl,hc1⟩:=h1.form;replace h1:IvsAt w1 (.slice A1 2 c1) [([45,52],[48]),([48],[52])]:=h1;clear x1 his;go_wp2_with fail;have hb2:Below w1.heap.size w1 (w1.alloc (.cells #[.string ⟨#[45,50]⟩,.string ⟨#[48]⟩,.string ⟨#[49]⟩] 9)):=(Below.refl _ _).alloc (Nat.le_refl _) _;have x2:StrsAt (w1.alloc (.cells #[.string ⟨#[45,50]⟩,.string ⟨#[48]⟩,.string ⟨#[49]⟩] 9)) (.slice (some ⟨w1.heap.size,0,none⟩) 3 3) [[45,50],[48],[49]]:=StrsAt.built w1 [[45,50],[48],[49]] 9;replace h1:=h1.below hb2;replace hb:=aB hb hb2;clear hb2;generalize w1.alloc (.cells #[.string ⟨#[45,50]⟩,.string ⟨#[48]⟩,.string ⟨#[49]⟩] 9)=W2 at *;refine(hto _ _ (hG.below hb) x2).mono ?_;rintro e3 w3 ⟨n,rfl, -, -,hn,hb3⟩;obtain rfl:=L3 hn;replace h1:=h1.below hb3;replace hb:=aB hb hb3;clear x2 hto hn;go_wp2_with fail;have hb4:Below w3.heap.size w3 (w3.alloc (.cells #[.string ⟨#[45,52]⟩,.string ⟨#[48]⟩,.string ⟨#[48]⟩,.string ⟨#[52]⟩] 45)):=(Below.refl _ _).alloc (Nat.le_refl _) _;have x4:IvsAt (w3.alloc (.cells #[.string ⟨#[45,52]⟩,.string ⟨#[48]⟩,.string ⟨#[48]⟩,.string ⟨#[52]⟩] 45)) (.slice (some ⟨w3.heap.size,0,none⟩) 2 2) [([45,52],[48]),([48],[52])]:=IvsAt.built w3 [([45,52],[48]),([48],[52])] 45;replace h1:=h1.below hb4;replace hb:=aB hb hb4;clear hb4;generalize w3.alloc (.cells #[.string ⟨#[45,52]⟩,.string ⟨#[48]⟩,.string ⟨#[48]⟩,.string ⟨#[52]⟩] 45)=W4 at *;refine(L5 _ _ _ _ h1 x4 (by decide)).mono ?_;rintro e5 w5 ⟨rfl,hb5⟩;go_wp2_with fail;go_ret;exact⟨rfl,aB hb hb5⟩
theorem Z1 (x y:Int) (w:World):Calls Tryz.prog 108 #[.int .i64 x,.int .i64 y] w fun e w'=>e= .returned (.int .i64 (bM x y))∧w=w':=by
 rcases iY x y with ⟨h1,e⟩|⟨h1,e⟩|⟨h1,e⟩
 ·rw[e];clear e;go_enter Tryz.func108,Tryz.ntmps108;go_wp2;go_ret;exact⟨rfl,rfl⟩
 ·rw[e];clear e;subst h1;go_enter Tryz.func108,Tryz.ntmps108;go_wp2;go_ret;exact⟨rfl,rfl⟩
 ·rw[e];clear e;have h2:¬x<y:=by omega
  go_enter Tryz.func108,Tryz.ntmps108;go_wp2;go_ret;exact⟨rfl,rfl⟩
theorem Z2 (x y:Int) (w:World):Calls Tryz.prog 48 #[.int .i64 x,.int .i64 y] w fun e w'=>e= .returned (.int .i64 (bM x y))∧w=w':=by
 have hc:=Z1 x y w;generalize bM x y=R at *;go_enter Tryz.func48,Tryz.ntmps48;go_wp2_with fail;refine hc.mono ?_;rintro e1 w1 ⟨rfl,rfl⟩;go_wp2_with fail;go_ret;exact⟨rfl,rfl⟩
theorem JJ (l:List UInt8) (w:World) (hG:Glob w) (hl:l.length≤1073741824):Calls Tryz.prog 49 #[.string ⟨l.toArray⟩] w (eV w ((aR l).getD 0)):=by
 have hr:=fun W hG=>EU l W hG hl;unfold PN at hr;generalize (aR l).getD 0=x at *;generalize (aR l).isSome=ok at *;obtain⟨W,eW,hb,R⟩:=bA w [.bool false,.slice none 0 0,.bool false,.slice none 0 0] 54;have cM:=R.g4;go_enter Tryz.func49,Tryz.ntmps49;go_wp2_with fail;(try rw[eW]);clear eW;refine(hr _ (hG.below hb)).mono ?_;rintro e1 w1 ⟨v1,rfl,h1,hb1⟩;obtain⟨s1,A1,k1,c1,s2,A2,k2,c2,rfl⟩:=h1.form;replace R:=R.below hb1;replace hb:=aB hb hb1;have hRl:=R.lt;obtain⟨w2,e2,hb2,P⟩:=bA w1 [.bool s1,.slice A1 k1 c1,.bool s2,.slice A2 k2 c2] 54;replace h1:=h1.below hb2;replace R:=R.below hb2;replace hb:=aB hb hb2;have cM:=aa R.g4 P.k4;go_wp2_with fail;(try rw[e2]);(try clear e2);obtain⟨W6,e6,R,hb,hk,ff⟩:=R.put4 hb (by omega) (.bool s1) (.slice A1 k1 c1) (.bool s2) (.slice A2 k2 c2) rfl rfl;rw[e6];exact bodyPost_ret (v:= .agg #[.bool s1,.slice A1 k1 c1,.bool s2,.slice A2 k2 c2]) (by simp[results,Tryz.results49,go_sem,R.k4]) rfl ⟨_,rfl,h1.keep hk,hb⟩
theorem Bx.putB2 {w W:World} {b B:Nat} {cs:List Value} {t:TypeId} (h:Bx W b cs t) (hb:Below B w W) (hB:B≤b) (v0 v1:Value) {a0 a1:Value} (hc:cs=[a0,a1]):
  ∃W',(W.setCell ⟨b,0,none⟩ v0).setCell ⟨b,1,none⟩ v1=W'∧Bx W' b [v0,v1] t∧Below B w W'∧∀{g:Nat} {cs:List Value} {t:TypeId},Bx W g cs t→b≠g→Bx W' g cs t:=by
 subst hc;exact⟨_,rfl,(h.set 0 v0).set 1 v1,(hb.setCell (p:=⟨b,0,none⟩) hB v0).setCell (p:=⟨b,1,none⟩) hB v1,fun k hne=>(k.far 0 v0 hne).far 1 v1 hne⟩
theorem Z3 (a b:List UInt8) (w:World) (hla:a.length≤1099511627776) (hlb:b.length≤1099511627776):
  Calls Tryz.prog 47 #[.string ⟨a.toArray⟩,.string ⟨b.toArray⟩] w fun e w'=>∃n d m f ok,e= .returned (.tuple #[.agg #[.int .i64 n,.int .i64 d],.agg #[.int .i64 m,.int .i64 f],.bool ok])∧(ok=true→eC a n d∧eC b m f)∧Below w.heap.size w w':=by
 have ha:=fun W=>vM a W hla;have hb':=fun W=>vM b W hlb;obtain⟨W,eW,hb,R,S⟩:=j6 w [.int .i64 0,.int .i64 0] 91 [.int .i64 0,.int .i64 0] 91;have cM:=aa R.g2 S.g2;go_enter Tryz.func47,Tryz.ntmps47;go_wp2_with fail;(try rw[eW]);clear eW;refine(ha _).mono ?_;rintro e1 w1 ⟨n,d,ok1,rfl,hok1,hb1⟩;have hS0:=S.lt;have hW1:=hb1.size;obtain⟨w2,e2,hb2,X⟩:=bA w1 [.int .i64 n,.int .i64 d] 91;have hA:=aB hb1 hb2;replace R:=R.below hA;replace S:=S.below hA;replace hb:=aB hb hA;have hRl:=R.lt;have hSl:=S.lt;have cM:=aa R.g2 (aa S.g2 X.k2);clear ha;cases ok1 with
 |false=>
  clear hok1 hb';go_wp2_with fail;all_goals (try rw[e2])
  obtain⟨W5,e5,R,hb,ff⟩:=R.putB2 hb (by omega) (.int .i64 0) (.int .i64 0) rfl;replace S:=ff S (by omega);rw[e5];obtain⟨W6,e6,S,hb,ff⟩:=S.putB2 hb (by omega) (.int .i64 0) (.int .i64 0) rfl;replace R:=ff R (by omega);rw[e6];exact bodyPost_ret (v:= .tuple #[.agg #[.int .i64 0,.int .i64 0],.agg #[.int .i64 0,.int .i64 0],.bool false]) (by simp[results,Tryz.results47,go_sem,R.k2,S.k2]) rfl ⟨_,_,_,_,false,rfl,(fun h=>by cases h),hb⟩
 |true=>
  have HA:Hid (eC a n d):=hok1 rfl;clear hok1;go_wp2_with fail;(try rw[e2]);(try clear e2);refine(hb' _).mono ?_;rintro e3 w3 ⟨m,f,ok2,rfl,hok2,hb3⟩;have hX0:=X.lt;have hW3:=hb3.size;obtain⟨w4,e2,hb4,Y⟩:=bA w3 [.int .i64 m,.int .i64 f] 91;have hB:=aB hb3 hb4;replace R:=R.below hB;replace S:=S.below hB;replace X:=X.below hB;replace hb:=aB hb hB;have cM:=aa R.g2 (aa S.g2 (aa X.k2 Y.k2));clear hb';cases ok2 with
  |false=>
   clear hok2;go_wp2_with fail;all_goals (try rw[e2])
   obtain⟨W5,e5,R,hb,ff⟩:=R.putB2 hb (by omega) (.int .i64 0) (.int .i64 0) rfl;replace S:=ff S (by omega);rw[e5];obtain⟨W6,e6,S,hb,ff⟩:=S.putB2 hb (by omega) (.int .i64 0) (.int .i64 0) rfl;replace R:=ff R (by omega);rw[e6];exact bodyPost_ret (v:= .tuple #[.agg #[.int .i64 0,.int .i64 0],.agg #[.int .i64 0,.int .i64 0],.bool false]) (by simp[results,Tryz.results47,go_sem,R.k2,S.k2]) rfl ⟨_,_,_,_,false,rfl,(fun h=>by cases h),hb⟩
  |true=>
   have HB:Hid (eC b m f):=hok2 rfl;clear hok2;go_wp2_with fail;(try rw[e2]);(try clear e2);have n1:w.heap.size≠w1.heap.size:=by omega
   have n2:w.heap.size≠w3.heap.size:=by omega
   have n3:w.heap.size+1≠w1.heap.size:=by omega
   have n4:w.heap.size+1≠w3.heap.size:=by omega
   go_region_held3 (fun w'=>C2 w' w1.heap.size (.int .i64 n) (.int .i64 d)∧C2 w' w3.heap.size (.int .i64 m) (.int .i64 f))
    (first
     |(with_reducible exact⟨X.up.k2,Y.up.k2⟩)
     |(with_reducible exact⟨((X.far 0 _ n1).far 1 _ n1).drew.k2,((Y.far 0 _ n2).far 1 _ n2).drew.k2⟩)
     |(with_reducible exact⟨((X.far 0 _ n3).far 1 _ n3).drew.k2,((Y.far 0 _ n4).far 1 _ n4).drew.k2⟩)
     |(with_reducible exact⟨((((X.far 0 _ n1).far 1 _ n1).far 0 _ n3).far 1 _ n3).drew.k2,((((Y.far 0 _ n2).far 1 _ n2).far 0 _ n4).far 1 _ n4).drew.k2⟩)
     |(with_reducible exact⟨((((X.far 0 _ n3).far 1 _ n3).far 0 _ n1).far 1 _ n1).drew.k2,((((Y.far 0 _ n4).far 1 _ n4).far 0 _ n2).far 1 _ n2).drew.k2⟩))
    (fail)
   all_goals (
    go_wp2_with fail
    first
     |(obtain⟨W5,e5,R,hb,ff⟩:=R.putB2 hb (by omega) (.int .i64 n) (.int .i64 d) rfl
       replace S:=ff S (by omega)
       rw[e5]
       obtain⟨W6,e6,S,hb,ff⟩:=S.putB2 hb (by omega) (.int .i64 m) (.int .i64 f) rfl
       replace R:=ff R (by omega)
       rw[e6]
       exact bodyPost_ret (v:= .tuple #[.agg #[.int .i64 n,.int .i64 d],.agg #[.int .i64 m,.int .i64 f],.bool true]) (by simp[results,Tryz.results47,go_sem,R.k2,S.k2]) rfl ⟨_,_,_,_,true,rfl,(fun _=>⟨HA.out,HB.out⟩),hb.drew⟩)
     |(obtain⟨W5,e5,S,hb,ff⟩:=S.putB2 hb (by omega) (.int .i64 m) (.int .i64 f) rfl
       replace R:=ff R (by omega)
       rw[e5]
       obtain⟨W6,e6,R,hb,ff⟩:=R.putB2 hb (by omega) (.int .i64 n) (.int .i64 d) rfl
       replace S:=ff S (by omega)
       rw[e6]
       exact bodyPost_ret (v:= .tuple #[.agg #[.int .i64 n,.int .i64 d],.agg #[.int .i64 m,.int .i64 f],.bool true]) (by simp[results,Tryz.results47,go_sem,R.k2,S.k2]) rfl ⟨_,_,_,_,true,rfl,(fun _=>⟨HA.out,HB.out⟩),hb.drew⟩))
theorem Z4 {a b:List UInt8} {n d m f:Int} {x y:Rat} (ha:eC a n d) (hb:eC b m f) (hx:aR a=some x) (hy:aR b=some y):bM (n*f) (m*d)=(x-y).num.sign∧ -1000000000000000000<n*f∧n*f<1000000000000000000∧ -1000000000000000000<m*d∧m*d<1000000000000000000:=by
 obtain⟨-,D,rfl,d0,d1,n1,e1⟩:=ha;obtain⟨-,F,rfl,f0,f1,m1,e2⟩:=hb;rw[hx] at e1;rw[hy] at e2;injection e1 with e1;injection e2 with e2;have bd:∀(n:Int) (F:Nat),n.natAbs<1000000000→F<1000000000→ -1000000000000000000<n*(F:Int)∧n*(F:Int)<1000000000000000000:=fun n F h1 h2=>by
  have h3:(n*(F:Int)).natAbs≤999999999*999999999:=by
   rw[Int.natAbs_mul,Int.natAbs_natCast];exact Nat.mul_le_mul (by omega) (by omega)
  omega
 refine⟨?_,(bd n F n1 f1).1,(bd n F n1 f1).2,(bd m D m1 d1).1,(bd m D m1 d1).2⟩;have hDp:0<((D:Int):Rat):=by
  have:(0:Int)<(D:Int):=by omega
  exact_mod_cast this
 have hFp:0<((F:Int):Rat):=by
  have:(0:Int)<(F:Int):=by omega
  exact_mod_cast this
 have hx':x*((D:Int):Rat)=(n:Rat):=by rw[e1,Rat.mkRat_eq_div,←Rat.intCast_natCast,Rat.div_mul_cancel (by grind)]
 have hy':y*((F:Int):Rat)=(m:Rat):=by rw[e2,Rat.mkRat_eq_div,←Rat.intCast_natCast,Rat.div_mul_cancel (by grind)]
 have e:((n*(F:Int)-m*(D:Int):Int):Rat)=((D:Int):Rat)*((F:Int):Rat)*(x-y):=by
  rw[Rat.intCast_sub,Rat.intCast_mul,Rat.intCast_mul,←hx',←hy'];grind
 have k:=kQ (Rat.mul_pos hDp hFp) (x-y);rw[←e,lR] at k;rw[←k];rcases iY (n*(F:Int)) (m*(D:Int)) with ⟨h,e⟩|⟨h,e⟩|⟨h,e⟩
 ·rw[e,Int.sign_eq_neg_one_of_neg (by omega)]
 ·rw[e,h,Int.sub_self];rfl
 ·rw[e,Int.sign_eq_one_of_pos (by omega)]
theorem K0 (a b:List UInt8) (x y:Rat) (w:World) (hG:Glob w) (hx:aR a=some x) (hy:aR b=some y) (hla:a.length≤18) (hlb:b.length≤18):
  Calls Tryz.prog 18 #[.string ⟨a.toArray⟩,.string ⟨b.toArray⟩] w (sS w (x-y).num.sign):=by
 have h2:=fun W=>Z3 a b W (by omega) (by omega);have hva:=fun W hG=>JJ a W hG (by omega);have hvb:=fun W hG=>JJ b W hG (by omega);rw[hx] at hva;rw[hy] at hvb;have hcp:=fun W u v h h'=>sN x y u v W h h' 1 (yE hx hla) (yE hy hlb) (by decide);have HC:Hid (∀n d m f,eC a n d→eC b m f→bM (n*f) (m*d)=(x-y).num.sign∧ -1000000000000000000<n*f∧n*f<1000000000000000000∧ -1000000000000000000<m*d∧m*d<1000000000000000000):=fun n d m f h h'=>Z4 h h' hx hy;unfold sS at hcp;unfold eV at hva hvb;unfold sS;simp only[Option.getD_some] at hva hvb;clear hx hy hla hlb;generalize (x-y).num.sign=R at *;go_enter Tryz.func18,Tryz.ntmps18;go_wp2_with fail;refine(h2 _).mono ?_;rintro e1 w1 ⟨n,d,m,f,ok,rfl,hok,hb⟩;obtain⟨w2,e2,hb2,X,Y⟩:=j6 w1 [.int .i64 n,.int .i64 d] 91 [.int .i64 m,.int .i64 f] 91;replace hb:=aB hb hb2;have cM:=aa X.k2 Y.k2;cases ok with
 |true=>
  obtain⟨z1,z2⟩:=hok rfl;obtain⟨z3,z4,z5,z6,z7⟩:=HC.out n d m f z1 z2;have hci:=fun W=>Z2 (n*f) (m*d) W;rw[z3] at hci;have hw1:IntKind.i64.wrap (n*f)=n*f:=IntWalk.i64_in _ ⟨by omega,by omega⟩;have hw2:IntKind.i64.wrap (m*d)=m*d:=IntWalk.i64_in _ ⟨by omega,by omega⟩;clear hok hva hvb hcp HC z1 z2 z3;go_wp2_with fail;(try rw[e2]);(try clear e2);refine(hci _).mono ?_;rintro e3 w3 ⟨rfl,rfl⟩;go_wp2_with fail;go_ret;exact⟨rfl,hb⟩
 |false=>
  clear hok HC;go_wp2_with fail;(try rw[e2]);(try clear e2);refine(hva _ (hG.below hb)).mono ?_;rintro e3 w3 ⟨v3,rfl,h3,hb3⟩;replace hb:=aB hb hb3;go_wp2_with fail;refine(hvb _ (hG.below hb)).mono ?_;rintro e4 w4 ⟨v4,rfl,h4,hb4⟩;replace h3:=h3.below hb4;replace hb:=aB hb hb4;go_wp2_with fail;refine(hcp _ _ _ h3 h4).mono ?_;rintro e5 w5 ⟨rfl,hb5⟩;go_wp2_with fail;go_ret;exact⟨rfl,aB hb hb5⟩
theorem n0 {l:List UInt8} {x:Rat} (h:aR l=some x) (d:Int):dA l d=0∧dU l=x∧dZ l=true:=by
 have h0:l≠[]:=fun e=>by
  rw[e,show aR []=none by decide] at h;cases h
 unfold dA dU dZ rd;rw[if_neg h0,if_neg h0,h];exact⟨rfl,rfl,by simp⟩
theorem kN {ls:List (List UInt8)} {a b:List UInt8} (ha:dZ a=true) (hb:dZ b=true):hJ ls a b=dY ls:=by
 unfold hJ;rw[ha,hb];rcases m8 ls with ⟨h, -⟩|⟨h, -⟩|⟨h, -⟩<;>rw[h]<;>rfl
theorem K1 (ls:List (List UInt8)) (a b c:List UInt8) (v:Value) (w:World) (hG:Glob w) (hv:StrsAt w v ls) (hca:∀l∈ls,l.length≤9223372036854775807) (hla:a.length≤9223372036854775807) (hlb:b.length≤9223372036854775807) (hlc:c.length≤9223372036854775807):
  Calls Tryz.prog 4 #[v,.string ⟨a.toArray⟩,.string ⟨b.toArray⟩,.string ⟨c.toArray⟩] w fun e w'=>e= .returned (.bool true)∧Below w.heap.size w w':=by
 obtain⟨A,c0,rfl,hc⟩:=hv.form;have hsm:=fun W h=>K2 ls (.slice A ls.length c0) W h hca
 have hsh:∀W v,StrsAt W v [a,b,c]→Calls Tryz.prog 6 #[.int .i64 8,v] W fun e w'=>e= .returned (.bool (jC 8 [a,b,c]))∧W=w':=fun W v h=>RQ 8 [a,b,c] v W h (by decide) (by show 3≤1073741824;decide) (fun l hl=>by
  simp only[List.mem_cons,List.not_mem_nil,or_false] at hl;rcases hl with rfl|rfl|rfl
  ·exact hla
  ·exact hlb
  ·exact hlc)
 clear hca hla hlb hlc;go_enter Tryz.func4,Tryz.ntmps4;go_wp2_with fail;refine(hsm _ hv).mono ?_;rintro e1 w1 ⟨rfl,rfl⟩;cases hs:(decide (ls.length≤7)&&jC 6 ls) with
 |false=>
  have hb:=Below.refl w.heap.size w;clear hs hsm hsh;go_wp2_with fail;refine(eN _ (hG.below hb)).mono ?_;rintro e9 w9 ⟨rfl,hb9⟩;go_wp2_with fail;go_ret;exact⟨rfl,aB hb hb9⟩
 |true=>
  rw[Bool.and_eq_true,decide_eq_true_iff] at hs;obtain⟨hl7,hs6⟩:=hs;have hs6':∀l∈ls,l.length≤6:=fun l hl=>by
   unfold jC at hs6;exact of_decide_eq_true (List.all_eq_true.1 hs6 l hl)
  have hct:=fun x y W hG h hx hy=>H3 ls x y (.slice A ls.length c0) W hG h hl7 hs6' hx hy;have hto:=fun W hG h=>H6 ls (.slice A ls.length c0) W hG h hl7 hs6';clear hsm hs6 hs6';go_wp2_with fail;have hb:Below w.heap.size w (w.alloc (.cells #[.string ⟨a.toArray⟩,.string ⟨b.toArray⟩,.string ⟨c.toArray⟩] 9)):=(Below.refl _ _).alloc (Nat.le_refl _) _;have x1:StrsAt (w.alloc (.cells #[.string ⟨a.toArray⟩,.string ⟨b.toArray⟩,.string ⟨c.toArray⟩] 9)) (.slice (some ⟨w.heap.size,0,none⟩) 3 3) [a,b,c]:=StrsAt.built w [a,b,c] 9;replace hv:=hv.below hb;generalize w.alloc (.cells #[.string ⟨a.toArray⟩,.string ⟨b.toArray⟩,.string ⟨c.toArray⟩] 9)=W at *;refine(hsh _ _ x1).mono ?_;rintro e2 w2 ⟨rfl,rfl⟩;clear hsh x1;cases h8:jC 8 [a,b,c] with
  |false=>
   clear h8 hct hto;go_wp2_with fail;refine(eN _ (hG.below hb)).mono ?_;rintro e9 w9 ⟨rfl,hb9⟩;go_wp2_with fail;go_ret;exact⟨rfl,aB hb hb9⟩
  |true=>
   have h8':a.length≤8∧b.length≤8∧c.length≤8:=by
    unfold jC at h8;simpa using h8
   obtain⟨la,lb,lc⟩:=h8';have hva:=fun W hG=>vE a W hG (by omega);have hvb:=fun W hG=>vE b W hG (by omega);have hvc:=fun W hG=>vE c W hG (by omega);have hab:=fun x y W hG h h'=>K0 a b x y W hG h h' (by omega) (by omega);have hbc:=fun x y W hG h h'=>K0 b c x y W hG h h' (by omega) (by omega);have c1:=fun W hG h=>hct a b W hG h (by omega) (by omega);have c2:=fun W hG h=>hct b c W hG h (by omega) (by omega);have c3:=fun W hG h=>hct a c W hG h (by omega) (by omega);have c4:=fun W hG h=>hct [] a W hG h (by decide) (by omega);have c5:=fun W hG h=>hct c [] W hG h (by omega) (by decide);have hrd:∀l,rd l=true→∃x,aR l=some x:=fun l h=>Option.isSome_iff_exists.1 h;clear h8 la lb lc hct;go_wp2_with fail;refine(hva _ (hG.below hb)).mono ?_;rintro e3 w3 ⟨rfl,hb3⟩;replace hv:=hv.below hb3;replace hb:=aB hb hb3;clear hva;cases ra:rd a with
   |false=>
    clear ra hvb hvc hab hbc c1 c2 c3 c4 c5 hto hrd;go_wp2_with fail;refine(eN _ (hG.below hb)).mono ?_;rintro e9 w9 ⟨rfl,hb9⟩;go_wp2_with fail;go_ret;exact⟨rfl,aB hb hb9⟩
   |true=>
    go_wp2_with fail;refine(hvb _ (hG.below hb)).mono ?_;rintro e4 w4 ⟨rfl,hb4⟩;replace hv:=hv.below hb4;replace hb:=aB hb hb4;clear hvb;cases rb:rd b with
    |false=>
     clear ra rb hvc hab hbc c1 c2 c3 c4 c5 hto hrd;go_wp2_with fail;refine(eN _ (hG.below hb)).mono ?_;rintro e9 w9 ⟨rfl,hb9⟩;go_wp2_with fail;go_ret;exact⟨rfl,aB hb hb9⟩
    |true=>
     go_wp2_with fail;refine(hvc _ (hG.below hb)).mono ?_;rintro e5 w5 ⟨rfl,hb5⟩;replace hv:=hv.below hb5;replace hb:=aB hb hb5;clear hvc;cases rc:rd c with
     |false=>
      clear ra rb rc hab hbc c1 c2 c3 c4 c5 hto hrd;go_wp2_with fail;refine(eN _ (hG.below hb)).mono ?_;rintro e9 w9 ⟨rfl,hb9⟩;go_wp2_with fail;go_ret;exact⟨rfl,aB hb hb9⟩
     |true=>
      obtain⟨x,ha⟩:=hrd a ra;obtain⟨y,hb'⟩:=hrd b rb;obtain⟨z,hc'⟩:=hrd c rc;replace hab:=fun W hG=>hab x y W hG ha hb';replace hbc:=fun W hG=>hbc y z W hG hb' hc';have hsa:=o7 x y;have hsb:=o7 y z;have oa:=n0 ha;have ob:=n0 hb';have oc:=n0 hc';clear ra rb rc hrd ha hb' hc';unfold sS at hab hbc;obtain⟨R,hR⟩:∃R,(x-y).num.sign=R:=⟨_,rfl⟩;obtain⟨T,hT⟩:∃T,(y-z).num.sign=T:=⟨_,rfl⟩;rw[hR] at hab hsa;rw[hT] at hbc hsb;have HSA:=Lib.hid hsa;have HSB:=Lib.hid hsb;clear hR hT hsa hsb;go_wp2_with fail;refine(hab _ (hG.below hb)).mono ?_;rintro e6 w6 ⟨rfl,hb6⟩;replace hv:=hv.below hb6;replace hb:=aB hb hb6;clear hab;by_cases hR0:0≤R
      ·clear HSA HSB hbc c1 c2 c3 c4 c5 hto oa ob oc;go_wp2_with fail;refine(eN _ (hG.below hb)).mono ?_;rintro e9 w9 ⟨rfl,hb9⟩;go_wp2_with fail;go_ret;exact⟨rfl,aB hb hb9⟩
      ·have hR1:¬(0:Int)≤R:=hR0;go_wp2_with fail;refine(hbc _ (hG.below hb)).mono ?_;rintro e7 w7 ⟨rfl,hb7⟩;replace hv:=hv.below hb7;replace hb:=aB hb hb7;clear hbc;by_cases hT0:0≤T
       ·clear HSA HSB c1 c2 c3 c4 c5 hto oa ob oc;go_wp2_with fail;refine(eN _ (hG.below hb)).mono ?_;rintro e9 w9 ⟨rfl,hb9⟩;go_wp2_with fail;go_ret;exact⟨rfl,aB hb hb9⟩
       ·have hxy:x<y:=HSA.out.1 (by omega);have hyz:y<z:=HSB.out.1 (by omega);have oe:dZ []=true:=rfl;unfold kT at c1 c2 c3 c4 c5 hto;rw[kN (oa 0).2.2 (ob 0).2.2,(oa _).1,(oa 0).2.1,(ob _).1,(ob 0).2.1] at c1;rw[kN (ob 0).2.2 (oc 0).2.2,(ob _).1,(ob 0).2.1,(oc _).1,(oc 0).2.1] at c2;rw[kN (oa 0).2.2 (oc 0).2.2,(oa _).1,(oa 0).2.1,(oc _).1,(oc 0).2.1] at c3;rw[kN oe (oa 0).2.2,(oa _).1,(oa 0).2.1] at c4;rw[kN (oc 0).2.2 oe,(oc _).1,(oc 0).2.1] at c5;rw[kN oe oe] at hto;have HF:Hid (∀n1 n2 n3 u v t,j5 (aE ls) 0 x 0 y 0 n1→j5 (aE ls) 0 y 0 z 0 n2→j5 (aE ls) 0 x 0 z 0 n3→j5 (aE ls) (dA [] (-1)) (dU []) 0 x 0 u→j5 (aE ls) 0 z (dA [] 1) (dU []) 0 v→j5 (aE ls) (dA [] (-1)) (dU []) (dA [] 1) (dU []) 0 t→n3=n1+n2∧t=u+n3+v):=fun n1 n2 n3 u v t k1 k2 k3 k4 k5 k6=>XN hxy hyz (k1.2 rfl) (k2.2 rfl) (k3.2 rfl) (k4.2 rfl) (k5.2 rfl) (k6.2 rfl);have hE:=m8 ls;clear oa ob oc oe HSA HSB hxy hyz;generalize dY ls=E at *;have hE3:E=0∨E=1∨E=5:=by
         rcases hE with ⟨h, -⟩|⟨h, -⟩|⟨h, -⟩
         ·exact .inl h
         ·exact .inr (.inl h)
         ·exact .inr (.inr h)
        clear hE;go_wp2_with fail;refine(c1 _ (hG.below hb) hv).mono ?_;rintro f1 y1 ⟨n1,rfl,l1,r1,h1,bb1⟩;replace hv:=hv.below bb1;replace hb:=aB hb bb1;clear c1;go_wp2_with fail;refine(c2 _ (hG.below hb) hv).mono ?_;rintro f2 y2 ⟨n2,rfl,l2,r2,h2,bb2⟩;replace hv:=hv.below bb2;replace hb:=aB hb bb2;clear c2;go_wp2_with fail;refine(c3 _ (hG.below hb) hv).mono ?_;rintro f3 y3 ⟨n3,rfl,l3,r3,h3,bb3⟩;replace hv:=hv.below bb3;replace hb:=aB hb bb3;clear c3;rcases hE3 with rfl|rfl|rfl
        ·skip;go_wp2_with fail;refine(c4 _ (hG.below hb) hv).mono ?_;rintro f4 y4 ⟨n4,rfl,l4,r4,h4,bb4⟩;replace hv:=hv.below bb4;replace hb:=aB hb bb4;clear c4;go_wp2_with fail;refine(c5 _ (hG.below hb) hv).mono ?_;rintro f5 y5 ⟨n5,rfl,l5,r5,h5,bb5⟩;replace hv:=hv.below bb5;replace hb:=aB hb bb5;clear c5;go_wp2_with fail;refine(hto _ (hG.below hb) hv).mono ?_;rintro f6 y6 ⟨n6,rfl,l6,r6,h6,bb6⟩;replace hv:=hv.below bb6;replace hb:=aB hb bb6;clear hto;obtain⟨z1,z2⟩:=HF.out n1 n2 n3 n4 n5 n6 h1 h2 h3 h4 h5 h6;obtain⟨q,hq⟩:∃q,n4+n3=q:=⟨_,rfl⟩;have e1:IntKind.i64.wrap (n1+n2)=n3:=by rw[z1];exact IntWalk.i64_in _ ⟨by omega,by omega⟩
         have e2:IntKind.i64.wrap (n4+n3)=q:=by rw[hq];exact IntWalk.i64_in _ ⟨by omega,by omega⟩
         have e3:IntKind.i64.wrap (q+n5)=n6:=by rw[z2,←hq];exact IntWalk.i64_in _ ⟨by omega,by omega⟩
         clear z1 z2 hq HF h1 h2 h3 h4 h5 h6;go_wp2_with fail;refine(eN _ (hG.below hb)).mono ?_;rintro e9 w9 ⟨rfl,hb9⟩;go_wp2_with fail;go_ret;exact⟨rfl,aB hb hb9⟩
        ·clear c4 c5 hto HF;go_wp2_with fail;refine(eN _ (hG.below hb)).mono ?_;rintro e9 w9 ⟨rfl,hb9⟩;go_wp2_with fail;go_ret;exact⟨rfl,aB hb hb9⟩
        ·clear c4 c5 hto HF;go_wp2_with fail;refine(eN _ (hG.below hb)).mono ?_;rintro e9 w9 ⟨rfl,hb9⟩;go_wp2_with fail;go_ret;exact⟨rfl,aB hb hb9⟩
end Go.Proofs.YtbhplgdbfmifkaaGreatDoor
