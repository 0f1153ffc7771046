/-
  Contracts of functions that the statement reaches, and plain laws: RatQ, RatR.
-/
import Derived.Test.YtbhplgdbfmifkaaGreatDoorI19
import Derived.Test.YtbhplgdbfmifkaaGreatDoorI26
import Derived.Test.YtbhplgdbfmifkaaGreatDoorI27
import Derived.Test.YtbhplgdbfmifkaaGreatDoorI28
set_option linter.unusedVariables false
set_option linter.unusedSimpArgs false
set_option maxHeartbeats 8000000
set_option maxRecDepth 100000
namespace Go.Proofs.YtbhplgdbfmifkaaGreatDoor
open Sos
theorem zG (x y:Rat) (h:Nat.gcd x.den y.den=1):(x+y).num=x.num*y.den+y.num*x.den∧(x+y).den=x.den*y.den:=by
 show(Rat.add x y).num=_∧(Rat.add x y).den=_
 unfold Rat.add;simp[h]
theorem U8 (x y:Rat) (g:Nat) (hg:Nat.gcd x.den y.den=g) (h1:g≠1) (n:Int) (hn:n=x.num*((y.den/g:Nat):Int)+y.num*((x.den/g:Nat):Int)):
  (x+y).num=n/((Nat.gcd n.natAbs g:Nat):Int)∧(x+y).den=x.den/g*y.den/Nat.gcd n.natAbs g:=by
 subst hg;subst hn;show(Rat.add x y).num=_∧(Rat.add x y).den=_
 unfold Rat.add;simp[h1]
theorem GV (a b:Nat):(a:Int).tdiv (b:Int)=((a/b:Nat):Int):=by
 rw[Int.tdiv_eq_ediv_of_nonneg (by omega)];exact(Int.natCast_ediv a b).symm
theorem zH (x y:Rat) (g r:Nat) (l t n:Int) (hg:g=Nat.gcd x.den y.den) (hl:l=(y.den:Int).tdiv g) (ht:t=(x.den:Int).tdiv g) (hn:n=x.num*l+y.num*t) (hr:r=Nat.gcd n.natAbs g):
  (x+y).num=n.tdiv r∧(((x+y).den:Nat):Int)=t*(y.den:Int).tdiv r:=by
 have hx0:=x.den_nz;have hy0:=y.den_nz;have hrg:r∣g:=hr ▸ Nat.gcd_dvd_right _ _;have hgy:g∣y.den:=hg ▸ Nat.gcd_dvd_right _ _;have hrn:(r:Int)∣n:=Int.ofNat_dvd_left.2 (hr ▸ Nat.gcd_dvd_left _ _);have hry:r∣y.den:=Nat.dvd_trans hrg hgy;rw[GV] at hl ht;rw[GV];by_cases h1:g=1
 ·obtain⟨e1,e2⟩:=zG x y (hg ▸ h1);have hr1:r=1:=by rw[hr,h1];simp
  rw[h1] at hl ht;simp only[Nat.div_one] at hl ht;rw[e1,e2,hr1,hn,hl,ht];simp
 ·obtain⟨e1,e2⟩:=U8 x y g hg.symm h1 n (by rw[hn,hl,ht]);rw[←hr] at e1 e2;rw[e1,e2,ht,Int.tdiv_eq_ediv_of_dvd hrn];refine⟨rfl,?_⟩;rw[Nat.mul_div_assoc _ hry];simp
theorem U9 {x y:Rat} {g:Nat} {l t n:Int} (hg:g=Nat.gcd x.den y.den) (hl:l=(y.den:Int).tdiv g) (ht:t=(x.den:Int).tdiv g) (hn:n=x.num*l+y.num*t) (h0:n=0):x+y=0:=by
 have:=(zH x y g _ l t n hg hl ht hn rfl).1;rw[h0] at this;exact Rat.num_eq_zero.1 (by rw[this];simp)
theorem zI {x y:Rat} (h:x.den=1):(x+y).num=x.num*y.den+y.num∧(x+y).den=y.den:=by
 obtain⟨e1,e2⟩:=zG x y (by rw[h];simp);rw[e1,e2,h];simp
theorem UA {x y:Rat} (h:y.den=1):(x+y).num=y.num*x.den+x.num∧(x+y).den=x.den:=by
 obtain⟨e1,e2⟩:=zG x y (by rw[h];simp);rw[e1,e2,h];simp;omega
theorem UB {x y:Rat} {K:Nat} (hx:RL K x) (hy:RL K y):RL (2*K+1) (x+y):=by
 obtain⟨e1,e2⟩:=zH x y _ _ _ _ _ rfl rfl rfl rfl rfl;obtain⟨x1,x2⟩:=hx;obtain⟨y1,y2⟩:=hy;have l1:=gB (y.den:Int) (Nat.gcd x.den y.den:Int) K y2;have l2:=gB (x.den:Int) (Nat.gcd x.den y.den:Int) K x2;have l3:=pD _ _ _ (bZ _ _ _ _ x1 l1) (bZ _ _ _ _ y1 l2);refine⟨?_,?_⟩
 ·rw[e1];exact gB _ _ _ (Nat.le_trans l3 (by omega))
 ·have h:nl (((x+y).den:Nat):Int).natAbs≤K+K:=by
   rw[e2];exact bZ _ _ _ _ l2 (gB _ _ _ y2)
  exact Nat.le_trans h (by omega)
end Go.Proofs.YtbhplgdbfmifkaaGreatDoor
namespace Go.Proofs.YtbhplgdbfmifkaaGreatDoor
open Go.RowKit Sos
theorem RatAt.denN {w:World} {s s':Bool} {u u':Value} {q:Rat} (h:RatAt w (.agg #[.bool s,u,.bool s',u']) q) (h1:q.den≠1):IntAt w (.agg #[.bool s',u']) (q.den:Int):=by
 have:=h.den;rwa [iS h1] at this
theorem V0 (x y:Rat) (vx vy:Value) (w:World) (hx:RatAt w vx x) (hy:RatAt w vy y) (hx1:x.den=1) (hy1:y.den=1) (K:Nat) (bx:RL K x) (bY:RL K y) (hK:10*K+40≤aF):
  Calls Tryz.prog 92 #[vx,vy] w (eV w (x+y)):=by
 obtain⟨s,A,k,c,s',A',k',c',rfl⟩:=hx.form;obtain⟨t,C,l,e,t',C',l',e',rfl⟩:=hy.form;unfold aF at hK;have⟨bx1,bx2⟩:=bx;have⟨by1,by2⟩:=bY;obtain⟨e1,e2⟩:=zI (y:=y) hx1;rw[hy1] at e1 e2;have HE:Hid ((x+y).num=x.num+y.num∧aS (x+y)=0):=⟨by rw[e1];simp,dH.2 e2⟩;have dx:aS x=0:=dH.2 hx1;have dy:aS y=0:=dH.2 hy1;clear e1 e2;obtain⟨W,eW,hb,X,Y,R⟩:=dK w [.bool s,.slice A k c,.bool s',.slice A' k' c'] 54 [.bool t,.slice C l e,.bool t',.slice C' l' e'] 54 [.bool false,.slice none 0 0,.bool false,.slice none 0 0] 54;have cM:=aa X.g4 (aa Y.g4 R.g4);go_enter Tryz.func92,Tryz.ntmps92;go_wp2_with fail;(try rw[eW]);clear eW;have hxn:IntAt W (.agg #[.bool s,.slice A k c]) x.num:=(hx.below hb).num;have hxd:IntAt W (.agg #[.bool s',.slice A' k' c']) 0:=by have:=(hx.below hb).den;rwa [dx] at this
 have hyn:IntAt W (.agg #[.bool t,.slice C l e]) y.num:=(hy.below hb).num;have hyd:IntAt W (.agg #[.bool t',.slice C' l' e']) 0:=by have:=(hy.below hb).den;rwa [dy] at this
 clear dx dy hx1 hy1;generalize x.num=xn at *;generalize y.num=yn at *;refine(cU 0 _ _ hxd n9).mono ?_;rintro e1 w1 ⟨rfl,hb1⟩;replace X:=X.below hb1;replace Y:=Y.below hb1;replace R:=R.below hb1;replace cM:=aa X.k4 (aa Y.k4 R.g4);replace hk:=Keep.below hb1;replace hxn:=hxn.keep hk;replace hxd:=hxd.keep hk;replace hyn:=hyn.keep hk;replace hyd:=hyd.keep hk;replace hb:=aB hb hb1;have hdd:decide ((0:Int)=0)=true:=rfl;rw[hdd];clear hdd;go_wp2_with fail;refine(cU 0 _ _ hyd n9).mono ?_;rintro e2 w2 ⟨rfl,hb2⟩;replace X:=X.below hb2;replace Y:=Y.below hb2;replace R:=R.below hb2;replace cM:=aa X.k4 (aa Y.k4 R.g4);replace hk:=Keep.below hb2;replace hxn:=hxn.keep hk;replace hxd:=hxd.keep hk;replace hyn:=hyn.keep hk;replace hyd:=hyd.keep hk;replace hb:=aB hb hb2;have hdd:decide ((0:Int)=0)=true:=rfl;rw[hdd];clear hdd;go_wp2_with fail;refine(nI xn yn _ _ _ hxn hyn (by omega) (by omega)).mono ?_;rintro e5 w5 ⟨v5,rfl,h5,hb5⟩;obtain⟨s5,A5,k5,c5,rfl⟩:=h5.form;replace X:=X.below hb5;replace Y:=Y.below hb5;replace R:=R.below hb5;replace cM:=aa X.k4 (aa Y.k4 R.g4);replace hb:=aB hb hb5;go_wp2_with fail;obtain⟨W6,eW6,R,hb,hk,ff⟩:=R.put4 hb (by omega) (.bool s5) (.slice A5 k5 c5) (.bool false) (.slice none 0 0) rfl rfl;replace X:=ff X (by omega);replace Y:=ff Y (by omega);replace h5:=h5.keep hk;rw[eW6];clear eW6;replace cM:=aa X.k4 (aa Y.k4 R.k4);exact bodyPost_ret (v:= .agg #[.bool s5,.slice A5 k5 c5,.bool false,.slice none 0 0]) (by simp[results,Tryz.results92,go_sem,R.k4]) rfl ⟨_,rfl,RatAt.of h5 (IntAt.zero _) HE.out.1 HE.out.2,hb⟩
theorem V1 (x y:Rat) (vx vy:Value) (w:World) (hx:RatAt w vx x) (hy:RatAt w vy y) (hx1:x.den=1) (hy1:y.den≠1) (K:Nat) (bx:RL K x) (bY:RL K y) (hK:10*K+40≤aF):
  Calls Tryz.prog 92 #[vx,vy] w (eV w (x+y)):=by
 obtain⟨s,A,k,c,s',A',k',c',rfl⟩:=hx.form;obtain⟨t,C,l,e,t',C',l',e',rfl⟩:=hy.form;unfold aF at hK;have⟨bx1,bx2⟩:=bx;have⟨by1,by2⟩:=bY;obtain⟨e1,e2⟩:=zI (y:=y) hx1;have HE:Hid ((x+y).num=x.num*y.den+y.num∧aS (x+y)=y.den):=⟨e1,by rw[iS (by rw[e2];exact hy1),e2]⟩;have dx:aS x=0:=dH.2 hx1;clear e1 e2;obtain⟨W,eW,hb,X,Y,R⟩:=dK w [.bool s,.slice A k c,.bool s',.slice A' k' c'] 54 [.bool t,.slice C l e,.bool t',.slice C' l' e'] 54 [.bool false,.slice none 0 0,.bool false,.slice none 0 0] 54;have cM:=aa X.g4 (aa Y.g4 R.g4);go_enter Tryz.func92,Tryz.ntmps92;go_wp2_with fail;(try rw[eW]);clear eW;have hxn:IntAt W (.agg #[.bool s,.slice A k c]) x.num:=(hx.below hb).num;have hxd:IntAt W (.agg #[.bool s',.slice A' k' c']) 0:=by have:=(hx.below hb).den;rwa [dx] at this
 have hyn:IntAt W (.agg #[.bool t,.slice C l e]) y.num:=(hy.below hb).num;have hyd:IntAt W (.agg #[.bool t',.slice C' l' e']) (y.den:Int):=(hy.below hb).denN hy1;have hde:decide ((y.den:Int)=0)=false:=by have:=y.den_nz;simpa using this
 have hby:nl (y.den:Int).natAbs≤K:=by2;clear dx hx1 hy1 by2 bY bx bx2;generalize x.num=xn at *;generalize y.num=yn at *;generalize (y.den:Int)=yd at *;have hml:=bZ xn yd K K bx1 hby;refine(cU 0 _ _ hxd n9).mono ?_;rintro e1 w1 ⟨rfl,hb1⟩;replace X:=X.below hb1;replace Y:=Y.below hb1;replace R:=R.below hb1;replace cM:=aa X.k4 (aa Y.k4 R.g4);replace hk:=Keep.below hb1;replace hxn:=hxn.keep hk;replace hxd:=hxd.keep hk;replace hyn:=hyn.keep hk;replace hyd:=hyd.keep hk;replace hb:=aB hb hb1;have hdd:decide ((0:Int)=0)=true:=rfl;rw[hdd];clear hdd;go_wp2_with fail;refine(cU yd _ _ hyd (by omega)).mono ?_;rintro e2 w2 ⟨rfl,hb2⟩;replace X:=X.below hb2;replace Y:=Y.below hb2;replace R:=R.below hb2;replace cM:=aa X.k4 (aa Y.k4 R.g4);replace hk:=Keep.below hb2;replace hxn:=hxn.keep hk;replace hxd:=hxd.keep hk;replace hyn:=hyn.keep hk;replace hyd:=hyd.keep hk;replace hb:=aB hb hb2;rw[hde];clear hde;go_wp2_with fail;refine(cU 0 _ _ hxd n9).mono ?_;rintro e3 w3 ⟨rfl,hb3⟩;replace X:=X.below hb3;replace Y:=Y.below hb3;replace R:=R.below hb3;replace cM:=aa X.k4 (aa Y.k4 R.g4);replace hk:=Keep.below hb3;replace hxn:=hxn.keep hk;replace hxd:=hxd.keep hk;replace hyn:=hyn.keep hk;replace hyd:=hyd.keep hk;replace hb:=aB hb hb3;have hdd:decide ((0:Int)=0)=true:=rfl;rw[hdd];clear hdd;go_wp2_with fail;replace hxn:=hxn.drew;replace hyn:=hyn.drew;replace hyd:=hyd.drew;replace X:=X.drew;replace Y:=Y.drew;replace R:=R.drew;replace hb:=hb.drew;replace cM:=aa X.k4 (aa Y.k4 R.g4);have n_R_X:w.heap.size+1+1≠w.heap.size:=by omega
 have n_R_Y:w.heap.size+1+1≠w.heap.size+1:=by omega
 go_region_held3 (fun w'=>C4 w' w.heap.size (.bool s) (.slice A k c) (.bool s') (.slice A' k' c')∧C4 w' (w.heap.size+1) (.bool t) (.slice C l e) (.bool t') (.slice C' l' e'))
  (first|(with_reducible exact⟨X.k4,Y.k4⟩)|(refine⟨?_,?_⟩<;>(repeat (first|with_reducible exact X.k4|with_reducible exact Y.k4|with_reducible refine fP n_R_X ?_|with_reducible refine fP n_R_Y ?_))))
  (first
   |(go_at_call 57;(with_reducible refine(f8 xn yd _ _ _ hxn hyd (by omega)).mono ?_);rintro e4 w4 ⟨v4,rfl,h4,hb4⟩;obtain⟨s4,A4,k4,c4,rfl⟩:=h4.form;replace X:=X.below hb4;replace Y:=Y.below hb4;replace R:=R.below hb4;replace cM:=aa X.k4 (aa Y.k4 R.g4);replace hk:=Keep.below hb4;replace hxn:=hxn.keep hk;replace hyn:=hyn.keep hk;replace hyd:=hyd.keep hk;(try replace h5:=h5.keep hk);replace hb:=aB hb hb4)
   |(go_at_call 63;(with_reducible refine(nI (xn*yd) yn _ _ _ h4 hyn (by omega) (by omega)).mono ?_);rintro e5 w5 ⟨v5,rfl,h5,hb5⟩;obtain⟨s5,A5,k5,c5,rfl⟩:=h5.form;replace X:=X.below hb5;replace Y:=Y.below hb5;replace R:=R.below hb5;replace cM:=aa X.k4 (aa Y.k4 R.g4);replace hk:=Keep.below hb5;replace hxn:=hxn.keep hk;replace hyn:=hyn.keep hk;replace hyd:=hyd.keep hk;(try replace h4:=h4.keep hk);replace hb:=aB hb hb5))
 all_goals (
  go_wp2_with fail;obtain⟨W6,eW6,R,hb,hk,ff⟩:=R.put4 hb (by omega) (.bool s5) (.slice A5 k5 c5) (.bool t') (.slice C' l' e') rfl rfl;replace X:=ff X (by omega);replace Y:=ff Y (by omega);replace h5:=h5.keep hk;replace hyd:=hyd.keep hk;rw[eW6];clear eW6;replace cM:=aa X.k4 (aa Y.k4 R.k4);exact bodyPost_ret (v:= .agg #[.bool s5,.slice A5 k5 c5,.bool t',.slice C' l' e']) (by simp[results,Tryz.results92,go_sem,R.k4]) rfl ⟨_,rfl,RatAt.of h5 hyd HE.out.1 HE.out.2,hb⟩;)
theorem V3 (x y:Rat) (vx vy:Value) (w:World) (hx:RatAt w vx x) (hy:RatAt w vy y) (hx1:x.den≠1) (hy1:y.den=1) (K:Nat) (bx:RL K x) (bY:RL K y) (hK:10*K+40≤aF):
  Calls Tryz.prog 92 #[vx,vy] w (eV w (x+y)):=by
 obtain⟨s,A,k,c,s',A',k',c',rfl⟩:=hx.form;obtain⟨t,C,l,e,t',C',l',e',rfl⟩:=hy.form;unfold aF at hK;have⟨bx1,bx2⟩:=bx;have⟨by1,by2⟩:=bY;obtain⟨e1,e2⟩:=UA (x:=x) hy1;have HE:Hid ((x+y).num=y.num*x.den+x.num∧aS (x+y)=x.den):=⟨e1,by rw[iS (by rw[e2];exact hx1),e2]⟩;have dy:aS y=0:=dH.2 hy1;clear e1 e2;obtain⟨W,eW,hb,X,Y,R⟩:=dK w [.bool s,.slice A k c,.bool s',.slice A' k' c'] 54 [.bool t,.slice C l e,.bool t',.slice C' l' e'] 54 [.bool false,.slice none 0 0,.bool false,.slice none 0 0] 54;have cM:=aa X.g4 (aa Y.g4 R.g4);go_enter Tryz.func92,Tryz.ntmps92;go_wp2_with fail;(try rw[eW]);clear eW;have hxn:IntAt W (.agg #[.bool s,.slice A k c]) x.num:=(hx.below hb).num;have hyd:IntAt W (.agg #[.bool t',.slice C' l' e']) 0:=by have:=(hy.below hb).den;rwa [dy] at this
 have hyn:IntAt W (.agg #[.bool t,.slice C l e]) y.num:=(hy.below hb).num;have hxd:IntAt W (.agg #[.bool s',.slice A' k' c']) (x.den:Int):=(hx.below hb).denN hx1;have hde:decide ((x.den:Int)=0)=false:=by have:=x.den_nz;simpa using this
 have hby:nl (x.den:Int).natAbs≤K:=bx2;clear dy hx1 hy1 by2 bY bx bx2;generalize x.num=xn at *;generalize y.num=yn at *;generalize (x.den:Int)=xd at *;have HDE:=Lib.hid hde;clear hde;have hml:=bZ yn xd K K by1 hby;refine(cU xd _ _ hxd (by omega)).mono ?_;rintro e1 w1 ⟨rfl,hb1⟩;replace X:=X.below hb1;replace Y:=Y.below hb1;replace R:=R.below hb1;replace cM:=aa X.k4 (aa Y.k4 R.g4);replace hk:=Keep.below hb1;replace hxn:=hxn.keep hk;replace hxd:=hxd.keep hk;replace hyn:=hyn.keep hk;replace hyd:=hyd.keep hk;replace hb:=aB hb hb1;rw[HDE.out];go_wp2_with fail;refine(cU xd _ _ hxd (by omega)).mono ?_;rintro e2 w2 ⟨rfl,hb2⟩;replace X:=X.below hb2;replace Y:=Y.below hb2;replace R:=R.below hb2;replace cM:=aa X.k4 (aa Y.k4 R.g4);replace hk:=Keep.below hb2;replace hxn:=hxn.keep hk;replace hxd:=hxd.keep hk;replace hyn:=hyn.keep hk;replace hyd:=hyd.keep hk;replace hb:=aB hb hb2;rw[HDE.out];go_wp2_with fail;refine(cU 0 _ _ hyd n9).mono ?_;rintro e3 w3 ⟨rfl,hb3⟩;replace X:=X.below hb3;replace Y:=Y.below hb3;replace R:=R.below hb3;replace cM:=aa X.k4 (aa Y.k4 R.g4);replace hk:=Keep.below hb3;replace hxn:=hxn.keep hk;replace hxd:=hxd.keep hk;replace hyn:=hyn.keep hk;replace hyd:=hyd.keep hk;replace hb:=aB hb hb3;have hdd:decide ((0:Int)=0)=true:=rfl;rw[hdd];clear hdd;go_wp2_with fail;replace hxn:=hxn.drew;replace hyn:=hyn.drew;replace hxd:=hxd.drew;replace X:=X.drew;replace Y:=Y.drew;replace R:=R.drew;replace hb:=hb.drew;replace cM:=aa X.k4 (aa Y.k4 R.g4);have n_R_X:w.heap.size+1+1≠w.heap.size:=by omega
 have n_R_Y:w.heap.size+1+1≠w.heap.size+1:=by omega
 go_region_held3 (fun w'=>C4 w' w.heap.size (.bool s) (.slice A k c) (.bool s') (.slice A' k' c')∧C4 w' (w.heap.size+1) (.bool t) (.slice C l e) (.bool t') (.slice C' l' e'))
  (first|(with_reducible exact⟨X.k4,Y.k4⟩)|(refine⟨?_,?_⟩<;>(repeat (first|with_reducible exact X.k4|with_reducible exact Y.k4|with_reducible refine fP n_R_X ?_|with_reducible refine fP n_R_Y ?_))))
  (first
   |(go_at_call 57;(with_reducible refine(f8 yn xd _ _ _ hyn hxd (by omega)).mono ?_);rintro e4 w4 ⟨v4,rfl,h4,hb4⟩;obtain⟨s4,A4,k4,c4,rfl⟩:=h4.form;replace X:=X.below hb4;replace Y:=Y.below hb4;replace R:=R.below hb4;replace cM:=aa X.k4 (aa Y.k4 R.g4);replace hk:=Keep.below hb4;replace hxn:=hxn.keep hk;replace hyn:=hyn.keep hk;replace hxd:=hxd.keep hk;(try replace h5:=h5.keep hk);replace hb:=aB hb hb4)
   |(go_at_call 63;(with_reducible refine(nI (yn*xd) xn _ _ _ h4 hxn (by omega) (by omega)).mono ?_);rintro e5 w5 ⟨v5,rfl,h5,hb5⟩;obtain⟨s5,A5,k5,c5,rfl⟩:=h5.form;replace X:=X.below hb5;replace Y:=Y.below hb5;replace R:=R.below hb5;replace cM:=aa X.k4 (aa Y.k4 R.g4);replace hk:=Keep.below hb5;replace hxn:=hxn.keep hk;replace hyn:=hyn.keep hk;replace hxd:=hxd.keep hk;(try replace h4:=h4.keep hk);replace hb:=aB hb hb5))
 all_goals (
  go_wp2_with fail;obtain⟨W6,eW6,R,hb,hk,ff⟩:=R.put4 hb (by omega) (.bool s5) (.slice A5 k5 c5) (.bool s') (.slice A' k' c') rfl rfl;replace X:=ff X (by omega);replace Y:=ff Y (by omega);replace h5:=h5.keep hk;replace hxd:=hxd.keep hk;rw[eW6];clear eW6;replace cM:=aa X.k4 (aa Y.k4 R.k4);exact bodyPost_ret (v:= .agg #[.bool s5,.slice A5 k5 c5,.bool s',.slice A' k' c']) (by simp[results,Tryz.results92,go_sem,R.k4]) rfl ⟨_,rfl,RatAt.of h5 hxd HE.out.1 HE.out.2,hb⟩;)
end Go.Proofs.YtbhplgdbfmifkaaGreatDoor
