/-
  Contracts of functions that the statement reaches, and plain laws: RatT, RatG, RatH, UniA, UniB, UniC, UniD, UniE, LawA, RatX, CmqA, UniF, UniG, NumL.
-/
import Derived.Test.YtbhplgdbfmifkaaGreatDoorI17
import Derived.Test.YtbhplgdbfmifkaaGreatDoorI18
import Derived.Test.YtbhplgdbfmifkaaGreatDoorI19
import Derived.Test.YtbhplgdbfmifkaaGreatDoorI25
import Derived.Test.YtbhplgdbfmifkaaGreatDoorI26
import Derived.Test.YtbhplgdbfmifkaaGreatDoorI27
import Derived.Test.YtbhplgdbfmifkaaGreatDoorI28
import Derived.Test.YtbhplgdbfmifkaaGreatDoorI30
set_option linter.unusedVariables false
set_option linter.unusedSimpArgs false
set_option maxHeartbeats 8000000
set_option maxRecDepth 100000
namespace Go.Proofs.YtbhplgdbfmifkaaGreatDoor
open Go.RowKit Sos
theorem I2 (x y:Rat) (vx vy:Value) (w:World) (hG:Glob w) (hx:RatAt w vx x) (hy:RatAt w vy y) (K:Nat) (bx:RL K x) (bY:RL K y) (hK:20*K+60≤aF):
  Calls Tryz.prog 92 #[vx,vy] w (eV w (x+y)):=by
 by_cases h1:x.den=1
 ·by_cases h2:y.den=1
  ·exact V0 x y vx vy w hx hy h1 h2 K bx bY (by omega)
  ·exact V1 x y vx vy w hx hy h1 h2 K bx bY (by omega)
 ·by_cases h2:y.den=1
  ·exact V3 x y vx vy w hx hy h1 h2 K bx bY (by omega)
  ·exact UZ x y vx vy w hG hx hy h1 h2 K bx bY hK
theorem OO (a b:Nat):nl (Nat.lcm a b)≤nl a+nl b:=by
 refine Nat.le_trans (aX ?_) (cJ a b);unfold Nat.lcm;exact Nat.div_le_self _ _
structure ComDen (qs:List Rat) (D:Int) (B:Nat):Prop where
 pos:0<D
 dvd:∀q∈qs,(q.den:Int)∣D
 nl_:nl D.natAbs≤B
def OP (w:World) (qs:List Rat) (B:Nat) (e:Ending) (w':World):Prop:=∃v D,e= .returned v∧IntAt w' v D∧ComDen qs D B∧Below w.heap.size w w'
theorem ComDen.skip {qs:List Rat} {D:Int} {j K:Nat} {q:Rat} (h:ComDen (qs.take j) D (1+j*K)) (hq:qs[j]? =some q) (hd:(q.den:Int)∣D):ComDen (qs.take (j+1)) D (1+(j+1)*K):=by
 refine⟨h.pos,fun x hx=> ?_,by have:=h.nl_;rw[Nat.succ_mul];omega⟩;rw[List.take_add_one,hq,Option.toList_some] at hx;rcases List.mem_append.1 hx with hx|hx
 ·exact h.dvd x hx
 ·simp at hx;subst hx;exact hd
theorem ComDen.lcm {qs:List Rat} {D:Int} {j K:Nat} {q:Rat} (h:ComDen (qs.take j) D (1+j*K)) (hq:qs[j]? =some q) (hK:nl q.den≤K):ComDen (qs.take (j+1)) ((Nat.lcm D.natAbs q.den:Nat):Int) (1+(j+1)*K):=by
 have hD:=h.pos;have h0:Nat.lcm D.natAbs q.den≠0:=Nat.lcm_ne_zero (by omega) q.den_nz;refine⟨by omega,fun x hx=> ?_,?_⟩
 ·rw[List.take_add_one,hq,Option.toList_some] at hx;rcases List.mem_append.1 hx with hx|hx
  ·have h1:=h.dvd x hx;refine Int.ofNat_dvd.2 (Nat.dvd_trans ?_ (Nat.dvd_lcm_left _ _));exact Int.ofNat_dvd_left.1 h1
  ·simp at hx;subst hx;exact Int.ofNat_dvd.2 (Nat.dvd_lcm_right _ _)
 ·rw[Int.natAbs_natCast,Nat.succ_mul];have:=OO D.natAbs q.den;have:=h.nl_;omega
theorem OQ (qs:List Rat) (v:Value) (w:World) (hG:Glob w) (hv:RatsAt w v qs) (K KB:Nat) (hK:∀q∈qs,RL K q) (hl:qs.length≤1073741824) (hKB:1+qs.length*K≤KB) (hKB1:K≤KB) (hKB2:5*KB+4≤aF):
  Calls Tryz.prog 162 #[v] w (OP w qs (1+qs.length*K)):=by
 obtain⟨A,c,rfl,hc⟩:=hv.form;have R:Bx (w.alloc (.cells #[.bool false,.slice none 0 0] 50)) (w.heap.size) [.bool false,.slice none 0 0] 50:=Bx.newAt w [.bool false,.slice none 0 0] 50 (w.heap.size) (by simp);have hb:Below w.heap.size w (w.alloc (.cells #[.bool false,.slice none 0 0] 50)):=(Below.refl _ _).alloc (by simp) _;go_enter Tryz.func162,Tryz.ntmps162;go_wp2_with fail;generalize w.alloc (.cells #[.bool false,.slice none 0 0] 50)=W at *;refine(jK 1 _ (by decide) (by decide)).mono ?_;rintro e1 w1 ⟨v1,rfl,h1,hb1⟩;obtain⟨s1,A1,k1,c1,rfl⟩:=h1.form;replace R:=R.below hb1;replace R_0:=R.cell 0 rfl;replace R_f0:=R.free 0;replace R_1:=R.cell 1 rfl;replace R_f1:=R.free 1;replace hk:=Keep.below hb1;replace hb:=aB hb hb1;go_wp2_with fail;have R_ltw1:=R.lt;have hszw1:=hb.size;replace R:=R.alloc (.cells #[.bool s1,.slice A1 k1 c1] 50);have C:=Bx.newAt w1 [.bool s1,.slice A1 k1 c1] 50 (w1.heap.size) (by simp);replace hb:=hb.alloc hb.size (.cells #[.bool s1,.slice A1 k1 c1] 50);replace hk:=Keep.alloc w1 (.cells #[.bool s1,.slice A1 k1 c1] 50);replace h1:=h1.keep hk;generalize w1.alloc (.cells #[.bool s1,.slice A1 k1 c1] 50)=w2 at *;replace R_0:=R.cell 0 rfl;replace R_1:=R.cell 1 rfl;replace C_0:=C.cell 0 rfl;replace C_1:=C.cell 1 rfl;have hC0:IntBx w2 w1.heap.size 1:=⟨_,_,_,_,C,h1⟩;have hR0:=R;have hb0:=hb;have hlt:=R_ltw1;clear R C h1 R_0 R_1 R_f0 R_f1 C_0 C_1 hk hb;go_loopg [9] qs.length (fun k i wr=>∃j D,Hid (j+k=qs.length)∧i= .int .i64 j∧IntBx wr w1.heap.size D∧ComDen (qs.take j) D (1+j*K)∧Bx wr w.heap.size [.bool false,.slice none 0 0] 50∧Below w.heap.size w wr)
 case atStart=>exact⟨0,1,by unfold Hid;omega,rfl,hC0,⟨by decide,(fun q h=>by simp at h),by rw[show nl (1:Int).natAbs=1 from gM (by decide) (by decide)];omega⟩,hR0,hb0⟩
 case round=>
  clear hC0 hR0 hb0;obtain⟨j,D,HJ,rfl,hC,hcd,R,hb⟩:=hrel;generalize wr=wx at *;have hj0:(0:Int)≤(j:Int):=by omega
  have hjK:1+j*K≤KB:=by
   have:j*K≤qs.length*K:=Nat.mul_le_mul_right _ (by have:=HJ.out;omega);omega
  have hDK:=hcd.nl_;have hDp:=hcd.pos;obtain⟨sc,Ac,kc,cc,C,hD⟩:=id hC;cases gk with
  |zero=>
   have hj:j=qs.length:=HJ.out;have hcd':ComDen qs D (1+qs.length*K):=by
    have:=hcd;rw[hj,List.take_length] at this;exact this
   replace R_0:=R.cell 0 rfl;replace R_f0:=R.free 0;replace R_1:=R.cell 1 rfl;replace R_f1:=R.free 1;replace C_0:=C.cell 0 rfl;replace C_f0:=C.free 0;replace C_1:=C.cell 1 rfl;replace C_f1:=C.free 1;have hjn:¬(j:Int)<(qs.length:Int):=by omega
   clear hcd hj HJ;go_wp2_with fail;have R_ltwx:=R.lt;have C_ltwx:=C.lt;have hszwx:=hb.size;replace C:=(C.far 0 (.bool sc) (show w.heap.size≠w1.heap.size by omega)).far 1 (.slice Ac kc cc) (show w.heap.size≠w1.heap.size by omega);replace hk:=gE (s:=sc) (u:= .slice Ac kc cc) hb (by omega) R;clear R hb;obtain⟨-, -,R,hb,hk⟩:=hk;replace hD:=hD.keep hk;generalize (wx.setCell ⟨w.heap.size,0,none⟩ (.bool sc)).setCell ⟨w.heap.size,1,none⟩ (.slice Ac kc cc)=W6 at *;replace R_0:=R.cell 0 rfl;replace R_1:=R.cell 1 rfl;replace C_0:=C.cell 0 rfl;replace C_1:=C.cell 1 rfl;exact bodyPost_ret (v:= .agg #[.bool sc,.slice Ac kc cc]) (by simp[results,Tryz.results162,go_sem,R_0,R_1]) rfl ⟨_,D,rfl,hD,hcd',hb⟩
  |succ k=>
   obtain⟨q,hq⟩:∃q,qs[j]? =some q:=⟨_,List.getElem?_eq_getElem (by have:=HJ.out;omega)⟩;obtain⟨b,s,B,m,d,s',B',m',d',rfl,hbl,g0,g1,g2,g3,hi⟩:=(hv.below hb).at_ hq;have hKq:=hK q (List.mem_of_getElem? hq);have hKd:=lO q;have hKq2:=hKq.2;have hj1:(j:Int)<(qs.length:Int):=by have:=HJ.out;omega
   have hsk:=fun hd=>hcd.skip hq hd;have hlc:=hcd.lcm hq hKq.2;have HQ:=Lib.hid hq;clear hq;go_wp2_with fail;have R_ltwx:=R.lt;have C_ltwx:=C.lt;have hszwx:=hb.size;replace R:=R.alloc (.cells #[.bool s,.slice B m d,.bool s',.slice B' m' d'] 54);replace C:=C.alloc (.cells #[.bool s,.slice B m d,.bool s',.slice B' m' d'] 54);have X:=Bx.newAt wx [.bool s,.slice B m d,.bool s',.slice B' m' d'] 54 (wx.heap.size) (by simp);replace hb:=hb.alloc hb.size (.cells #[.bool s,.slice B m d,.bool s',.slice B' m' d'] 54);replace hk:=Keep.alloc wx (.cells #[.bool s,.slice B m d,.bool s',.slice B' m' d'] 54);replace hi:=hi.keep hk;replace hD:=hD.keep hk;generalize wx.alloc (.cells #[.bool s,.slice B m d,.bool s',.slice B' m' d'] 54)=wa at *;replace R_0:=R.cell 0 rfl;replace R_1:=R.cell 1 rfl;replace C_0:=C.cell 0 rfl;replace C_1:=C.cell 1 rfl;replace X_0:=X.cell 0 rfl;replace X_1:=X.cell 1 rfl;replace X_2:=X.cell 2 rfl;replace X_3:=X.cell 3 rfl;have hdn:=hi.den;refine(cU _ _ _ hdn (by unfold aF at hKB2;omega)).mono ?_;rintro e2 w2' ⟨rfl,hb2⟩;replace R:=R.below hb2;replace R_0:=R.cell 0 rfl;replace R_1:=R.cell 1 rfl;replace C:=C.below hb2;replace C_0:=C.cell 0 rfl;replace C_1:=C.cell 1 rfl;replace X:=X.below hb2;replace X_0:=X.cell 0 rfl;replace X_1:=X.cell 1 rfl;replace X_2:=X.cell 2 rfl;replace X_3:=X.cell 3 rfl;replace hk:=Keep.below hb2;replace hi:=hi.keep hk;replace hD:=hD.keep hk;replace hdn:=hdn.keep hk;replace hb:=aB hb hb2;by_cases h0:aS q=0
   ·have hdd:decide (aS q=0)=true:=by simpa using h0
    rw[hdd];have hd1:=hsk (by rw[dH.1 h0];exact Int.one_dvd _);clear hdd h0 hsk hlc;go_wp2_with fail;go_roundg k
    case rel=>exact⟨j+1,D,by have:=HJ.out;unfold Hid;omega,by go_num,⟨_,_,_,_,C,hD⟩,hd1,R,hb⟩
    case measure=>omega
   ·have hdd:decide (aS q=0)=false:=by simpa using h0
    have hde:aS q=q.den:=iS (fun e=>h0 (dH.2 e));rw[hdd];clear hdd;go_wp2_with fail;refine(JI _ _ _ _ _ hdn hD (by unfold aF at hKB2;omega) (by unfold aF at hKB2;omega)).mono ?_;rintro e3 w3 ⟨rfl,hb3⟩;replace R:=R.below hb3;replace R_0:=R.cell 0 rfl;replace R_1:=R.cell 1 rfl;replace C:=C.below hb3;replace C_0:=C.cell 0 rfl;replace C_f0:=C.free 0;replace C_1:=C.cell 1 rfl;replace C_f1:=C.free 1;replace X:=X.below hb3;replace X_0:=X.cell 0 rfl;replace X_1:=X.cell 1 rfl;replace X_2:=X.cell 2 rfl;replace X_3:=X.cell 3 rfl;replace hk:=Keep.below hb3;replace hi:=hi.keep hk;replace hD:=hD.keep hk;replace hdn:=hdn.keep hk;replace hb:=aB hb hb3;by_cases he:aS q=D
    ·have hdd:decide (aS q=D)=true:=by simpa using he
     rw[hdd];have hd1:=hsk (by rw[←he,hde];exact Int.dvd_refl _);clear hdd h0 hsk hlc hde he;go_wp2_with fail;go_roundg k
     case rel=>exact⟨j+1,D,by have:=HJ.out;unfold Hid;omega,by go_num,⟨_,_,_,_,C,hD⟩,hd1,R,hb⟩
     case measure=>omega
    ·have hdd:decide (aS q=D)=false:=by simpa using he
     rw[hdd];have hlm:=fun W hG h1 h2=>JK D (aS q) (.agg #[.bool sc,.slice Ac kc cc]) (.agg #[.bool s',.slice B' m' d']) W hG h1 h2 (by omega) h0 KB (by omega) (by omega) hKB2;have e5:(aS q).natAbs=q.den:=by rw[hde];rfl
     rw[e5] at hlm;unfold bW at hlm;clear hdd hsk hde he e5;generalize ((Nat.lcm D.natAbs q.den:Nat):Int)=E at *;go_wp2_with fail;refine(hlm _ (hG.below hb) hD hdn).mono ?_;rintro e4 w4 ⟨v4,rfl,h4,hb4⟩;obtain⟨s4,A4,k4,c4,rfl⟩:=h4.form;replace R:=R.below hb4;replace R_0:=R.cell 0 rfl;replace R_1:=R.cell 1 rfl;replace C:=C.below hb4;replace C_0:=C.cell 0 rfl;replace C_f0:=C.free 0;replace C_1:=C.cell 1 rfl;replace C_f1:=C.free 1;replace X:=X.below hb4;replace X_0:=X.cell 0 rfl;replace X_1:=X.cell 1 rfl;replace X_2:=X.cell 2 rfl;replace X_3:=X.cell 3 rfl;replace hk:=Keep.below hb4;replace hb:=aB hb hb4;clear hlm;go_wp2_with fail;have R_ltw4:=R.lt;have C_ltw4:=C.lt;have X_ltw4:=X.lt;have hszw4:=hb.size;replace R:=(R.far 0 (.bool s4) (show w1.heap.size≠w.heap.size by omega)).far 1 (.slice A4 k4 c4) (show w1.heap.size≠w.heap.size by omega);replace X:=(X.far 0 (.bool s4) (show w1.heap.size≠wx.heap.size by omega)).far 1 (.slice A4 k4 c4) (show w1.heap.size≠wx.heap.size by omega);replace hk:=gE (s:=s4) (u:= .slice A4 k4 c4) hb (by omega) C;clear C hb;obtain⟨-, -,C,hb,hk⟩:=hk;replace h4:=h4.keep hk;generalize (w4.setCell ⟨w1.heap.size,0,none⟩ (.bool s4)).setCell ⟨w1.heap.size,1,none⟩ (.slice A4 k4 c4)=W6 at *;replace R_0:=R.cell 0 rfl;replace R_1:=R.cell 1 rfl;replace C_0:=C.cell 0 rfl;replace C_1:=C.cell 1 rfl;replace X_0:=X.cell 0 rfl;replace X_1:=X.cell 1 rfl;replace X_2:=X.cell 2 rfl;replace X_3:=X.cell 3 rfl;go_roundg k
     case rel=>exact⟨j+1,E,by have:=HJ.out;unfold Hid;omega,by go_num,⟨_,_,_,_,C,h4⟩,hlc,R,hb⟩
     case measure=>omega
theorem OJ (q:Rat):q=(q.num:Rat)/(q.den:Rat):=by
 conv=>lhs;rw[←Rat.mkRat_self q,Rat.mkRat_eq_div]
theorem OK (q:Rat):(q.den:Rat)≠0:=fun e=>q.den_nz (by exact_mod_cast e)
theorem tS (q:Rat) (D:Int) (h:(q.den:Int)∣D):((q.num*D.tdiv (q.den:Int):Int):Rat)=q*D:=by
 obtain⟨t,rfl⟩:=h;have h0:(q.den:Int)≠0:=by have:=q.den_nz;omega
 rw[Int.mul_tdiv_cancel_left _ h0,Rat.intCast_mul,Rat.intCast_mul,Rat.intCast_natCast];have h1:=OJ q;have h2:=OK q;generalize (q.num:Rat)=n at *;generalize (q.den:Rat)=d at *;rw[h1];grind
theorem OL (q:Rat) (D:Int) (h:q.den=1):((q.num*D:Int):Rat)=q*D:=by
 rw[Rat.intCast_mul];congr 1;exact Rat.ext rfl h.symm
def OM (w:World) (q:Rat) (D:Int) (B:Nat) (e:Ending) (w':World):Prop:=∃v n,e= .returned v∧IntAt w' v n∧(n:Rat)=q*D∧nl n.natAbs≤B∧Below w.heap.size w w'
theorem ON (q:Rat) (D:Int) (v u:Value) (w:World) (hq:RatAt w v q) (hD:IntAt w u D) (hdv:(q.den:Int)∣D) (K KB:Nat) (hK:RL K q) (hKD:nl D.natAbs≤KB) (hKB:5*K+KB+8≤aF):
  Calls Tryz.prog 163 #[v,u] w (OM w q D (K+KB)):=by
 unfold aF at hKB;obtain⟨s,A,k,c,s',A',k',c',rfl⟩:=hq.form;obtain⟨sD,AD,kD,cD,rfl⟩:=hD.form;obtain⟨hK1,hK2⟩:=hK;have hdl:=lO q;obtain⟨W,eW,hb,B1,B2,R⟩:=dK w [.bool s,.slice A k c,.bool s',.slice A' k' c'] 54 [.bool sD,.slice AD kD cD] 50 [.bool false,.slice none 0 0] 50;have cM:=aa B1.g4 (aa B2.g2 R.g2);go_enter Tryz.func163,Tryz.ntmps163;go_wp2_with fail;(try rw[eW]);clear eW;have hn:=(hq.below hb).num;have hd:=(hq.below hb).den;replace hD:=hD.below hb;refine(cU _ _ _ hd (by omega)).mono ?_;rintro e1 w1 ⟨rfl,hb1⟩;replace B1:=B1.below hb1;replace B2:=B2.below hb1;replace R:=R.below hb1;replace cM:=aa B1.k4 (aa B2.k2 R.g2);replace hk:=Keep.below hb1;replace hn:=hn.keep hk;replace hd:=hd.keep hk;replace hD:=hD.keep hk;replace hb:=aB hb hb1;by_cases h1:aS q=0
 ·have hdd:decide (aS q=0)=true:=by simpa using h1
  rw[hdd];have hres:=OL q D (dH.1 h1);have hbn:=bZ q.num D _ _ hK1 hKD;have hmul:=fun W v u h1 h2=>f8 q.num D v u W h1 h2 (by omega);unfold bW at hmul;generalize q.num*D=n at *;have HR:=Lib.hid hres;clear hdd h1 hres;go_wp2_with fail;refine(hmul _ _ _ hn hD).mono ?_;rintro e2 w2 ⟨v2,rfl,h2,hb2⟩;obtain⟨s2,A2,k2,c2,rfl⟩:=h2.form;replace B1:=B1.below hb2;replace B2:=B2.below hb2;replace R:=R.below hb2;replace cM:=aa B1.k4 (aa B2.k2 R.g2);replace hb:=aB hb hb2;clear hmul;go_wp2_with fail;obtain⟨W6,eW6,R,hb,hk,ff⟩:=R.put2 hb (by omega) (.bool s2) (.slice A2 k2 c2) rfl rfl;replace B1:=ff B1 (by omega);replace B2:=ff B2 (by omega);replace h2:=h2.keep hk;rw[eW6];clear eW6;replace cM:=aa B1.k4 (aa B2.k2 R.k2);exact bodyPost_ret (v:= .agg #[.bool s2,.slice A2 k2 c2]) (by simp[results,Tryz.results163,go_sem,R.k2]) rfl ⟨_,n,rfl,h2,HR.out,hbn,hb⟩
 ·have hdd:decide (aS q=0)=false:=by simpa using h1
  have hde:aS q=q.den:=iS (fun e=>h1 (dH.2 e));rw[hdd];have hres:=tS q D hdv;rw[←hde] at hres;have hbt:=gB D (aS q) _ hKD;have hbn:=bZ q.num (D.tdiv (aS q)) _ _ hK1 hbt;have hquo:=fun W v u h1' h2=>iC D (aS q) v u W h1' h2 h1 (by omega);have hmul:=fun W v u h1 h2=>f8 q.num (D.tdiv (aS q)) v u W h1 h2 (by omega);unfold bW at hmul hquo;generalize q.num*D.tdiv (aS q)=n at *;generalize D.tdiv (aS q)=t at *;have HR:=Lib.hid hres;clear hdd h1 hres hde;go_wp2_with fail;replace hn:=hn.drew;replace hd:=hd.drew;replace hD:=hD.drew;replace B1:=B1.drew;replace B2:=B2.drew;replace R:=R.drew;replace hb:=hb.drew;replace cM:=aa B1.k4 (aa B2.k2 R.g2);have n_R_B1:w.heap.size+1+1≠w.heap.size:=by omega
  have n_R_B2:w.heap.size+1+1≠w.heap.size+1:=by omega
  go_region_held3 (fun w'=>C4 w' w.heap.size (.bool s) (.slice A k c) (.bool s') (.slice A' k' c')∧C2 w' (w.heap.size+1) (.bool sD) (.slice AD kD cD))
   (first|(with_reducible exact⟨B1.k4,B2.k2⟩)|(refine⟨?_,?_⟩<;>(repeat (first|with_reducible exact B1.k4|with_reducible exact B2.k2|with_reducible refine fP n_R_B1 ?_|with_reducible refine dF n_R_B2 ?_))))
   (first
    |(go_at_call 120;(with_reducible refine(hquo _ _ _ hD hd).mono ?_);rintro e4 w4 ⟨v4,rfl,h4,hb4⟩;obtain⟨s4,A4,k4,c4,rfl⟩:=h4.form;replace B1:=B1.below hb4;replace B2:=B2.below hb4;replace R:=R.below hb4;replace cM:=aa B1.k4 (aa B2.k2 R.g2);replace hk:=Keep.below hb4;replace hn:=hn.keep hk;replace hd:=hd.keep hk;replace hD:=hD.keep hk;(try replace h5:=h5.keep hk);replace hb:=aB hb hb4)
    |(go_at_call 57;(with_reducible refine(hmul _ _ _ hn h4).mono ?_);rintro e5 w5 ⟨v5,rfl,h5,hb5⟩;obtain⟨s5,A5,k5,c5,rfl⟩:=h5.form;replace B1:=B1.below hb5;replace B2:=B2.below hb5;replace R:=R.below hb5;replace cM:=aa B1.k4 (aa B2.k2 R.g2);replace hk:=Keep.below hb5;replace hn:=hn.keep hk;replace hd:=hd.keep hk;replace hD:=hD.keep hk;(try replace h4:=h4.keep hk);replace hb:=aB hb hb5))
  clear hquo hmul;go_wp2_with fail;obtain⟨W6,eW6,R,hb,hk,ff⟩:=R.put2 hb (by omega) (.bool s5) (.slice A5 k5 c5) rfl rfl;replace B1:=ff B1 (by omega);replace B2:=ff B2 (by omega);replace h5:=h5.keep hk;rw[eW6];clear eW6;replace cM:=aa B1.k4 (aa B2.k2 R.k2);exact bodyPost_ret (v:= .agg #[.bool s5,.slice A5 k5 c5]) (by simp[results,Tryz.results163,go_sem,R.k2]) rfl ⟨_,n,rfl,h5,HR.out,hbn,hb⟩
def aT (ns:List Int) (d:Int):List Rat:=ns.map (fun n:Int=>(n:Rat)/(d:Rat))
theorem lF (n d:Int) (K:Nat) (hn:nl n.natAbs≤K) (hd:nl d.natAbs≤K) (h1:1≤K):RL K ((n:Rat)/d):=by
 rw[←Rat.divInt_eq_div];unfold RL;rw[Rat.num_divInt,Rat.den_divInt];constructor
 ·refine Nat.le_trans (aX ?_) hn;rw[Int.natAbs_ediv_of_dvd]
  ·refine Nat.le_trans (Nat.div_le_self _ _) ?_;rw[Int.natAbs_mul];have:d.sign.natAbs≤1:=by
    rcases Int.lt_trichotomy d 0 with h|h|h
    ·rw[Int.sign_eq_neg_one_of_neg h];decide
    ·rw[h];decide
    ·rw[Int.sign_eq_one_of_pos h];decide
   calc d.sign.natAbs*n.natAbs≤1*n.natAbs:=Nat.mul_le_mul_right _ this
    _=n.natAbs:=Nat.one_mul _
  ·exact Int.dvd_mul_of_dvd_right (Int.gcd_dvd_right ..)
 ·split
  ·rw[gM (by decide) (by decide)];exact h1
  ·exact Nat.le_trans (aX (Nat.div_le_self _ _)) hd
def aI (qs:List Rat) (D:Int):List Int:=qs.map (fun q=>q.num*D.tdiv (q.den:Int))
theorem lD (qs:List Rat) (D:Int) (h:∀q∈qs,(q.den:Int)∣D) (i:Nat):((cf (aI qs D) i:Int):Rat)=cf qs i*D:=by
 unfold aI cf;rw[List.getD_eq_getElem?_getD,List.getD_eq_getElem?_getD,List.getElem?_map];cases hq:qs[i]? with
 |none=>
  show((0:Int):Rat)=0*(D:Rat)
  rw[Rat.intCast_zero];grind
 |some q=>exact tS q D (h q (List.mem_of_getElem? hq))
theorem iK (qs:List Rat) (D:Int) (K B:Nat) (hK:∀q∈qs,RL K q) (hD:nl D.natAbs≤B):∀n∈aI qs D,nl n.natAbs≤K+B:=by
 intro n hn;unfold aI at hn;obtain⟨q,hq,rfl⟩:=List.mem_map.1 hn;exact bZ _ _ _ _ (hK q hq).1 (gB _ _ _ hD)
def OI (w:World) (qs:List Rat) (B:Nat) (e:Ending) (w':World):Prop:=
 ∃b n c vd D,e= .returned (.tuple #[.slice (some ⟨b,0,none⟩) n c,vd])∧w.heap.size≤b∧WholeAt w' (.slice (some ⟨b,0,none⟩) n c) (aH aG (aI qs D))∧IntAt w' vd D∧ComDen qs D B∧Below w.heap.size w w'
theorem EB (qs:List Rat) (v:Value) (w:World) (hG:Glob w) (hv:RatsAt w v qs) (K KB:Nat) (hK:∀q∈qs,RL K q) (hl:qs.length≤1073741824) (hKB:1+qs.length*K≤KB) (hKB1:K≤KB) (hKB2:6*KB+8≤aF):
  Calls Tryz.prog 117 #[v] w (OI w qs (1+qs.length*K)):=by
 obtain⟨A,c,rfl,hc⟩:=hv.form;have R:Bx (w.alloc (.cells #[.bool false,.slice none 0 0] 50)) (w.heap.size) [.bool false,.slice none 0 0] 50:=Bx.newAt w [.bool false,.slice none 0 0] 50 (w.heap.size) (by simp);have hb:Below w.heap.size w (w.alloc (.cells #[.bool false,.slice none 0 0] 50)):=(Below.refl _ _).alloc (by simp) _;go_enter Tryz.func117,Tryz.ntmps117;go_wp2_with fail;generalize w.alloc (.cells #[.bool false,.slice none 0 0] 50)=W at *;refine(OQ qs _ _ (hG.below hb) (hv.below hb) K KB hK hl hKB hKB1 (by omega)).mono ?_;rintro e1 w1 ⟨v1,D,rfl,h1,hcd,hb1⟩;obtain⟨s1,A1,k1,c1,rfl⟩:=h1.form;replace R:=R.below hb1;replace R_0:=R.cell 0 rfl;replace R_f0:=R.free 0;replace R_1:=R.cell 1 rfl;replace R_f1:=R.free 1;replace hk:=Keep.below hb1;replace hb:=aB hb hb1;have hDn:=hcd.nl_;have hzl:(aI qs D).length=qs.length:=List.length_map _;have HZL:=Lib.hid hzl;have hnn:=iK qs D K _ hK hDn;clear hzl;go_wp2_with (at_make;refine eZ rfl rfl 50 _ 2 32 Tryz.underlying47 jZ rfl (by decide) qs.length rfl rfl rfl rfl (by omega) (by omega) ?_;intro w2 hz2 hr2 hb2);have R0:OwnW w2 (w1.heap.size+1) (List.replicate qs.length 0):=by
  have:=OwnW.made hr2;rw[World.size_alloc] at this;exact this
 have hlt:=R.lt;have hb12:Below w1.heap.size w1 w2:=((Below.refl _ _).alloc (Nat.le_refl _) _).trans (hb2.mono (by simp));have hC0:IntBx w2 w1.heap.size D:=⟨_,_,_,_,(Bx.new w1 [.bool s1,.slice A1 k1 c1] 50).below hb2,h1.below hb12⟩;have hR0:=R.below hb12;have hb0:=aB hb hb12;clear hr2 hz2 hb2 hb12 R h1 hb R_0 R_1 R_f0 R_f1 hk;go_loopg [15] qs.length (fun k i wr=>∃j,Hid (j+k=qs.length)∧i= .int .i64 j∧OwnW wr (w1.heap.size+1) ((aI qs D).take j++List.replicate k 0)∧IntBx wr w1.heap.size D∧Bx wr w.heap.size [.bool false,.slice none 0 0] 50∧Below w.heap.size w wr)
 case atStart=>exact⟨0,by unfold Hid;omega,rfl,by simpa using R0,hC0,hR0,hb0⟩
 case round=>
  clear R0 hC0 hR0 hb0;obtain⟨j,HJ,rfl,N,hC,R,hb⟩:=hrel;generalize wr=wy at *;have hj0:(0:Int)≤(j:Int):=by omega
  obtain⟨sc,Ac,kc,cc,C,hD⟩:=id hC;cases gk with
  |zero=>
   have hj:j=qs.length:=HJ.out;subst hj;rw[List.replicate_zero,List.append_nil,List.take_of_length_le (by rw[HZL.out];exact Nat.le_refl _)] at N;have hw:=N.whole qs.length (by rw[HZL.out];exact Nat.le_refl _);have htr:=fun W h=>oJ (aI qs D) (some ⟨w1.heap.size+1,0,none⟩) qs.length W h (K+(1+qs.length*K)) hnn (by unfold aF at hKB2;omega) (by rw[HZL.out];omega);rw[HZL.out] at htr hw;replace hw:=hw.drew;replace hC:=hC.below (Below.refl _ _).drew;go_wp2_with fail;replace R:=R.drew;replace C:=C.drew;replace hD:=hD.drew;replace hb:=hb.drew;have n_R_C:w.heap.size≠w1.heap.size:=by omega
   replace R_0:=R.cell 0 rfl;replace R_f0:=R.free 0;replace R_1:=R.cell 1 rfl;replace R_f1:=R.free 1;replace C_0:=C.cell 0 rfl;replace C_f0:=C.free 0;replace C_1:=C.cell 1 rfl;replace C_f1:=C.free 1;obtain⟨T,HT⟩:∃T,Hid (aH aG (aI qs D)=T):=⟨_,rfl⟩;rw[HT.out] at htr
   go_region_held3 (fun w'=>w'.cell? ⟨w1.heap.size,0,none⟩=some (.bool sc)∧w'.cell? ⟨w1.heap.size,1,none⟩=some (.slice Ac kc cc))
    (first|(with_reducible exact⟨C_0,C_1⟩)|(with_reducible exact⟨(aK _ _ _ _ _ _ n_R_C).trans ((aK _ _ _ _ _ _ n_R_C).trans C_0),(aK _ _ _ _ _ _ n_R_C).trans ((aK _ _ _ _ _ _ n_R_C).trans C_1)⟩))
    (first
     |(go_at_call 67;(with_reducible refine(htr _ hw).mono ?_);rintro e6 w6 ⟨rfl,h6,hb6⟩;replace hD:=hD.below hb6;replace R:=R.below hb6;replace C:=C.below hb6;replace C_0:=C.cell 0 rfl;replace C_1:=C.cell 1 rfl;replace R_0:=R.cell 0 rfl;replace R_1:=R.cell 1 rfl;replace R_f0:=R.free 0;replace R_f1:=R.free 1;replace hb:=aB hb hb6))
   go_wp2_with fail;obtain⟨-,hst⟩:=IntBx.stored (w:=w6) (b:=w.heap.size) (m:=0) ⟨_,_,_,_,R,IntAt.zero _⟩ hD;have z6:=h6.step hst (fun b e=>by injection e with e;injection e with e;omega);have zm:=hD.keep hst.1;have zb:=dE hb hst (Nat.le_refl _);obtain⟨z0,z1, -, -, -⟩:=gE (s:=sc) (u:= .slice Ac kc cc) hb (Nat.le_refl _) R;clear hst;generalize (w6.setCell ⟨w.heap.size,0,none⟩ (.bool sc)).setCell ⟨w.heap.size,1,none⟩ (.slice Ac kc cc)=W6 at *;exact bodyPost_ret (v:= .tuple #[.slice (some ⟨w1.heap.size+1,0,none⟩) T.length qs.length,.agg #[.bool sc,.slice Ac kc cc]]) (by simp[results,Tryz.results117,go_sem,z0,z1]) rfl ⟨_,_,_,_,D,rfl,by omega,by rw[HT.out];exact z6,zm,hcd,zb⟩
  |succ k=>
   obtain⟨q,hq⟩:∃q,qs[j]? =some q:=⟨_,List.getElem?_eq_getElem (by have:=HJ.out;omega)⟩;obtain⟨b,s,B,m,d,s',B',m',d',rfl,hbl,g0,g1,g2,g3,hi⟩:=(hv.below hb).at_ hq;have hKq:=hK q (List.mem_of_getElem? hq);have hdv:=hcd.dvd q (List.mem_of_getElem? hq);have hj1:(j:Int)<(qs.length:Int):=by have:=HJ.out;omega
   have hym:(aI qs D)[j]? =some (q.num*D.tdiv (q.den:Int)):=by unfold aI;rw[List.getElem?_map,hq];rfl
   have hfl:=kF (ys:=aI qs D) (z:=(0:Int)) (j:=j) (k:=k+1) (by rw[HZL.out];exact HJ.out);have hfs:=kC (z:=(0:Int)) (k:=k) hym;have hgx:j<((aI qs D).take j++List.replicate (k+1) 0).length:=by rw[hfl,HZL.out];have:=HJ.out;omega
   have hun:∀n:Int,(n:Rat)=q*D→n=q.num*D.tdiv (q.den:Int):=fun n h=>Rat.intCast_inj.1 (h.trans (tS q D hdv).symm);have HUN:=Lib.hid hun;have HFS:=Lib.hid hfs;clear hym hfl hfs hq hun;have C_c10:∀o0:Obj,(wy.alloc o0).cell? ⟨w1.heap.size,0,none⟩=some (.bool sc):=fun o0=>(C.alloc o0).cell 0 rfl;have C_g10:∀o0:Obj,(wy.alloc o0).frozen? ⟨w1.heap.size,0,none⟩=false:=fun o0=>(C.alloc o0).free 0;have C_c11:∀o0:Obj,(wy.alloc o0).cell? ⟨w1.heap.size,1,none⟩=some (.slice Ac kc cc):=fun o0=>(C.alloc o0).cell 1 rfl;have C_g11:∀o0:Obj,(wy.alloc o0).frozen? ⟨w1.heap.size,1,none⟩=false:=fun o0=>(C.alloc o0).free 1;go_wp2_with fail;replace N:=N.alloc (.cells #[.bool s,.slice B m d,.bool s',.slice B' m' d'] 54);have C_ltwy:=C.lt;have R_ltwy:=R.lt;have hszwy:=hb.size;replace C:=C.alloc (.cells #[.bool s,.slice B m d,.bool s',.slice B' m' d'] 54);replace R:=R.alloc (.cells #[.bool s,.slice B m d,.bool s',.slice B' m' d'] 54);have X:=Bx.newAt wy [.bool s,.slice B m d,.bool s',.slice B' m' d'] 54 (wy.heap.size) (by simp);replace hb:=hb.alloc hb.size (.cells #[.bool s,.slice B m d,.bool s',.slice B' m' d'] 54);replace hk:=Keep.alloc wy (.cells #[.bool s,.slice B m d,.bool s',.slice B' m' d'] 54);replace hi:=hi.keep hk;replace hD:=hD.keep hk;generalize wy.alloc (.cells #[.bool s,.slice B m d,.bool s',.slice B' m' d'] 54)=wa at *;replace C_0:=C.cell 0 rfl;replace C_1:=C.cell 1 rfl;replace R_0:=R.cell 0 rfl;replace R_1:=R.cell 1 rfl;replace X_0:=X.cell 0 rfl;replace X_1:=X.cell 1 rfl;replace X_2:=X.cell 2 rfl;replace X_3:=X.cell 3 rfl;clear C_c10 C_c11 C_g10 C_g11 g0 g1 g2 g3 hC;refine(ON q D _ _ _ hi hD hdv K (1+qs.length*K) hKq hDn (by omega)).mono ?_;rintro e2 w2' ⟨v2,n,rfl,h2,hn2, -,hb2⟩;have hn3:=HUN.out n hn2;subst hn3;clear hn2 HUN;obtain⟨s2,A2,k2,c2,rfl⟩:=h2.form;replace N:=N.below hb2;replace C:=C.below hb2;replace R:=R.below hb2;replace hD:=hD.below hb2;replace hb:=aB hb hb2;obtain⟨s',B',l',d',q0,q1, -⟩:=N.at_ (List.getElem?_eq_getElem hgx);have f0:=N.free (j*2);have f1:=N.free (j*2+1);generalize q.num*D.tdiv (q.den:Int)=y at *;go_wp2_with fail;obtain⟨hp,hst⟩:=N.stored hgx h2;rw[HFS.out] at hp;have zC:=IntBx.step ⟨_,_,_,_,C,hD⟩ hst (by omega);have zR:Bx _ w.heap.size [.bool false,.slice none 0 0] 50:=(hst.2.1 w.heap.size (by omega)).trans R;have hb':=dE hb hst (by omega);go_roundg k
   case rel=>exact⟨j+1,by have:=HJ.out;unfold Hid;omega,by go_num,hp,zC,zR,hb'⟩
   case measure=>omega
def vl (ls:List (List UInt8)):Bool:=decide (ls.length≤65∧ls.all rd=true∧(aE ls).getLast?≠some 0)
theorem E8 (qs:List Rat):aN qs↔qs.getLast?≠some 0:=⟨fun h e=>h 0 e rfl,fun h a ha e=>h (by rw[ha,e])⟩
theorem fD {ls:List (List UInt8)} (h:vl ls=true):ls.length≤65∧ls.all rd=true∧aN (aE ls):=by
 unfold vl at h;rw[decide_eq_true_iff] at h;exact⟨h.1,h.2.1,(E8 _).2 h.2.2⟩
theorem gR {qs:List Rat} {D:Int} (hD:0<D) (hdv:∀q∈qs,(q.den:Int)∣D) (h:aN qs):aN (aI qs D):=by
 intro a ha e;unfold aI at ha;rw[List.getLast?_map] at ha;cases hq:qs.getLast? with
 |none=>rw[hq] at ha;simp at ha
 |some q=>
  rw[hq] at ha;simp only[Option.map_some,Option.some.injEq] at ha;have h1:=tS q D (hdv q (List.mem_of_getLast? hq));rw[ha,e,Rat.intCast_zero] at h1;have h2:(D:Rat)≠0:=fun e=>(show D≠0 by omega) (Rat.intCast_inj.1 e);rcases Rat.mul_eq_zero.1 h1.symm with h3|h3
  ·exact h q hq h3
  ·exact h2 h3
theorem tR (n c:Nat) (A:Option Addr) (w:World) (hn:n≤1073741824):Calls Tryz.prog 114 #[.slice A n c] w fun e w'=>e= .returned (.bool (decide (n≤65)))∧w'=w:=by
 by_cases h:n≤65
 ·have h':(n:Int)≤65:=by omega
  have hd:decide (n≤65)=true:=by simpa using h
  rw[hd];go_enter Tryz.func114,Tryz.ntmps114;go_wp2;go_ret;exact⟨rfl,rfl⟩
 ·have h':¬(n:Int)≤65:=by omega
  have hd:decide (n≤65)=false:=by simpa using h
  rw[hd];go_enter Tryz.func114,Tryz.ntmps114;go_wp2;go_ret;exact⟨rfl,rfl⟩
theorem ComDen.mono {qs:List Rat} {D:Int} {B B':Nat} (h:ComDen qs D B) (hB:B≤B'):ComDen qs D B':=⟨h.pos,h.dvd,Nat.le_trans h.nl_ hB⟩
def EA (w:World) (ls:List (List UInt8)) (B:Nat) (e:Ending) (w':World):Prop:=
 ∃v vd ns D,e= .returned (.tuple #[v,vd,.bool (vl ls)])∧WholeAt w' v ns∧IntAt w' vd D∧(vl ls=true→ns=aI (aE ls) D∧ComDen (aE ls) D B)∧Below w.heap.size w w'
theorem mJ (ls:List (List UInt8)) (v:Value) (w:World) (hG:Glob w) (hv:StrsAt w v ls) (hl:ls.length≤1073741824) (hll:ls.length≤65→∀l∈ls,l.length≤1073741824) (K KB L:Nat) (hK:ls.length≤65→∀q∈aE ls,RL K q) (hL:ls.length≤65→ls.length≤L) (hL1:1≤L) (hKB:1+L*K≤KB) (hKB2:6*KB+8≤aF):
  Calls Tryz.prog 53 #[v] w (EA w ls (1+L*K)):=by
 have hKL:K≤L*K:=Nat.le_mul_of_pos_left K hL1;obtain⟨A,c,rfl,hc⟩:=hv.form;obtain⟨W,eW,hb,R⟩:=bA w [.bool false,.slice none 0 0] 50;have cM:=R.g2;go_enter Tryz.func53,Tryz.ntmps53;go_wp2_with fail;(try rw[eW]);clear eW;refine(jK 1 _ (by decide) (by decide)).mono ?_;rintro e1 w1 ⟨v1,rfl,h1,hb1⟩;obtain⟨s1,A1,k1,c1,rfl⟩:=h1.form;replace R:=R.below hb1;replace cM:=R.g2;replace hb:=aB hb hb1;go_wp2_with fail;have R_l:=R.lt;have hsz_:=hb.size;obtain⟨w2,ew2,hA,O⟩:=bA w1 [.bool s1,.slice A1 k1 c1] 50;replace R:=R.below hA;replace hk:=Keep.below hA;replace hb:=aB hb hA;replace h1:=h1.keep hk;rw[ew2];clear ew2;replace cM:=aa R.g2 O.g2;refine(tR ls.length c A _ hl).mono ?_;rintro e3 w3 ⟨rfl,rfl⟩;by_cases h65:ls.length≤65
 ·have hd:decide (ls.length≤65)=true:=by simpa using h65
  rw[hd];clear hd;go_wp2_with fail;refine(OU ls _ _ (hG.below hb) (hv.below hb) hl (hll h65)).mono ?_;rintro e4 w4 ⟨v4,rfl,h4,hb4⟩;replace R:=R.below hb4;replace O:=O.below hb4;replace cM:=aa R.g2 O.g2;replace hk:=Keep.below hb4;replace h1:=h1.keep hk;replace hb:=aB hb hb4;cases hall:ls.all rd with
  |false=>
   have hvl:vl ls=false:=by unfold vl;rw[decide_eq_false_iff_not];exact fun h=>by rw[hall] at h;exact absurd h.2.1 (by simp)
   have HV:=Lib.hid hvl;clear hvl h4;go_wp2_with fail;go_region
   all_goals (
    go_wp2_with fail;have R_l:=R.lt;have O_l:=O.lt;have hsz_:=hb.size;obtain⟨W6,eW6,R,hb,hk,ff⟩:=R.put2 hb (by omega) (.bool s1) (.slice A1 k1 c1) rfl rfl;replace O:=ff O (by omega);replace h1:=h1.keep hk;rw[eW6];clear eW6;replace cM:=aa R.k2 O.k2;exact bodyPost_ret (v:= .tuple #[.slice none 0 0,.agg #[.bool s1,.slice A1 k1 c1],.bool false]) (by simp[results,Tryz.results53,go_sem,R.k2]) rfl ⟨_,_,[],1,by rw[HV.out],WholeAt.nil _ _ _,h1.drew,(fun h=>by rw[HV.out] at h;cases h),hb.drew⟩)
  |true=>
   have hrs:=h4 hall;obtain⟨A4,c4,rfl,hc4⟩:=hrs.form;have hrl:(aE ls).length=ls.length:=List.length_map _;have HAL:=Lib.hid hall;have hK':=hK h65;clear h4 hall;generalize hqs:aE ls=qs at *;have HQS:=Lib.hid hqs;have hr1:qs.length≤65:=by omega
   have hr2:qs.length≤L:=by have:=hL h65;omega
   clear hqs hrl;by_cases h0:qs.length=0
   ·have hq0:qs=[]:=List.eq_nil_of_length_eq_zero h0;have htr:aN qs:=fun a h=>by rw[hq0] at h;simp at h
    have hvl:vl ls=true:=by unfold vl;rw[decide_eq_true_iff,HQS.out,HAL.out,hq0];exact⟨h65,rfl,by simp⟩
    have h0':¬(0:Int)<(qs.length:Int):=by omega
    clear hq0 h0;go_wp2_with fail;refine(EB qs _ _ (hG.below hb) hrs K KB hK' (by omega) (by have:qs.length*K≤L*K:=Nat.mul_le_mul_right _ hr2;omega) (by omega) hKB2).mono ?_;rintro e5 w5 ⟨b5,n5,c5,vd5,D,rfl,hb5l,h5,hd5,hcd,hb5⟩;rw[nZ (gR hcd.pos hcd.dvd htr)] at h5;obtain⟨A5,c9,e5,hc5⟩:=h5.form;simp only[Value.slice.injEq] at e5;obtain⟨-,rfl, -⟩:=e5;have hRl:=R.lt;obtain⟨s6,A6,k6,c6,rfl⟩:=hd5.form;replace R:=R.below hb5;replace O:=O.below hb5;replace cM:=aa R.g2 O.g2;replace hk:=Keep.below hb5;replace h1:=h1.keep hk;replace hb:=aB hb hb5;have R_c10:∀o0:Obj,(w5.alloc o0).cell? ⟨w.heap.size,0,none⟩=some (.bool false):=fun o0=>(R.alloc o0).cell 0 rfl;have R_g10:∀o0:Obj,(w5.alloc o0).frozen? ⟨w.heap.size,0,none⟩=false:=fun o0=>(R.alloc o0).free 0;have R_c11:∀o0:Obj,(w5.alloc o0).cell? ⟨w.heap.size,1,none⟩=some (.slice none 0 0):=fun o0=>(R.alloc o0).cell 1 rfl;have R_g11:∀o0:Obj,(w5.alloc o0).frozen? ⟨w.heap.size,1,none⟩=false:=fun o0=>(R.alloc o0).free 1;have hcd':=hcd.mono (show 1+qs.length*K≤1+L*K by have:qs.length*K≤L*K:=Nat.mul_le_mul_right _ hr2;omega);have HN:=Lib.hid (show vl ls=true∧aI qs D=aI (aE ls) D∧ComDen (aE ls) D (1+L*K) from⟨hvl,by rw[HQS.out],by rw[HQS.out];exact hcd'⟩);generalize aI qs D=ns at *;clear hcd hcd' htr hvl hrs;go_wp2_with fail;have R_l:=R.lt;have O_l:=O.lt;have hsz_:=hb.size;obtain⟨w7,ew7,hA,X⟩:=bA w5 [.bool s6,.slice A6 k6 c6] 50;replace R:=R.below hA;replace O:=O.below hA;replace hk:=Keep.below hA;replace hb:=aB hb hA;replace h1:=h1.keep hk;replace hd5:=hd5.keep hk;rw[ew7];clear ew7;replace cM:=aa R.g2 (aa O.k2 X.g2);replace h5:=h5.below hA;go_region
    all_goals (
     go_wp2_with fail;obtain⟨-,hst⟩:=IntBx.stored (w:=w7) (b:=w.heap.size) (m:=0) ⟨_,_,_,_,R,IntAt.zero _⟩ hd5;have z5:=h5.step hst (fun b e=>by injection e with e;injection e with e;omega);have R_l:=R.lt;have O_l:=O.lt;have X_l:=X.lt;have hsz_:=hb.size;obtain⟨W6,eW6,R,hb,hk,ff⟩:=R.put2 hb (by omega) (.bool s6) (.slice A6 k6 c6) rfl rfl;replace O:=ff O (by omega);replace X:=ff X (by omega);replace hd5:=hd5.keep hk;rw[eW6];rw[eW6] at z5;clear eW6;replace cM:=aa R.k2 (aa O.k2 X.k2);exact bodyPost_ret (v:= .tuple #[.slice (some ⟨b5,0,none⟩) ns.length c5,.agg #[.bool s6,.slice A6 k6 c6],.bool true]) (by simp[results,Tryz.results53,go_sem,R.k2]) rfl ⟨_,_,ns,D,by rw[HN.out.1],z5.drew,hd5.drew,(fun _=>HN.out.2),hb.drew⟩)
   ·obtain⟨m,hm⟩:∃m,qs.length=m+1:=⟨qs.length-1,by omega⟩;have h0':(0:Int)<(qs.length:Int):=by omega
    have e1:(qs.length:Int)-1=(m:Int):=by omega
    have i0:(0:Int)≤(m:Int):=by omega
    have i1:(m:Int)<(qs.length:Int):=by omega
    obtain⟨q,hq⟩:∃q,qs[m]? =some q:=⟨_,List.getElem?_eq_getElem (by omega)⟩;obtain⟨b,s,B,l,d,s',B',l',d',rfl,hbl,g0,g1,g2,g3,hi⟩:=hrs.at_ hq;have hla:qs.getLast?=some q:=by rw[List.getLast?_eq_getElem?,hm];exact hq
    have hKq:=(hK' q (List.mem_of_getElem? hq)).1;have hvv:vl ls=decide (q≠0):=by
     unfold vl;rw[HQS.out,HAL.out,hla,Bool.eq_iff_iff,decide_eq_true_iff,decide_eq_true_iff];exact⟨fun h e=>h.2.2 (by rw[e]),fun h=>⟨h65,rfl,fun e=>h (by injection e)⟩⟩
    have HVV:=Lib.hid hvv;have HLA:=Lib.hid hla;clear hq hm h0 hvv hla;go_wp2_with fail;refine(EE q _ _ hi (by unfold aF at hKB2;omega)).mono ?_;rintro e8 w8 ⟨rfl,hb8⟩;replace R:=R.below hb8;replace O:=O.below hb8;replace cM:=aa R.g2 O.g2;replace hk:=Keep.below hb8;replace h1:=h1.keep hk;replace hb:=aB hb hb8;replace hrs:=hrs.below hb8;by_cases hz:q=0
    ·have hd:decide (q=0)=true:=by simpa using hz
     have hvl:vl ls=false:=by rw[HVV.out];simpa using hz
     have HV:=Lib.hid hvl;rw[hd];clear hd hvl hz;go_wp2_with fail;go_region
     all_goals (
      go_wp2_with fail;have R_l:=R.lt;have O_l:=O.lt;have hsz_:=hb.size;obtain⟨W6,eW6,R,hb,hk,ff⟩:=R.put2 hb (by omega) (.bool s1) (.slice A1 k1 c1) rfl rfl;replace O:=ff O (by omega);replace h1:=h1.keep hk;rw[eW6];clear eW6;replace cM:=aa R.k2 O.k2;exact bodyPost_ret (v:= .tuple #[.slice none 0 0,.agg #[.bool s1,.slice A1 k1 c1],.bool false]) (by simp[results,Tryz.results53,go_sem,R.k2]) rfl ⟨_,_,[],1,by rw[HV.out],WholeAt.nil _ _ _,h1.drew,(fun h=>by rw[HV.out] at h;cases h),hb.drew⟩)
    ·have hd:decide (q=0)=false:=by simpa using hz
     have hvl:vl ls=true:=by rw[HVV.out];simpa using hz
     have htr:aN qs:=(E8 qs).2 (by rw[HLA.out];intro e;injection e with e;exact hz e);rw[hd];clear hd hz g0 g1 g2 g3 hi;go_wp2_with fail;refine(EB qs _ _ (hG.below hb) hrs K KB hK' (by omega) (by have:qs.length*K≤L*K:=Nat.mul_le_mul_right _ hr2;omega) (by omega) hKB2).mono ?_;rintro e5 w5 ⟨b5,n5,c5,vd5,D,rfl,hb5l,h5,hd5,hcd,hb5⟩;rw[nZ (gR hcd.pos hcd.dvd htr)] at h5;obtain⟨A5,c9,e5,hc5⟩:=h5.form;simp only[Value.slice.injEq] at e5;obtain⟨-,rfl, -⟩:=e5;have hRl:=R.lt;obtain⟨s6,A6,k6,c6,rfl⟩:=hd5.form;replace R:=R.below hb5;replace O:=O.below hb5;replace cM:=aa R.g2 O.g2;replace hk:=Keep.below hb5;replace h1:=h1.keep hk;replace hb:=aB hb hb5;have R_c10:∀o0:Obj,(w5.alloc o0).cell? ⟨w.heap.size,0,none⟩=some (.bool false):=fun o0=>(R.alloc o0).cell 0 rfl;have R_g10:∀o0:Obj,(w5.alloc o0).frozen? ⟨w.heap.size,0,none⟩=false:=fun o0=>(R.alloc o0).free 0;have R_c11:∀o0:Obj,(w5.alloc o0).cell? ⟨w.heap.size,1,none⟩=some (.slice none 0 0):=fun o0=>(R.alloc o0).cell 1 rfl;have R_g11:∀o0:Obj,(w5.alloc o0).frozen? ⟨w.heap.size,1,none⟩=false:=fun o0=>(R.alloc o0).free 1;have hcd':=hcd.mono (show 1+qs.length*K≤1+L*K by have:qs.length*K≤L*K:=Nat.mul_le_mul_right _ hr2;omega);have HN:=Lib.hid (show vl ls=true∧aI qs D=aI (aE ls) D∧ComDen (aE ls) D (1+L*K) from⟨hvl,by rw[HQS.out],by rw[HQS.out];exact hcd'⟩);generalize aI qs D=ns at *;clear hcd hcd' htr hvl hrs;go_wp2_with fail;have R_l:=R.lt;have O_l:=O.lt;have hsz_:=hb.size;obtain⟨w7,ew7,hA,X⟩:=bA w5 [.bool s6,.slice A6 k6 c6] 50;replace R:=R.below hA;replace O:=O.below hA;replace hk:=Keep.below hA;replace hb:=aB hb hA;replace h1:=h1.keep hk;replace hd5:=hd5.keep hk;rw[ew7];clear ew7;replace cM:=aa R.g2 (aa O.k2 X.g2);replace h5:=h5.below hA;go_region
     all_goals (
      go_wp2_with fail;obtain⟨-,hst⟩:=IntBx.stored (w:=w7) (b:=w.heap.size) (m:=0) ⟨_,_,_,_,R,IntAt.zero _⟩ hd5;have z5:=h5.step hst (fun b e=>by injection e with e;injection e with e;omega);have R_l:=R.lt;have O_l:=O.lt;have X_l:=X.lt;have hsz_:=hb.size;obtain⟨W6,eW6,R,hb,hk,ff⟩:=R.put2 hb (by omega) (.bool s6) (.slice A6 k6 c6) rfl rfl;replace O:=ff O (by omega);replace X:=ff X (by omega);replace hd5:=hd5.keep hk;rw[eW6];rw[eW6] at z5;clear eW6;replace cM:=aa R.k2 (aa O.k2 X.k2);exact bodyPost_ret (v:= .tuple #[.slice (some ⟨b5,0,none⟩) ns.length c5,.agg #[.bool s6,.slice A6 k6 c6],.bool true]) (by simp[results,Tryz.results53,go_sem,R.k2]) rfl ⟨_,_,ns,D,by rw[HN.out.1],z5.drew,hd5.drew,(fun _=>HN.out.2),hb.drew⟩)
 ·have hd:decide (ls.length≤65)=false:=by simpa using h65
  have hvl:vl ls=false:=by unfold vl;rw[decide_eq_false_iff_not];exact fun h=>h65 h.1
  have HV:=Lib.hid hvl;rw[hd];clear hd hvl;go_wp2_with fail;go_region
  all_goals (
   go_wp2_with fail;have R_l:=R.lt;have O_l:=O.lt;have hsz_:=hb.size;obtain⟨W6,eW6,R,hb,hk,ff⟩:=R.put2 hb (by omega) (.bool s1) (.slice A1 k1 c1) rfl rfl;replace O:=ff O (by omega);replace h1:=h1.keep hk;rw[eW6];clear eW6;replace cM:=aa R.k2 O.k2;exact bodyPost_ret (v:= .tuple #[.slice none 0 0,.agg #[.bool s1,.slice A1 k1 c1],.bool false]) (by simp[results,Tryz.results53,go_sem,R.k2]) rfl ⟨_,_,[],1,by rw[HV.out],WholeAt.nil _ _ _,h1.drew,(fun h=>by rw[HV.out] at h;cases h),hb.drew⟩)
theorem eK (qs:List Rat) (D:Int):(aI qs D).length=qs.length:=List.length_map _
theorem E7 (f:Nat→Int) (n M:Nat) (h:∀k,k<n→(f k).natAbs≤M):(aU f n).natAbs≤n*M:=by
 induction n with
 |zero=>simp[aU]
 |succ n ih=>
  rw[aU,Nat.succ_mul];have h1:=ih (fun k hk=>h k (by omega));have h2:=h n (by omega);have h3:=Int.natAbs_add_le (aU f n) (f n);omega
end Go.Proofs.YtbhplgdbfmifkaaGreatDoor
namespace Go.Proofs.YtbhplgdbfmifkaaGreatDoor
open Sos Lib
theorem eO {K:Nat} (h:1≤K):RL K 0:=⟨by show nl 0≤K;rw[cC];omega,by show nl 1≤K;exact Nat.le_trans (bI (by decide)) h⟩
theorem bV {K L:Nat} {q:Rat} (h:RL K q) (hl:K≤L):RL L q:=⟨Nat.le_trans h.1 hl,Nat.le_trans h.2 hl⟩
theorem FJ {n k:Nat} (h:(decDigits n).length≤k) (hk:k≤18):nl n≤1:=by
 refine bI ?_;have h1:=qE (mG n);rw[j0] at h1;have h2:10^(decDigits n).length≤10^18:=Nat.pow_le_pow_right (by decide) (by omega);have h3:10^18<BN^1:=by decide
 omega
theorem yE {t:List UInt8} {q:Rat} (h:aR t=some q) (hl:t.length≤18):RL 1 q:=by
 have e:=kV h;have hlen:(aO q).length≤18:=by rw[e];exact hl
 unfold aO at hlen;rw[List.length_append,List.length_append] at hlen;refine⟨FJ (k:=18) (by omega) (by decide),?_⟩;by_cases h1:q.den=1
 ·rw[h1];exact bI (by decide)
 ·rw[if_neg h1,List.length_cons] at hlen;exact FJ (k:=18) (by omega) (by decide)
theorem fU {ls:List (List UInt8)} (h:∀l∈ls,l.length≤18):∀q∈aE ls,RL 1 q:=fun q hq=>by
 obtain⟨l,hl,rfl⟩:=List.mem_map.1 hq;cases hr:aR l with
 |none=>exact eO (Nat.le_refl 1)
 |some q=>exact yE hr (h l hl)
end Go.Proofs.YtbhplgdbfmifkaaGreatDoor
namespace Go.Proofs.YtbhplgdbfmifkaaGreatDoor
open Go.RowKit Sos
theorem V6 (x y:Rat) (g h:Nat) (hg:g=Nat.gcd x.num.natAbs y.den) (hh:h=Nat.gcd y.num.natAbs x.den):
  (x*y).num=x.num.tdiv (g:Int)*y.num.tdiv (h:Int)∧((x*y).den:Int)=(x.den:Int).tdiv (h:Int)*(y.den:Int).tdiv (g:Int):=by
 subst hg hh;show(Rat.mul x y).num=_∧((Rat.mul x y).den:Int)=_
 unfold Rat.mul;refine⟨?_,?_⟩
 ·simp only[Int.divExact_eq_tdiv]
 ·simp only[Nat.divExact_eq_div];rw[←Int.ofNat_tdiv,←Int.ofNat_tdiv];simp
def V7 (w:World) (a b:Int) (e:Ending) (w':World):Prop:=∃v u,e= .returned (.tuple #[v,u])∧IntAt w' v a∧IntAt w' u b∧Below w.heap.size w w'
theorem I3 (n d:Int) (vn vd:Value) (w:World) (hG:Glob w) (hn:IntAt w vn n) (hd:IntAt w vd d) (hn0:n≠0) (g:Nat) (hg:g=Nat.gcd n.natAbs d.natAbs) (K:Nat) (bn:nl n.natAbs≤K) (bd:nl d.natAbs≤K) (hK:10*K+10≤aF):
  Calls Tryz.prog 69 #[vn,vd] w (V7 w (n.tdiv g) (d.tdiv g)):=by
 obtain⟨s1,A1,k1,c1,rfl⟩:=hn.form;obtain⟨s2,A2,k2,c2,rfl⟩:=hd.form;have hg0:(g:Int)≠0:=by
  have:=Nat.gcd_pos_of_pos_left d.natAbs (show 0<n.natAbs by omega);omega
 have hgl:nl g≤K:=by rw[hg];exact qN _ _ _ (by omega) bn
 unfold aF at hK;obtain⟨W,eW,hb,X,Y,R,S⟩:=xF w [.bool s1,.slice A1 k1 c1] 50 [.bool s2,.slice A2 k2 c2] 50 [.bool false,.slice none 0 0] 50 [.bool false,.slice none 0 0] 50;have cM:=aa X.g2 (aa Y.g2 (aa R.g2 S.g2));go_enter Tryz.func69,Tryz.ntmps69;go_wp2_with fail;(try rw[eW]);clear eW;replace hn:=hn.below hb;replace hd:=hd.below hb;refine(jL d _ _ hd (by omega)).mono ?_;rintro e3 w3 ⟨rfl,hb3⟩;replace X:=X.below hb3;replace Y:=Y.below hb3;replace R:=R.below hb3;replace S:=S.below hb3;replace cM:=aa X.k2 (aa Y.k2 (aa R.g2 S.g2));replace hk:=Keep.below hb3;replace hn:=hn.keep hk;replace hd:=hd.keep hk;replace hb:=aB hb hb3;by_cases h1:d=1
 ·have hdd:decide (d=1)=true:=decide_eq_true h1;have hgg:g=1:=by rw[hg,h1];simp
  have E1:Hid (n.tdiv g=n∧d.tdiv g=d):=by unfold Hid;rw[hgg];exact⟨Int.tdiv_one n,Int.tdiv_one d⟩
  rw[hdd];clear hdd hgg hg hg0 h1;go_wp2_with fail;go_region
  all_goals (
   go_wp2_with fail;obtain⟨U0,eU0,R,hb,hk,ff⟩:=R.put2 hb (by omega) (.bool s1) (.slice A1 k1 c1) rfl rfl;replace X:=ff X (by omega);replace Y:=ff Y (by omega);replace S:=ff S (by omega);replace hn:=hn.keep hk;replace hd:=hd.keep hk;obtain⟨W6,eW6,S,hb,hk,ff⟩:=S.put2 hb (by omega) (.bool s2) (.slice A2 k2 c2) rfl rfl;replace X:=ff X (by omega);replace Y:=ff Y (by omega);replace R:=ff R (by omega);replace hn:=hn.keep hk;replace hd:=hd.keep hk;rw[eU0,eW6];clear eU0 eW6;replace cM:=aa X.k2 (aa Y.k2 (aa R.k2 S.k2));exact bodyPost_ret (v:= .tuple #[.agg #[.bool s1,.slice A1 k1 c1],.agg #[.bool s2,.slice A2 k2 c2]]) (by simp[results,Tryz.results69,go_sem,R.k2,S.k2]) rfl ⟨_,_,rfl,by rw[E1.out.1];exact hn,by rw[E1.out.2];exact hd,hb.drew⟩
  )
 ·have hdd:decide (d=1)=false:=decide_eq_false h1;rw[hdd];clear hdd h1;go_wp2_with fail;refine(mT n d _ _ _ (hG.below hb) hn hd K bn bd (by unfold aF;omega)).mono ?_;rintro e4 w4 ⟨v4,rfl,h4,hb4⟩;obtain⟨s4,A4,k4,c4,rfl⟩:=h4.form;replace X:=X.below hb4;replace Y:=Y.below hb4;replace R:=R.below hb4;replace S:=S.below hb4;replace cM:=aa X.k2 (aa Y.k2 (aa R.g2 S.g2));replace hk:=Keep.below hb4;replace hn:=hn.keep hk;replace hd:=hd.keep hk;replace hb:=aB hb hb4;rw[←hg] at h4;clear hg;go_wp2_with fail;have X_l:=X.lt;have Y_l:=Y.lt;have R_l:=R.lt;have S_l:=S.lt;have hsz_:=hb.size;obtain⟨w5,ew5,hA,G⟩:=bA w4 [.bool s4,.slice A4 k4 c4] 50;replace X:=X.below hA;replace Y:=Y.below hA;replace R:=R.below hA;replace S:=S.below hA;replace hk:=Keep.below hA;replace hb:=aB hb hA;replace h4:=h4.keep hk;replace hn:=hn.keep hk;replace hd:=hd.keep hk;rw[ew5];clear ew5;replace cM:=aa X.k2 (aa Y.k2 (aa R.g2 (aa S.g2 G.k2)));have hq1:=fun W h1 h2=>iC n g (.agg #[.bool s1,.slice A1 k1 c1]) (.agg #[.bool s4,.slice A4 k4 c4]) W h1 h2 hg0 (by show nl n.natAbs+4*nl g+4≤_;omega);have hq2:=fun W h1 h2=>iC d g (.agg #[.bool s2,.slice A2 k2 c2]) (.agg #[.bool s4,.slice A4 k4 c4]) W h1 h2 hg0 (by show nl d.natAbs+4*nl g+4≤_;omega);replace hn:=hn.drew;replace hd:=hd.drew;replace h4:=h4.drew;replace X:=X.drew;replace Y:=Y.drew;replace R:=R.drew;replace S:=S.drew;replace G:=G.drew;replace hb:=hb.drew;replace cM:=aa X.k2 (aa Y.k2 (aa R.g2 (aa S.g2 G.k2)));have n_R_X:w.heap.size+1+1≠w.heap.size:=by omega
  have n_R_Y:w.heap.size+1+1≠w.heap.size+1:=by omega
  have n_R_G:w.heap.size+1+1≠w4.heap.size:=by omega
  have n_S_X:w.heap.size+1+1+1≠w.heap.size:=by omega
  have n_S_Y:w.heap.size+1+1+1≠w.heap.size+1:=by omega
  have n_S_G:w.heap.size+1+1+1≠w4.heap.size:=by omega
  go_region_held3 (fun w'=>C2 w' w.heap.size (.bool s1) (.slice A1 k1 c1)∧C2 w' (w.heap.size+1) (.bool s2) (.slice A2 k2 c2)∧C2 w' w4.heap.size (.bool s4) (.slice A4 k4 c4))
   (first|(with_reducible exact⟨X.k2,Y.k2,G.k2⟩)|(refine⟨?_,?_,?_⟩<;>(repeat (first|with_reducible exact X.k2|with_reducible exact Y.k2|with_reducible exact G.k2|with_reducible refine dF n_R_X ?_|with_reducible refine dF n_R_Y ?_|with_reducible refine dF n_R_G ?_|with_reducible refine dF n_S_X ?_|with_reducible refine dF n_S_Y ?_|with_reducible refine dF n_S_G ?_))))
   (first
    |(go_at_call 120;(with_reducible refine(hq1 _ hn h4).mono ?_);rintro e7 w7 ⟨v7,rfl,h7,hb7⟩;obtain⟨s7,A7,k7,c7,rfl⟩:=h7.form;replace X:=X.below hb7;replace Y:=Y.below hb7;replace R:=R.below hb7;replace S:=S.below hb7;replace G:=G.below hb7;replace cM:=aa X.k2 (aa Y.k2 (aa R.g2 (aa S.g2 G.k2)));replace hk:=Keep.below hb7;replace hn:=hn.keep hk;replace hd:=hd.keep hk;replace h4:=h4.keep hk;(try replace h8:=h8.keep hk);replace hb:=aB hb hb7)
    |(go_at_call 120;(with_reducible refine(hq2 _ hd h4).mono ?_);rintro e8 w8 ⟨v8,rfl,h8,hb8⟩;obtain⟨s8,A8,k8,c8,rfl⟩:=h8.form;replace X:=X.below hb8;replace Y:=Y.below hb8;replace R:=R.below hb8;replace S:=S.below hb8;replace G:=G.below hb8;replace cM:=aa X.k2 (aa Y.k2 (aa R.g2 (aa S.g2 G.k2)));replace hk:=Keep.below hb8;replace hn:=hn.keep hk;replace hd:=hd.keep hk;replace h4:=h4.keep hk;(try replace h7:=h7.keep hk);replace hb:=aB hb hb8))
  all_goals (
   go_wp2_with fail;have X_l:=X.lt;have Y_l:=Y.lt;have R_l:=R.lt;have S_l:=S.lt;have G_l:=G.lt;have hsz_:=hb.size;obtain⟨U0,eU0,R,hb,hk,ff⟩:=R.put2 hb (by omega) (.bool s7) (.slice A7 k7 c7) rfl rfl;replace X:=ff X (by omega);replace Y:=ff Y (by omega);replace S:=ff S (by omega);replace G:=ff G (by omega);replace h7:=h7.keep hk;replace h8:=h8.keep hk;obtain⟨W6,eW6,S,hb,hk,ff⟩:=S.put2 hb (by omega) (.bool s8) (.slice A8 k8 c8) rfl rfl;replace X:=ff X (by omega);replace Y:=ff Y (by omega);replace R:=ff R (by omega);replace G:=ff G (by omega);replace h7:=h7.keep hk;replace h8:=h8.keep hk;rw[eU0,eW6];clear eU0 eW6;replace cM:=aa X.k2 (aa Y.k2 (aa R.k2 (aa S.k2 G.k2)));exact bodyPost_ret (v:= .tuple #[.agg #[.bool s7,.slice A7 k7 c7],.agg #[.bool s8,.slice A8 k8 c8]]) (by simp[results,Tryz.results69,go_sem,R.k2,S.k2]) rfl ⟨_,_,rfl,h7,h8,hb⟩
  )
theorem V8 (x y:Rat) (vx vy:Value) (w:World) (hG:Glob w) (hx:RatAt w vx x) (hy:RatAt w vy y) (h1:¬(x.den=1∧y.den=1)) (K:Nat) (bx:RL K x) (bY:RL K y) (hK:10*K+20≤aF):
  Calls Tryz.prog 27 #[vx,vy] w (eV w (x*y)):=by
 obtain⟨s1,A1,k1,c1,s2,A2,k2,c2,rfl⟩:=hx.form;obtain⟨s3,A3,k3,c3,s4,A4,k4,c4,rfl⟩:=hy.form;unfold aF at hK;obtain⟨g,hg⟩:∃g,g=Nat.gcd x.num.natAbs y.den:=⟨_,rfl⟩;obtain⟨h,hh⟩:∃h,h=Nat.gcd y.num.natAbs x.den:=⟨_,rfl⟩;have HP:=Lib.hid (V6 x y g h hg hh);have⟨bx1,bx2⟩:=bx;have⟨by1,by2⟩:=bY;have hdx:=fun W h=>I4 x (.agg #[.bool s1,.slice A1 k1 c1,.bool s2,.slice A2 k2 c2]) W h (by omega);have hdy:=fun W h=>I4 y (.agg #[.bool s3,.slice A3 k3 c3,.bool s4,.slice A4 k4 c4]) W h (by omega);have hc1:=fun W u hG h1 h2 hn0=>I3 x.num y.den (.agg #[.bool s1,.slice A1 k1 c1]) u W hG h1 h2 hn0 g hg K bx1 by2 (by unfold aF;omega);have hc2:=fun W u hG h1 h2 hn0=>I3 y.num x.den (.agg #[.bool s3,.slice A3 k3 c3]) u W hG h1 h2 hn0 h hh K by1 bx2 (by unfold aF;omega);have ba1:=gB x.num g K bx1;have ba2:=gB y.num h K by1;have bb1:=gB (y.den:Int) g K by2;have bb2:=gB (x.den:Int) h K bx2;have bxd:=lO x;have byd:=lO y;have hdd1:aS x=0→aS y≠0:=fun e1 e2=>h1 ⟨dH.1 e1,dH.1 e2⟩;have hz0:x.num=0∨y.num=0→x*y=0:=fun h=>by
  rcases h with h|h
  ·rw[Rat.num_eq_zero.1 h,Rat.zero_mul]
  ·rw[Rat.num_eq_zero.1 h,Rat.mul_zero]
 have HZ:=Lib.hid hz0;clear hz0 h1 hg hh;obtain⟨W,eW,hb,X,Y,R⟩:=dK w [.bool s1,.slice A1 k1 c1,.bool s2,.slice A2 k2 c2] 54 [.bool s3,.slice A3 k3 c3,.bool s4,.slice A4 k4 c4] 54 [.bool false,.slice none 0 0,.bool false,.slice none 0 0] 54;have cM:=aa X.g4 (aa Y.g4 R.g4);go_enter Tryz.func27,Tryz.ntmps27;go_wp2_with fail;(try rw[eW]);clear eW;have hxn:=(hx.below hb).num;have hyn:=(hy.below hb).num;generalize x.num.tdiv g=a1 at *;generalize y.num.tdiv h=a2 at *;generalize (y.den:Int).tdiv g=b1 at *;generalize (x.den:Int).tdiv h=b2 at *;refine(cU x.num _ _ hxn (by omega)).mono ?_;rintro e5 w5 ⟨rfl,hb5⟩;replace X:=X.below hb5;replace Y:=Y.below hb5;replace R:=R.below hb5;replace cM:=aa X.k4 (aa Y.k4 R.g4);replace hk:=Keep.below hb5;replace hxn:=hxn.keep hk;replace hyn:=hyn.keep hk;replace hb:=aB hb hb5;by_cases hx0:x.num=0
 ·have HQ:=Lib.hid (HZ.out (.inl hx0));rw[show decide (x.num=0)=true from decide_eq_true hx0];clear hx0;go_wp2_with fail;obtain⟨W6,eW6,R,hb,hk,ff⟩:=R.put4 hb (by omega) (.bool false) (.slice none 0 0) (.bool false) (.slice none 0 0) rfl rfl;replace X:=ff X (by omega);replace Y:=ff Y (by omega);rw[eW6];clear eW6;replace cM:=aa X.k4 (aa Y.k4 R.k4);exact bodyPost_ret (v:= .agg #[.bool false,.slice none 0 0,.bool false,.slice none 0 0]) (by simp[results,Tryz.results27,go_sem,R.k4]) rfl ⟨_,rfl,RatAt.of (IntAt.zero _) (IntAt.zero _) (by rw[HQ.out];rfl) (by rw[HQ.out];rfl),hb⟩
 ·rw[show decide (x.num=0)=false from decide_eq_false hx0];go_wp2_with fail;refine(cU y.num _ _ hyn (by omega)).mono ?_;rintro e6 w6 ⟨rfl,hb6⟩;replace X:=X.below hb6;replace Y:=Y.below hb6;replace R:=R.below hb6;replace cM:=aa X.k4 (aa Y.k4 R.g4);replace hk:=Keep.below hb6;replace hxn:=hxn.keep hk;replace hyn:=hyn.keep hk;replace hb:=aB hb hb6;by_cases hy0:y.num=0
  ·have HQ:=Lib.hid (HZ.out (.inr hy0));rw[show decide (y.num=0)=true from decide_eq_true hy0];clear hx0 hy0;go_wp2_with fail;obtain⟨W6,eW6,R,hb,hk,ff⟩:=R.put4 hb (by omega) (.bool false) (.slice none 0 0) (.bool false) (.slice none 0 0) rfl rfl;replace X:=ff X (by omega);replace Y:=ff Y (by omega);rw[eW6];clear eW6;replace cM:=aa X.k4 (aa Y.k4 R.k4);exact bodyPost_ret (v:= .agg #[.bool false,.slice none 0 0,.bool false,.slice none 0 0]) (by simp[results,Tryz.results27,go_sem,R.k4]) rfl ⟨_,rfl,RatAt.of (IntAt.zero _) (IntAt.zero _) (by rw[HQ.out];rfl) (by rw[HQ.out];rfl),hb⟩
  ·rw[show decide (y.num=0)=false from decide_eq_false hy0];have HX0:Hid (x.num≠0):=hx0;have HY0:Hid (y.num≠0):=hy0;have hxd:=(hx.below hb).den;have hyd:=(hy.below hb).den;clear hx0 hy0 hxn hyn;generalize aS x=dx at *;generalize aS y=dy at *;go_upto_region 3 with fail;go_cut [25] (fun s25 wx=>s25= .bool false∧Bx wx w.heap.size [.bool s1,.slice A1 k1 c1,.bool s2,.slice A2 k2 c2] 54∧Bx wx (w.heap.size+1) [.bool s3,.slice A3 k3 c3,.bool s4,.slice A4 k4 c4] 54∧Bx wx (w.heap.size+1+1) [.bool false,.slice none 0 0,.bool false,.slice none 0 0] 54∧Below w.heap.size w wx)
   case first=>
    go_wp2_with fail;refine(cU dx _ _ hxd (by omega)).mono ?_;rintro e7 w7 ⟨rfl,hb7⟩;replace X:=X.below hb7;replace Y:=Y.below hb7;replace R:=R.below hb7;replace cM:=aa X.k4 (aa Y.k4 R.g4);replace hk:=Keep.below hb7;replace hxd:=hxd.keep hk;replace hyd:=hyd.keep hk;replace hb:=aB hb hb7;by_cases e:dx=0
    ·rw[show decide (dx=0)=true from decide_eq_true e];have hy1:=hdd1 e;clear e hdd1;go_wp2_with fail;refine(cU dy _ _ hyd (by omega)).mono ?_;rintro e8 w8 ⟨rfl,hb8⟩;replace X:=X.below hb8;replace Y:=Y.below hb8;replace R:=R.below hb8;replace cM:=aa X.k4 (aa Y.k4 R.g4);replace hk:=Keep.below hb8;replace hxd:=hxd.keep hk;replace hyd:=hyd.keep hk;replace hb:=aB hb hb8;rw[show decide (dy=0)=false from decide_eq_false hy1];clear hy1;go_wp2_with fail;go_meet;exact⟨rfl,X,Y,R,hb⟩
    ·rw[show decide (dx=0)=false from decide_eq_false e];clear e hdd1;go_wp2_with fail;go_meet;exact⟨rfl,X,Y,R,hb⟩
   case rest=>
    clear X Y R hb hxd hyd hdd1 cM;obtain⟨rfl,X,Y,R,hb⟩:=hcut;generalize wc=W7 at *;have hx7:=hx.below hb;have hy7:=hy.below hb;have hG7:=hG.below hb;have hxn:=hx7.num;have hyn:=hy7.num;have cM:=True.intro;replace cM:=aa X.k4 (aa Y.k4 R.g4);go_wp2_with fail;have X_ltW7:=X.lt;have Y_ltW7:=Y.lt;go_cut [5,6] (fun s5 s6 wx=>∃g5 g6,s5= .pointer (some ⟨g5,0,none⟩)∧s6= .pointer (some ⟨g6,0,none⟩)∧W7.heap.size≤g5∧W7.heap.size≤g6∧g5≠g6∧IntBx wx g5 (a1)∧IntBx wx g6 (b1)∧Below W7.heap.size W7 wx)
    case first=>
     go_region_held3 (fun w'=>w'.cell? ⟨w.heap.size,0,none⟩=some (.bool s1)∧w'.cell? ⟨w.heap.size,1,none⟩=some (.slice A1 k1 c1)∧w'.cell? ⟨w.heap.size+1,0,none⟩=some (.bool s3)∧w'.cell? ⟨w.heap.size+1,1,none⟩=some (.slice A3 k3 c3)∧w'.cell? ⟨w.heap.size+1,2,none⟩=some (.bool s4)∧w'.cell? ⟨w.heap.size+1,3,none⟩=some (.slice A4 k4 c4))
      (with_reducible exact⟨X.up.cell 0 rfl,X.up.cell 1 rfl,Y.up.cell 0 rfl,Y.up.cell 1 rfl,Y.up.cell 2 rfl,Y.up.cell 3 rfl⟩)
      (first
       |(go_at_call 70;(with_reducible refine(hdy _ hy7.up).mono ?_);rintro e13 w13 ⟨v13,rfl,h13,hb13⟩;have l13:=hb13.size;(try simp at l13);have:=St.mk hb13;obtain⟨s13,A13,k13,c13,rfl⟩:=h13.form)
       |(go_at_call 69;(with_reducible refine(hc1 _ _ hG7.up hxn.up h13.up HX0.out).mono ?_);rintro e14 w14 ⟨v14,u14,rfl,hpz,h14,hb14⟩;have l14:=hb14.size;(try simp at l14);have:=St.mk hb14;have TT14:=Up.out (a:=W7) (b:=w14);have ll14:=TT14.size;have h13z:=h13.up (b:=w14);(try (have D13_0:=(Bx.newAt W7 [.bool false,.slice none 0 0] 50 (W7.heap.size) rfl).up (b:=w14);obtain⟨D13_0_k,D13_0_a,D13_0_n,D13_0_m⟩:=dd D13_0));(try (have D13_1:=(Bx.newAt (W7.alloc Z0) [.bool false,.slice none 0 0] 50 (W7.heap.size+1) (World.size_alloc _ _)).up (b:=w14);obtain⟨D13_1_k,D13_1_a,D13_1_n,D13_1_m⟩:=dd D13_1));(try (have D14_0:=(Bx.newAt w13 [.bool false,.slice none 0 0] 50 (w13.heap.size) rfl).up (b:=w14);obtain⟨D14_0_k,D14_0_a,D14_0_n,D14_0_m⟩:=dd D14_0));(try (have D14_1:=(Bx.newAt (w13.alloc Z0) [.bool false,.slice none 0 0] 50 (w13.heap.size+1) (World.size_alloc _ _)).up (b:=w14);obtain⟨D14_1_k,D14_1_a,D14_1_n,D14_1_m⟩:=dd D14_1));obtain⟨sp,Ap,kp,cp,rfl⟩:=hpz.form;obtain⟨s14,A14,k14,c14,rfl⟩:=h14.form))
     all_goals (
      go_wp2_with fail;go_meet;refine⟨_,_,rfl,rfl,by omega,by omega,by omega,?_⟩
      first
       |(with_reducible exact rQ hpz h14 TT14)
       |(with_reducible exact uX hpz h14 TT14)
       |(with_reducible exact iQ hpz h14 (zb D13_0) TT14 (by omega))
       |(with_reducible exact iQ hpz h14 (zb D13_1) TT14 (by omega))
       |(with_reducible exact iQ hpz h14 (zb D14_0) TT14 (by omega))
       |(with_reducible exact iQ hpz h14 (zb D14_1) TT14 (by omega))
       |(with_reducible exact iR (zb D13_0) hpz h14 TT14 (by omega))
       |(with_reducible exact iR (zb D13_1) hpz h14 TT14 (by omega))
       |(with_reducible exact iR (zb D14_0) hpz h14 TT14 (by omega))
       |(with_reducible exact iR (zb D14_1) hpz h14 TT14 (by omega))
       |(with_reducible exact bE (zb D13_0) (zb D13_1) hpz h14 (by omega) TT14 (by omega) (by omega))
       |(with_reducible exact bE (zb D13_0) (zb D14_0) hpz h14 (by omega) TT14 (by omega) (by omega))
       |(with_reducible exact bE (zb D13_0) (zb D14_1) hpz h14 (by omega) TT14 (by omega) (by omega))
       |(with_reducible exact bE (zb D13_1) (zb D13_0) hpz h14 (by omega) TT14 (by omega) (by omega))
       |(with_reducible exact bE (zb D13_1) (zb D14_0) hpz h14 (by omega) TT14 (by omega) (by omega))
       |(with_reducible exact bE (zb D13_1) (zb D14_1) hpz h14 (by omega) TT14 (by omega) (by omega))
       |(with_reducible exact bE (zb D14_0) (zb D13_0) hpz h14 (by omega) TT14 (by omega) (by omega))
       |(with_reducible exact bE (zb D14_0) (zb D13_1) hpz h14 (by omega) TT14 (by omega) (by omega))
       |(with_reducible exact bE (zb D14_0) (zb D14_1) hpz h14 (by omega) TT14 (by omega) (by omega))
       |(with_reducible exact bE (zb D14_1) (zb D13_0) hpz h14 (by omega) TT14 (by omega) (by omega))
       |(with_reducible exact bE (zb D14_1) (zb D13_1) hpz h14 (by omega) TT14 (by omega) (by omega))
       |(with_reducible exact bE (zb D14_1) (zb D14_0) hpz h14 (by omega) TT14 (by omega) (by omega)))
    case rest=>
     obtain⟨g5,g6,rfl,rfl,hg5,hg6,hne56,I5,I6,hbc⟩:=hcut;generalize wc=W8 at *;have X8:=X.below hbc;have Y8:=Y.below hbc;have R8:=R.below hbc;have hx8:=hx7.below hbc;have hG8:=hG7.below hbc;have hyn8:=hyn.below hbc;replace hb:=aB hb hbc;have hz8:=hbc.size;have hxl:=X.lt;have hyl:=Y.lt;have hrl:=R.lt;obtain⟨s5,A5,k5,c5,P5,i5⟩:=I5;obtain⟨s6,A6,k6,c6,P6,i6⟩:=I6;clear X Y R hx7 hy7 hG7 hxn hyn hbc hc1 hdy cM;go_wp2_with fail;have Y8_ltW8:=Y8.lt;have X8_ltW8:=X8.lt;go_cut [7,8] (fun s7 s8 wx=>∃g7 g8,s7= .pointer (some ⟨g7,0,none⟩)∧s8= .pointer (some ⟨g8,0,none⟩)∧W8.heap.size≤g7∧W8.heap.size≤g8∧g7≠g8∧IntBx wx g7 (a2)∧IntBx wx g8 (b2)∧Below W8.heap.size W8 wx)
     case first=>
      go_region_held3 (fun w'=>w'.cell? ⟨w.heap.size+1,0,none⟩=some (.bool s3)∧w'.cell? ⟨w.heap.size+1,1,none⟩=some (.slice A3 k3 c3)∧w'.cell? ⟨w.heap.size,0,none⟩=some (.bool s1)∧w'.cell? ⟨w.heap.size,1,none⟩=some (.slice A1 k1 c1)∧w'.cell? ⟨w.heap.size,2,none⟩=some (.bool s2)∧w'.cell? ⟨w.heap.size,3,none⟩=some (.slice A2 k2 c2))
       (with_reducible exact⟨Y8.up.cell 0 rfl,Y8.up.cell 1 rfl,X8.up.cell 0 rfl,X8.up.cell 1 rfl,X8.up.cell 2 rfl,X8.up.cell 3 rfl⟩)
       (first
        |(go_at_call 70;(with_reducible refine(hdx _ hx8.up).mono ?_);rintro e15 w15 ⟨v15,rfl,h15,hb15⟩;have l15:=hb15.size;(try simp at l15);have:=St.mk hb15;obtain⟨s15,A15,k15,c15,rfl⟩:=h15.form)
        |(go_at_call 69;(with_reducible refine(hc2 _ _ hG8.up hyn8.up h15.up HY0.out).mono ?_);rintro e16 w16 ⟨v16,u16,rfl,hpz,h16,hb16⟩;have l16:=hb16.size;(try simp at l16);have:=St.mk hb16;have TT16:=Up.out (a:=W8) (b:=w16);have ll16:=TT16.size;have h15z:=h15.up (b:=w16);(try (have D15_0:=(Bx.newAt W8 [.bool false,.slice none 0 0] 50 (W8.heap.size) rfl).up (b:=w16);obtain⟨D15_0_k,D15_0_a,D15_0_n,D15_0_m⟩:=dd D15_0));(try (have D15_1:=(Bx.newAt (W8.alloc Z0) [.bool false,.slice none 0 0] 50 (W8.heap.size+1) (World.size_alloc _ _)).up (b:=w16);obtain⟨D15_1_k,D15_1_a,D15_1_n,D15_1_m⟩:=dd D15_1));(try (have D16_0:=(Bx.newAt w15 [.bool false,.slice none 0 0] 50 (w15.heap.size) rfl).up (b:=w16);obtain⟨D16_0_k,D16_0_a,D16_0_n,D16_0_m⟩:=dd D16_0));(try (have D16_1:=(Bx.newAt (w15.alloc Z0) [.bool false,.slice none 0 0] 50 (w15.heap.size+1) (World.size_alloc _ _)).up (b:=w16);obtain⟨D16_1_k,D16_1_a,D16_1_n,D16_1_m⟩:=dd D16_1));obtain⟨sp,Ap,kp,cp,rfl⟩:=hpz.form;obtain⟨s16,A16,k16,c16,rfl⟩:=h16.form))
      all_goals (
       go_wp2_with fail;go_meet;refine⟨_,_,rfl,rfl,by omega,by omega,by omega,?_⟩
       first
        |(with_reducible exact rQ hpz h16 TT16)
        |(with_reducible exact uX hpz h16 TT16)
        |(with_reducible exact iQ hpz h16 (zb D15_0) TT16 (by omega))
        |(with_reducible exact iQ hpz h16 (zb D15_1) TT16 (by omega))
        |(with_reducible exact iQ hpz h16 (zb D16_0) TT16 (by omega))
        |(with_reducible exact iQ hpz h16 (zb D16_1) TT16 (by omega))
        |(with_reducible exact iR (zb D15_0) hpz h16 TT16 (by omega))
        |(with_reducible exact iR (zb D15_1) hpz h16 TT16 (by omega))
        |(with_reducible exact iR (zb D16_0) hpz h16 TT16 (by omega))
        |(with_reducible exact iR (zb D16_1) hpz h16 TT16 (by omega))
        |(with_reducible exact bE (zb D15_0) (zb D15_1) hpz h16 (by omega) TT16 (by omega) (by omega))
        |(with_reducible exact bE (zb D15_0) (zb D16_0) hpz h16 (by omega) TT16 (by omega) (by omega))
        |(with_reducible exact bE (zb D15_0) (zb D16_1) hpz h16 (by omega) TT16 (by omega) (by omega))
        |(with_reducible exact bE (zb D15_1) (zb D15_0) hpz h16 (by omega) TT16 (by omega) (by omega))
        |(with_reducible exact bE (zb D15_1) (zb D16_0) hpz h16 (by omega) TT16 (by omega) (by omega))
        |(with_reducible exact bE (zb D15_1) (zb D16_1) hpz h16 (by omega) TT16 (by omega) (by omega))
        |(with_reducible exact bE (zb D16_0) (zb D15_0) hpz h16 (by omega) TT16 (by omega) (by omega))
        |(with_reducible exact bE (zb D16_0) (zb D15_1) hpz h16 (by omega) TT16 (by omega) (by omega))
        |(with_reducible exact bE (zb D16_0) (zb D16_1) hpz h16 (by omega) TT16 (by omega) (by omega))
        |(with_reducible exact bE (zb D16_1) (zb D15_0) hpz h16 (by omega) TT16 (by omega) (by omega))
        |(with_reducible exact bE (zb D16_1) (zb D15_1) hpz h16 (by omega) TT16 (by omega) (by omega))
        |(with_reducible exact bE (zb D16_1) (zb D16_0) hpz h16 (by omega) TT16 (by omega) (by omega)))
     case rest=>
      obtain⟨g7,g8,rfl,rfl,hg7,hg8,hne78,I7,I8,hbc⟩:=hcut;generalize wc=W9 at *;replace P5:=P5.below hbc;replace P6:=P6.below hbc;have R9:=R8.below hbc;replace i5:=i5.below hbc;replace i6:=i6.below hbc;have hl5:=P5.lt;replace hb:=aB hb hbc;obtain⟨s7,A7,k7,c7,P7,i7⟩:=I7;obtain⟨s8,A8,k8,c8,P8,i8⟩:=I8;clear X8 Y8 R8 hx8 hG8 hyn8 hc2 hdx hbc;have hm1:=fun W h1 h2=>f8 a1 a2 (.agg #[.bool s5,.slice A5 k5 c5]) (.agg #[.bool s7,.slice A7 k7 c7]) W h1 h2 (by omega);have hm2:=fun W h1 h2=>f8 b2 b1 (.agg #[.bool s8,.slice A8 k8 c8]) (.agg #[.bool s6,.slice A6 k6 c6]) W h1 h2 (by omega);have bmd:=bZ b2 b1 K K bb2 bb1;have hlw:=fun W u v h1 h2=>rV (x*y) (a1*a2) (b2*b1) u v W h1 h2 HP.out.1 HP.out.2 (by omega);go_wp2_with fail;have P5_ltW9:=P5.lt;have P6_ltW9:=P6.lt;have P7_ltW9:=P7.lt;have P8_ltW9:=P8.lt;have KS:=Lib.hid (show∀w',Below W9.heap.size W9 w'→(w'.cell? ⟨g5,0,none⟩=some (.bool s5)∧w'.cell? ⟨g5,1,none⟩=some (.slice A5 k5 c5)∧w'.cell? ⟨g6,0,none⟩=some (.bool s6)∧w'.cell? ⟨g6,1,none⟩=some (.slice A6 k6 c6)∧w'.cell? ⟨g7,0,none⟩=some (.bool s7)∧w'.cell? ⟨g7,1,none⟩=some (.slice A7 k7 c7)∧w'.cell? ⟨g8,0,none⟩=some (.bool s8)∧w'.cell? ⟨g8,1,none⟩=some (.slice A8 k8 c8)) from fun w' hU=>⟨(hU.cell (p:=⟨g5,0,none⟩) P5_ltW9).trans (P5.cell 0 rfl),(hU.cell (p:=⟨g5,1,none⟩) P5_ltW9).trans (P5.cell 1 rfl),(hU.cell (p:=⟨g6,0,none⟩) P6_ltW9).trans (P6.cell 0 rfl),(hU.cell (p:=⟨g6,1,none⟩) P6_ltW9).trans (P6.cell 1 rfl),(hU.cell (p:=⟨g7,0,none⟩) P7_ltW9).trans (P7.cell 0 rfl),(hU.cell (p:=⟨g7,1,none⟩) P7_ltW9).trans (P7.cell 1 rfl),(hU.cell (p:=⟨g8,0,none⟩) P8_ltW9).trans (P8.cell 0 rfl),(hU.cell (p:=⟨g8,1,none⟩) P8_ltW9).trans (P8.cell 1 rfl)⟩);have n_R9_P5:w.heap.size+1+1≠g5:=by omega
      have n_R9_P6:w.heap.size+1+1≠g6:=by omega
      have n_R9_P7:w.heap.size+1+1≠g7:=by omega
      have n_R9_P8:w.heap.size+1+1≠g8:=by omega
      have KF:=Lib.hid (show∀(w':World) (u0 u1 u2 u3:Value),Below W9.heap.size W9 w'→(((((w'.setCell ⟨w.heap.size+1+1,0,none⟩ u0).setCell ⟨w.heap.size+1+1,1,none⟩ u1).setCell ⟨w.heap.size+1+1,2,none⟩ u2).setCell ⟨w.heap.size+1+1,3,none⟩ u3).cell? ⟨g5,0,none⟩=some (.bool s5)∧((((w'.setCell ⟨w.heap.size+1+1,0,none⟩ u0).setCell ⟨w.heap.size+1+1,1,none⟩ u1).setCell ⟨w.heap.size+1+1,2,none⟩ u2).setCell ⟨w.heap.size+1+1,3,none⟩ u3).cell? ⟨g5,1,none⟩=some (.slice A5 k5 c5)∧((((w'.setCell ⟨w.heap.size+1+1,0,none⟩ u0).setCell ⟨w.heap.size+1+1,1,none⟩ u1).setCell ⟨w.heap.size+1+1,2,none⟩ u2).setCell ⟨w.heap.size+1+1,3,none⟩ u3).cell? ⟨g6,0,none⟩=some (.bool s6)∧((((w'.setCell ⟨w.heap.size+1+1,0,none⟩ u0).setCell ⟨w.heap.size+1+1,1,none⟩ u1).setCell ⟨w.heap.size+1+1,2,none⟩ u2).setCell ⟨w.heap.size+1+1,3,none⟩ u3).cell? ⟨g6,1,none⟩=some (.slice A6 k6 c6)∧((((w'.setCell ⟨w.heap.size+1+1,0,none⟩ u0).setCell ⟨w.heap.size+1+1,1,none⟩ u1).setCell ⟨w.heap.size+1+1,2,none⟩ u2).setCell ⟨w.heap.size+1+1,3,none⟩ u3).cell? ⟨g7,0,none⟩=some (.bool s7)∧((((w'.setCell ⟨w.heap.size+1+1,0,none⟩ u0).setCell ⟨w.heap.size+1+1,1,none⟩ u1).setCell ⟨w.heap.size+1+1,2,none⟩ u2).setCell ⟨w.heap.size+1+1,3,none⟩ u3).cell? ⟨g7,1,none⟩=some (.slice A7 k7 c7)∧((((w'.setCell ⟨w.heap.size+1+1,0,none⟩ u0).setCell ⟨w.heap.size+1+1,1,none⟩ u1).setCell ⟨w.heap.size+1+1,2,none⟩ u2).setCell ⟨w.heap.size+1+1,3,none⟩ u3).cell? ⟨g8,0,none⟩=some (.bool s8)∧((((w'.setCell ⟨w.heap.size+1+1,0,none⟩ u0).setCell ⟨w.heap.size+1+1,1,none⟩ u1).setCell ⟨w.heap.size+1+1,2,none⟩ u2).setCell ⟨w.heap.size+1+1,3,none⟩ u3).cell? ⟨g8,1,none⟩=some (.slice A8 k8 c8)) from fun w' u0 u1 u2 u3 hU=>⟨(aK _ _ _ _ _ _ n_R9_P5).trans ((aK _ _ _ _ _ _ n_R9_P5).trans ((aK _ _ _ _ _ _ n_R9_P5).trans ((aK _ _ _ _ _ _ n_R9_P5).trans ((hU.cell (p:=⟨g5,0,none⟩) P5_ltW9).trans (P5.cell 0 rfl))))),(aK _ _ _ _ _ _ n_R9_P5).trans ((aK _ _ _ _ _ _ n_R9_P5).trans ((aK _ _ _ _ _ _ n_R9_P5).trans ((aK _ _ _ _ _ _ n_R9_P5).trans ((hU.cell (p:=⟨g5,1,none⟩) P5_ltW9).trans (P5.cell 1 rfl))))),(aK _ _ _ _ _ _ n_R9_P6).trans ((aK _ _ _ _ _ _ n_R9_P6).trans ((aK _ _ _ _ _ _ n_R9_P6).trans ((aK _ _ _ _ _ _ n_R9_P6).trans ((hU.cell (p:=⟨g6,0,none⟩) P6_ltW9).trans (P6.cell 0 rfl))))),(aK _ _ _ _ _ _ n_R9_P6).trans ((aK _ _ _ _ _ _ n_R9_P6).trans ((aK _ _ _ _ _ _ n_R9_P6).trans ((aK _ _ _ _ _ _ n_R9_P6).trans ((hU.cell (p:=⟨g6,1,none⟩) P6_ltW9).trans (P6.cell 1 rfl))))),(aK _ _ _ _ _ _ n_R9_P7).trans ((aK _ _ _ _ _ _ n_R9_P7).trans ((aK _ _ _ _ _ _ n_R9_P7).trans ((aK _ _ _ _ _ _ n_R9_P7).trans ((hU.cell (p:=⟨g7,0,none⟩) P7_ltW9).trans (P7.cell 0 rfl))))),(aK _ _ _ _ _ _ n_R9_P7).trans ((aK _ _ _ _ _ _ n_R9_P7).trans ((aK _ _ _ _ _ _ n_R9_P7).trans ((aK _ _ _ _ _ _ n_R9_P7).trans ((hU.cell (p:=⟨g7,1,none⟩) P7_ltW9).trans (P7.cell 1 rfl))))),(aK _ _ _ _ _ _ n_R9_P8).trans ((aK _ _ _ _ _ _ n_R9_P8).trans ((aK _ _ _ _ _ _ n_R9_P8).trans ((aK _ _ _ _ _ _ n_R9_P8).trans ((hU.cell (p:=⟨g8,0,none⟩) P8_ltW9).trans (P8.cell 0 rfl))))),(aK _ _ _ _ _ _ n_R9_P8).trans ((aK _ _ _ _ _ _ n_R9_P8).trans ((aK _ _ _ _ _ _ n_R9_P8).trans ((aK _ _ _ _ _ _ n_R9_P8).trans ((hU.cell (p:=⟨g8,1,none⟩) P8_ltW9).trans (P8.cell 1 rfl)))))⟩)
      go_region_held3 (fun w'=>w'.cell? ⟨g5,0,none⟩=some (.bool s5)∧w'.cell? ⟨g5,1,none⟩=some (.slice A5 k5 c5)∧w'.cell? ⟨g6,0,none⟩=some (.bool s6)∧w'.cell? ⟨g6,1,none⟩=some (.slice A6 k6 c6)∧w'.cell? ⟨g7,0,none⟩=some (.bool s7)∧w'.cell? ⟨g7,1,none⟩=some (.slice A7 k7 c7)∧w'.cell? ⟨g8,0,none⟩=some (.bool s8)∧w'.cell? ⟨g8,1,none⟩=some (.slice A8 k8 c8))
       (first|(with_reducible exact KF.out _ _ _ _ _ (by with_reducible (repeat (first|exact Below.refl _ _|refine ua ?_|refine ud ?_|refine ut ?_ hb17|refine ut ?_ hb18|refine ut ?_ hb20|refine us ?_ (by omega)))))|(exact KS.out _ (by with_reducible (repeat (first|exact Below.refl _ _|refine ua ?_|refine ud ?_|refine ut ?_ hb17|refine ut ?_ hb18|refine ut ?_ hb20|refine us ?_ (by omega))))))
       (first
        |(go_at_call 57;(with_reducible refine(hm1 _ (i5.below (by with_reducible (repeat (first|exact Below.refl _ _|refine ua ?_|refine ud ?_|refine ut ?_ hb17|refine ut ?_ hb18|refine ut ?_ hb20|refine us ?_ (by omega))))) (i7.below (by with_reducible (repeat (first|exact Below.refl _ _|refine ua ?_|refine ud ?_|refine ut ?_ hb17|refine ut ?_ hb18|refine ut ?_ hb20|refine us ?_ (by omega)))))).mono ?_);rintro e17 w17 ⟨v17,rfl,h17,hb17⟩;have l17:=hb17.size;(try simp at l17);have TT17:Below W9.heap.size W9 w17:=(by with_reducible (repeat (first|exact Below.refl _ _|refine ua ?_|refine ud ?_|refine ut ?_ hb17|refine ut ?_ hb18|refine ut ?_ hb20|refine us ?_ (by omega))));have ll17:=TT17.size;obtain⟨s17,A17,k17,c17,rfl⟩:=h17.form)
        |(go_at_call 57;(with_reducible refine(hm2 _ (i8.below (by with_reducible (repeat (first|exact Below.refl _ _|refine ua ?_|refine ud ?_|refine ut ?_ hb17|refine ut ?_ hb18|refine ut ?_ hb20|refine us ?_ (by omega))))) (i6.below (by with_reducible (repeat (first|exact Below.refl _ _|refine ua ?_|refine ud ?_|refine ut ?_ hb17|refine ut ?_ hb18|refine ut ?_ hb20|refine us ?_ (by omega)))))).mono ?_);rintro e18 w18 ⟨v18,rfl,h18,hb18⟩;have l18:=hb18.size;(try simp at l18);have TT18:Below W9.heap.size W9 w18:=(by with_reducible (repeat (first|exact Below.refl _ _|refine ua ?_|refine ud ?_|refine ut ?_ hb17|refine ut ?_ hb18|refine ut ?_ hb20|refine us ?_ (by omega))));have ll18:=TT18.size;obtain⟨s18,A18,k18,c18,rfl⟩:=h18.form)
        |(go_at_call 71;(with_reducible refine(hlw _ _ _ (h17.below (by with_reducible (repeat (first|exact Below.refl _ _|refine ua ?_|refine ud ?_|refine ut ?_ hb17|refine ut ?_ hb18|refine ut ?_ hb20|refine us ?_ (by omega))))) (h18.below (by with_reducible (repeat (first|exact Below.refl _ _|refine ua ?_|refine ud ?_|refine ut ?_ hb17|refine ut ?_ hb18|refine ut ?_ hb20|refine us ?_ (by omega)))))).mono ?_);rintro e20 w20 ⟨v20,rfl,h20,hb20⟩;have l20:=hb20.size;(try simp at l20);have TT20:Below W9.heap.size W9 w20:=(by with_reducible (repeat (first|exact Below.refl _ _|refine ua ?_|refine ud ?_|refine ut ?_ hb17|refine ut ?_ hb18|refine ut ?_ hb20|refine us ?_ (by omega))));have ll20:=TT20.size;have hU20:Below W9.heap.size W9 w20:=(by with_reducible (repeat (first|exact Below.refl _ _|refine ua ?_|refine ud ?_|refine ut ?_ hb17|refine ut ?_ hb18|refine ut ?_ hb20|refine us ?_ (by omega))));have Z20:=R9.below hU20;have Z20_k:=Z20.g4;obtain⟨sa,Aa,ka,ca,sb,Ab,kb,cb,rfl⟩:=h20.form))
      all_goals (
       go_wp2_with fail;replace hb:=aB hb hU20;obtain⟨W6,eW6,Z20,hb,hk,ff⟩:=Z20.put4 hb (by omega) (.bool sa) (.slice Aa ka ca) (.bool sb) (.slice Ab kb cb) rfl rfl;replace h20:=h20.keep hk;rw[eW6];clear eW6;replace cM:=Z20.k4;exact bodyPost_ret (v:= .agg #[.bool sa,.slice Aa ka ca,.bool sb,.slice Ab kb cb]) (by simp[results,Tryz.results27,go_sem,Z20.k4]) rfl ⟨_,rfl,h20,hb⟩
      )
theorem V9 (x y:Rat) (vx vy:Value) (w:World) (hG:Glob w) (hx:RatAt w vx x) (hy:RatAt w vy y) (K:Nat) (bx:RL K x) (bY:RL K y) (hK:10*K+20≤aF):
  Calls Tryz.prog 27 #[vx,vy] w (eV w (x*y)):=by
 by_cases h1:x.den=1∧y.den=1
 ·have e1:x=(x.num:Rat):=Rat.ext (by simp) (by simp[h1.1]);have e2:y=(y.num:Rat):=Rat.ext (by simp) (by simp[h1.2]);have:=xX x.num y.num vx vy w (by rw[←e1];exact hx) (by rw[←e2];exact hy) (by have:=bx.1;have:=bY.1;unfold aF at hK;omega);rwa [Rat.intCast_mul,←e1,←e2] at this
 ·exact V8 x y vx vy w hG hx hy h1 K bx bY hK
theorem IntAt.abs {w:World} {s:Bool} {u:Value} {n:Int} (h:IntAt w (.agg #[.bool s,u]) n):IntAt w (.agg #[.bool false,u]) (n.natAbs:Int):=by
 obtain⟨u',e,h⟩:=h;injection e with e;have e1:=congrArg Array.toList e;simp only[List.cons.injEq] at e1;obtain⟨-,rfl, -⟩:=e1;exact⟨u,by rw[show decide (((n.natAbs:Nat):Int)<0)=false by simp],by rw[Int.natAbs_natCast];exact h⟩
theorem x6 (x:Int) (vx:Value) (w:World) (hx:IntAt w vx x):Calls Tryz.prog 90 #[vx] w (bW w (x.natAbs:Int)):=by
 obtain⟨s1,A1,k1,c1,rfl⟩:=hx.form;have hz:=hx.abs;obtain⟨W,eW,hb,X,R⟩:=j6 w [.bool s1,.slice A1 k1 c1] 50 [.bool false,.slice none 0 0] 50;have cM:=aa X.g2 R.g2;go_enter Tryz.func90,Tryz.ntmps90;go_wp2_with fail;(try rw[eW]);clear eW;replace hz:=hz.below hb;obtain⟨W6,eW6,R,hb,hk,ff⟩:=R.put2 hb (by omega) (.bool false) (.slice A1 k1 c1) rfl rfl;replace X:=ff X (by omega);replace hz:=hz.keep hk;rw[eW6];clear eW6;replace cM:=aa X.k2 R.k2;exact bodyPost_ret (v:= .agg #[.bool false,.slice A1 k1 c1]) (by simp[results,Tryz.results90,go_sem,R.k2]) rfl ⟨_,rfl,hz,hb⟩
theorem U2 (x y:Int):(x<0→y<0→bM (y.natAbs:Int) (x.natAbs:Int)=bM x y)∧(x<0→¬y<0→bM x y= -1)∧(¬x<0→y<0→bM x y=1)∧(¬x<0→¬y<0→bM (x.natAbs:Int) (y.natAbs:Int)=bM x y):=by
 refine⟨fun h k=> ?_,fun h k=>iX (by omega),fun h k=>nU (by omega),fun h k=> ?_⟩
 ·have a:=iY (y.natAbs:Int) (x.natAbs:Int);have b:=iY x y;omega
 ·rw[show((x.natAbs:Nat):Int)=x by omega,show((y.natAbs:Nat):Int)=y by omega]
theorem sL (x y:Int) (vx vy:Value) (w:World) (hx:IntAt w vx x) (hy:IntAt w vy y) (bx:nl x.natAbs≤17592186044416) (bY:nl y.natAbs≤17592186044416):
  Calls Tryz.prog 91 #[vx,vy] w (sS w (bM x y)):=by
 obtain⟨ux,rfl,hux⟩:=hx;obtain⟨uy,rfl,huy⟩:=hy;obtain⟨p1,p2,p3,p4⟩:=U2 x y;obtain⟨sx,hsx⟩:∃s,decide (x<0)=s:=⟨_,rfl⟩;obtain⟨sy,hsy⟩:∃s,decide (y<0)=s:=⟨_,rfl⟩;rw[hsx,hsy];obtain⟨A1,c1,rfl, -⟩:=id hux;obtain⟨A2,c2,rfl, -⟩:=id huy;obtain⟨R,hR⟩:∃R,bM x y=R:=⟨_,rfl⟩;rw[hR] at p1 p2 p3 p4⊢;have q1:=fun W h h'=>mA y.natAbs x.natAbs (.slice A2 (nl y.natAbs) c2) (.slice A1 (nl x.natAbs) c1) W h h' bY bx;have q2:=fun W h h'=>mA x.natAbs y.natAbs (.slice A1 (nl x.natAbs) c1) (.slice A2 (nl y.natAbs) c2) W h h' bx bY;cases sx with
 |true=>
  have hx0:x<0:=of_decide_eq_true hsx;cases sy with
  |true=>
   have hy0:y<0:=of_decide_eq_true hsy;rw[p1 hx0 hy0] at q1;clear p1 p2 p3 p4 q2 hsx hsy hR hx0 hy0;obtain⟨W,eW,hb,X,Y⟩:=j6 w [.bool true,.slice A1 (nl x.natAbs) c1] 50 [.bool true,.slice A2 (nl y.natAbs) c2] 50;have cM:=aa X.g2 Y.g2;go_enter Tryz.func91,Tryz.ntmps91;go_wp2_with fail;(try rw[eW]);clear eW;refine(q1 _ (huy.below hb) (hux.below hb)).mono ?_;rintro e1 w1 ⟨rfl,hb1⟩;go_wp2_with fail;go_ret;exact⟨rfl,aB hb hb1⟩
  |false=>
   have hy0:¬y<0:=of_decide_eq_false hsy;obtain rfl:=p2 hx0 hy0;clear p1 p2 p3 p4 q1 q2 hsx hsy hR hx0 hy0;obtain⟨W,eW,hb,X,Y⟩:=j6 w [.bool true,.slice A1 (nl x.natAbs) c1] 50 [.bool false,.slice A2 (nl y.natAbs) c2] 50;have cM:=aa X.g2 Y.g2;go_enter Tryz.func91,Tryz.ntmps91;go_wp2_with fail;(try rw[eW]);clear eW;go_ret;exact⟨rfl,hb⟩
 |false=>
  have hx0:¬x<0:=of_decide_eq_false hsx;cases sy with
  |true=>
   have hy0:y<0:=of_decide_eq_true hsy;obtain rfl:=p3 hx0 hy0;clear p1 p2 p3 p4 q1 q2 hsx hsy hR hx0 hy0;obtain⟨W,eW,hb,X,Y⟩:=j6 w [.bool false,.slice A1 (nl x.natAbs) c1] 50 [.bool true,.slice A2 (nl y.natAbs) c2] 50;have cM:=aa X.g2 Y.g2;go_enter Tryz.func91,Tryz.ntmps91;go_wp2_with fail;(try rw[eW]);clear eW;go_ret;exact⟨rfl,hb⟩
  |false=>
   have hy0:¬y<0:=of_decide_eq_false hsy;rw[p4 hx0 hy0] at q2;clear p1 p2 p3 p4 q1 hsx hsy hR hx0 hy0;obtain⟨W,eW,hb,X,Y⟩:=j6 w [.bool false,.slice A1 (nl x.natAbs) c1] 50 [.bool false,.slice A2 (nl y.natAbs) c2] 50;have cM:=aa X.g2 Y.g2;go_enter Tryz.func91,Tryz.ntmps91;go_wp2_with fail;(try rw[eW]);clear eW;refine(q2 _ (hux.below hb) (huy.below hb)).mono ?_;rintro e1 w1 ⟨rfl,hb1⟩;go_wp2_with fail;go_ret;exact⟨rfl,aB hb hb1⟩
theorem x7 (x:Rat) (vx:Value) (w:World) (hx:RatAt w vx x) (bx:nl x.num.natAbs≤17592186044416):
  Calls Tryz.prog 109 #[vx] w (sS w x.num.sign):=by
 obtain⟨s1,A1,k1,c1,s2,A2,k2,c2,rfl⟩:=hx.form;obtain⟨W,eW,hb,X⟩:=bA w [.bool s1,.slice A1 k1 c1,.bool s2,.slice A2 k2 c2] 54;have cM:=X.g4;go_enter Tryz.func109,Tryz.ntmps109;go_wp2_with fail;(try rw[eW]);clear eW;have hn:=(hx.below hb).num;refine(JP _ _ _ hn bx).mono ?_;rintro e1 w1 ⟨rfl,hb1⟩;go_wp2_with fail;go_ret;exact⟨rfl,aB hb hb1⟩
theorem x8 (x y:Rat):bM (x.num*y.den) (y.num*x.den)=(x-y).num.sign:=by
 rcases eL (x-y) with h|h|h
 ·have:x<y:=by grind
  rw[(d7 _).2 h,iX ((Rat.lt_iff x y).1 this)]
 ·have:x=y:=by grind
  rw[h,this,wH];rfl
 ·have:y<x:=by grind
  rw[(d7 _).1 h,nU ((Rat.lt_iff y x).1 this)]
theorem U3 {x y:Rat} (h1:x.den=1) (h2:y.den=1):bM x.num y.num=(x-y).num.sign:=by
 have:=x8 x y;rwa [h1,h2,show((1:Nat):Int)=1 from rfl,Int.mul_one,Int.mul_one] at this
theorem lP {x:Rat} (h:x<0):x.num<0:=by have:=kL (show 0< -x by grind);rw[Rat.neg_num] at this;omega
theorem U5 {x y:Rat} (h:x.num.sign≠y.num.sign):bM x.num y.num=(x-y).num.sign:=by
 rcases eL x with a|a|a<;>rcases eL y with b|b|b
 ·rw[(d7 x).2 a,(d7 y).2 b] at h;exact absurd rfl h
 ·rw[b] at *;rw[show Rat.num 0=0 from rfl];rw[(d7 _).2 (show x-0<0 by grind),iX (lP a)]
 ·have:=lP a;have:=kL b
  rw[(d7 _).2 (show x-y<0 by grind),iX (by omega)]
 ·rw[a] at *;rw[show Rat.num 0=0 from rfl];rw[(d7 _).1 (show 0<0-y by grind),nU (lP b)]
 ·rw[a,b] at h;exact absurd rfl h
 ·rw[a] at *;rw[show Rat.num 0=0 from rfl];rw[(d7 _).2 (show 0-y<0 by grind),iX (kL b)]
 ·have:=kL a;have:=lP b
  rw[(d7 _).1 (show 0<x-y by grind),nU (by omega)]
 ·rw[b] at *;rw[show Rat.num 0=0 from rfl];rw[(d7 _).1 (show 0<x-0 by grind),nU (kL a)]
 ·rw[(d7 x).1 a,(d7 y).1 b] at h;exact absurd rfl h
theorem sN (x y:Rat) (vx vy:Value) (w:World) (hx:RatAt w vx x) (hy:RatAt w vy y) (K:Nat) (bx:RL K x) (bY:RL K y) (hK:4*K+8≤17592186044416):
  Calls Tryz.prog 50 #[vx,vy] w (sS w (x-y).num.sign):=by
 obtain⟨s1,A1,k1,c1,s2,A2,k2,c2,rfl⟩:=hx.form;obtain⟨s3,A3,k3,c3,s4,A4,k4,c4,rfl⟩:=hy.form;have⟨bx1,bx2⟩:=bx;have⟨by1,by2⟩:=bY;have hxd:=hx.den;have hyd:=hy.den;have hxn:=hx.num;have hyn:=hy.num;have bxd:=lO x;have byd:=lO y;have m1:=bZ x.num (y.den:Int) _ _ bx1 (show nl (y.den:Int).natAbs≤K from by2);have m2:=bZ y.num (x.den:Int) _ _ by1 (show nl (x.den:Int).natAbs≤K from bx2);have zx:=fun W h=>cU (aS x) (.agg #[.bool s2,.slice A2 k2 c2]) W h (by omega);have zy:=fun W h=>cU (aS y) (.agg #[.bool s4,.slice A4 k4 c4]) W h (by omega);have gx:=fun W h=>x7 x (.agg #[.bool s1,.slice A1 k1 c1,.bool s2,.slice A2 k2 c2]) W h (by omega);have gy:=fun W h=>x7 y (.agg #[.bool s3,.slice A3 k3 c3,.bool s4,.slice A4 k4 c4]) W h (by omega);have dx:=fun W h=>I4 x (.agg #[.bool s1,.slice A1 k1 c1,.bool s2,.slice A2 k2 c2]) W h (by omega);have dy:=fun W h=>I4 y (.agg #[.bool s3,.slice A3 k3 c3,.bool s4,.slice A4 k4 c4]) W h (by omega);have mx:=fun W u h h'=>f8 x.num (y.den:Int) (.agg #[.bool s1,.slice A1 k1 c1]) u W h h' (by show nl x.num.natAbs+nl y.den≤_;omega);have my:=fun W u h h'=>f8 y.num (x.den:Int) (.agg #[.bool s3,.slice A3 k3 c3]) u W h h' (by show nl y.num.natAbs+nl x.den≤_;omega);have cc:=fun W u v h h'=>sL (x.num*y.den) (y.num*x.den) u v W h h' (by omega) (by omega);have cn:=fun W h h'=>sL x.num y.num (.agg #[.bool s1,.slice A1 k1 c1]) (.agg #[.bool s3,.slice A3 k3 c3]) W h h' (by omega) (by omega);rw[x8] at cc;obtain⟨p,hp⟩:∃p,decide (aS x=0)=p:=⟨_,rfl⟩;obtain⟨q,hq⟩:∃q,decide (aS y=0)=q:=⟨_,rfl⟩;rw[hp] at zx;rw[hq] at zy;have hI:p=true→q=true→bM x.num y.num=(x-y).num.sign:=fun h1 h2=>U3 (dH.1 (of_decide_eq_true (hp.trans h1))) (dH.1 (of_decide_eq_true (hq.trans h2)));have hS:x.num.sign≠y.num.sign→bM x.num y.num=(x-y).num.sign:=U5;obtain⟨r,hr⟩:∃r,(x.num.sign != y.num.sign)=r:=⟨_,rfl⟩;have hS':r=true→bM x.num y.num=(x-y).num.sign:=fun h=>hS (by rw[h] at hr;simpa using hr);unfold bW at dx dy mx my;unfold sS at gx gy cc cn;generalize (x-y).num.sign=R at *;generalize x.num.sign=sx at *;generalize y.num.sign=sy at *;clear hS bx bY bx1 bx2 by1 by2 bxd byd m1 m2 hp hq;obtain⟨W,eW,hb,X,Y⟩:=j6 w [.bool s1,.slice A1 k1 c1,.bool s2,.slice A2 k2 c2] 54 [.bool s3,.slice A3 k3 c3,.bool s4,.slice A4 k4 c4] 54;have cM:=aa X.g4 Y.g4;go_enter Tryz.func50,Tryz.ntmps50;go_wp2_with fail;(try rw[eW]);clear eW;replace hx:=hx.below hb;replace hy:=hy.below hb;replace hxd:=hxd.below hb;replace hyd:=hyd.below hb;replace hxn:=hxn.below hb;replace hyn:=hyn.below hb;cases p with
 |false=>
  clear hI;cases r with
  |true=>
   rw[hS' rfl] at cn;clear hS' zy dx dy mx my cc;have cX:=X.k4;have cY:=Y.k4
   first
    |(go_region_with (first
      |(go_at_call 62;(first|(with_reducible refine(zx _ hxd.up).mono ?_)|(with_reducible refine(zy _ hyd.up).mono ?_));rintro e5 w5 ⟨rfl,hb5⟩;have:=St.mk hb5;have cX5:=(X.up (b:=w5)).k4;have cY5:=(Y.up (b:=w5)).k4)
      |(go_at_call 109;(first|(with_reducible refine(gx _ hx.up).mono ?_)|(with_reducible refine(gy _ hy.up).mono ?_));rintro e6 w6 ⟨rfl,hb6⟩;have:=St.mk hb6;have cX6:=(X.up (b:=w6)).k4;have cY6:=(Y.up (b:=w6)).k4)))
    |fail
   all_goals (
    go_wp2_with fail;refine(cn _ hxn.up hyn.up).mono ?_;rintro e7 w7 ⟨rfl,hb7⟩;have:=St.mk hb7;go_wp2_with fail;go_ret;exact⟨rfl,mL (b:=w7) hb⟩)
  |false=>
   clear hS' zy cn;have cX:=X.k4;have cY:=Y.k4
   first
    |(go_region_with (first
      |(go_at_call 62;(first|(with_reducible refine(zx _ hxd.up).mono ?_)|(with_reducible refine(zy _ hyd.up).mono ?_));rintro e5 w5 ⟨rfl,hb5⟩;have:=St.mk hb5;have cX5:=(X.up (b:=w5)).k4;have cY5:=(Y.up (b:=w5)).k4)
      |(go_at_call 109;(first|(with_reducible refine(gx _ hx.up).mono ?_)|(with_reducible refine(gy _ hy.up).mono ?_));rintro e6 w6 ⟨rfl,hb6⟩;have:=St.mk hb6;have cX6:=(X.up (b:=w6)).k4;have cY6:=(Y.up (b:=w6)).k4)))
    |fail
   all_goals (
    go_wp2_with fail
    go_region_held3 (fun w'=>C4 w' w.heap.size (.bool s1) (.slice A1 k1 c1) (.bool s2) (.slice A2 k2 c2)∧C4 w' (w.heap.size+1) (.bool s3) (.slice A3 k3 c3) (.bool s4) (.slice A4 k4 c4)) (with_reducible exact⟨X.up.k4,Y.up.k4⟩)
     (first
      |(go_at_call 70;first|(with_reducible refine(dy _ hy.up).mono ?_;rintro e8 w8 ⟨v8,rfl,h8,hb8⟩;have:=St.mk hb8)|(with_reducible refine(dx _ hx.up).mono ?_;rintro e9 w9 ⟨v9,rfl,h9,hb9⟩;have:=St.mk hb9))
      |(go_at_call 57;first|(with_reducible refine(mx _ _ hxn.up h8.up).mono ?_;rintro e10 w10 ⟨v10,rfl,h10,hb10⟩;have:=St.mk hb10)|(with_reducible refine(my _ _ hyn.up h9.up).mono ?_;rintro e11 w11 ⟨v11,rfl,h11,hb11⟩;have:=St.mk hb11))
      |(go_at_call 91;(with_reducible refine(cc _ _ _ h10.up h11.up).mono ?_);rintro e12 w12 ⟨rfl,hb12⟩;have:=St.mk hb12))
    all_goals (
     go_wp2_with fail;go_ret;exact⟨rfl,mL (b:=w12) hb⟩))
 |true=>
  cases q with
  |false=>
   clear hI;cases r with
   |true=>
    rw[hS' rfl] at cn;clear hS' dx dy mx my cc;have cX:=X.k4;have cY:=Y.k4
    first
     |(go_region_with (first
       |(go_at_call 62;(first|(with_reducible refine(zx _ hxd.up).mono ?_)|(with_reducible refine(zy _ hyd.up).mono ?_));rintro e5 w5 ⟨rfl,hb5⟩;have:=St.mk hb5;have cX5:=(X.up (b:=w5)).k4;have cY5:=(Y.up (b:=w5)).k4)
       |(go_at_call 109;(first|(with_reducible refine(gx _ hx.up).mono ?_)|(with_reducible refine(gy _ hy.up).mono ?_));rintro e6 w6 ⟨rfl,hb6⟩;have:=St.mk hb6;have cX6:=(X.up (b:=w6)).k4;have cY6:=(Y.up (b:=w6)).k4)))
     |fail
    all_goals (
     go_wp2_with fail;refine(cn _ hxn.up hyn.up).mono ?_;rintro e7 w7 ⟨rfl,hb7⟩;have:=St.mk hb7;go_wp2_with fail;go_ret;exact⟨rfl,mL (b:=w7) hb⟩)
   |false=>
    clear hS' cn;have cX:=X.k4;have cY:=Y.k4
    first
     |(go_region_with (first
       |(go_at_call 62;(first|(with_reducible refine(zx _ hxd.up).mono ?_)|(with_reducible refine(zy _ hyd.up).mono ?_));rintro e5 w5 ⟨rfl,hb5⟩;have:=St.mk hb5;have cX5:=(X.up (b:=w5)).k4;have cY5:=(Y.up (b:=w5)).k4)
       |(go_at_call 109;(first|(with_reducible refine(gx _ hx.up).mono ?_)|(with_reducible refine(gy _ hy.up).mono ?_));rintro e6 w6 ⟨rfl,hb6⟩;have:=St.mk hb6;have cX6:=(X.up (b:=w6)).k4;have cY6:=(Y.up (b:=w6)).k4)))
     |fail
    all_goals (
     go_wp2_with fail
     go_region_held3 (fun w'=>C4 w' w.heap.size (.bool s1) (.slice A1 k1 c1) (.bool s2) (.slice A2 k2 c2)∧C4 w' (w.heap.size+1) (.bool s3) (.slice A3 k3 c3) (.bool s4) (.slice A4 k4 c4)) (with_reducible exact⟨X.up.k4,Y.up.k4⟩)
      (first
       |(go_at_call 70;first|(with_reducible refine(dy _ hy.up).mono ?_;rintro e8 w8 ⟨v8,rfl,h8,hb8⟩;have:=St.mk hb8)|(with_reducible refine(dx _ hx.up).mono ?_;rintro e9 w9 ⟨v9,rfl,h9,hb9⟩;have:=St.mk hb9))
       |(go_at_call 57;first|(with_reducible refine(mx _ _ hxn.up h8.up).mono ?_;rintro e10 w10 ⟨v10,rfl,h10,hb10⟩;have:=St.mk hb10)|(with_reducible refine(my _ _ hyn.up h9.up).mono ?_;rintro e11 w11 ⟨v11,rfl,h11,hb11⟩;have:=St.mk hb11))
       |(go_at_call 91;(with_reducible refine(cc _ _ _ h10.up h11.up).mono ?_);rintro e12 w12 ⟨rfl,hb12⟩;have:=St.mk hb12))
     all_goals (
      go_wp2_with fail;go_ret;exact⟨rfl,mL (b:=w12) hb⟩))
  |true=>
   rw[hI rfl rfl] at cn;clear hS' hI dx dy mx my cc gx gy;have cX:=X.k4;have cY:=Y.k4
   first
    |(go_region_with (first
      |(go_at_call 62;(first|(with_reducible refine(zx _ hxd.up).mono ?_)|(with_reducible refine(zy _ hyd.up).mono ?_));rintro e5 w5 ⟨rfl,hb5⟩;have:=St.mk hb5;have cX5:=(X.up (b:=w5)).k4;have cY5:=(Y.up (b:=w5)).k4)
      |(go_at_call 109;(first|(with_reducible refine(gx _ hx.up).mono ?_)|(with_reducible refine(gy _ hy.up).mono ?_));rintro e6 w6 ⟨rfl,hb6⟩;have:=St.mk hb6;have cX6:=(X.up (b:=w6)).k4;have cY6:=(Y.up (b:=w6)).k4)))
    |fail
   all_goals (
    go_wp2_with fail;refine(cn _ hxn.up hyn.up).mono ?_;rintro e7 w7 ⟨rfl,hb7⟩;have:=St.mk hb7;go_wp2_with fail;go_ret;exact⟨rfl,mL (b:=w7) hb⟩)
theorem U6 (n:Int) (w:World) (h0: -9223372036854775808≤n) (h1:n≤9223372036854775807):Calls Tryz.prog 93 #[.int .i64 n] w (eV w (n:Rat)):=by
 obtain⟨W,eW,hb,R⟩:=bA w [.bool false,.slice none 0 0,.bool false,.slice none 0 0] 54;have cM:=R.g4;go_enter Tryz.func93,Tryz.ntmps93;go_wp2_with fail;(try rw[eW]);clear eW;refine(jK n _ h0 h1).mono ?_;rintro e1 w1 ⟨v1,rfl,h1,hb1⟩;obtain⟨s1,A1,k1,c1,rfl⟩:=h1.form;replace R:=R.below hb1;replace hb:=aB hb hb1;have cM:=R.g4;go_wp2_with fail;obtain⟨W6,eW6,R,hb,hk,ff⟩:=R.put4 hb (by omega) (.bool s1) (.slice A1 k1 c1) (.bool false) (.slice none 0 0) rfl rfl;replace h1:=h1.keep hk;rw[eW6];clear eW6;replace cM:=R.k4;exact bodyPost_ret (v:= .agg #[.bool s1,.slice A1 k1 c1,.bool false,.slice none 0 0]) (by simp[results,Tryz.results93,go_sem,R.k4]) rfl ⟨_,rfl,RatAt.int h1 (IntAt.zero _),hb⟩
structure DivRes (A B Q R:List Rat) (K:Nat):Prop where
 id_:∀i,conv (cf Q) (cf B) i+cf R i=cf A i
 q_trim:aN Q
 r_trim:aN R
 r_lt:R.length<B.length
 q_len:Q.length≤A.length
 bq:∀q∈Q,RL K q
 br:∀q∈R,RL K q
theorem mN {ns:List Int} {F:Int} (hF:F≠0) (h:aN ns):aN (aT ns F):=by
 intro a ha e;unfold aT at ha;rw[List.getLast?_map] at ha;cases hq:ns.getLast? with
 |none=>rw[hq] at ha;simp at ha
 |some n=>
  rw[hq] at ha;simp only[Option.map_some,Option.some.injEq] at ha;rw[e] at ha;have h1:(n:Rat)≠0:=fun e=>h n hq (Rat.intCast_inj.1 e);have h2:(F:Rat)≠0:=fun e=>hF (Rat.intCast_inj.1 e);grind
theorem FD {ns:List Int} {E:Int} (hE:E≠0) (h:aN ns):aN (ns.map (·*E)):=by
 intro a ha e;rw[List.getLast?_map] at ha;cases hq:ns.getLast? with
 |none=>rw[hq] at ha;simp at ha
 |some n=>
  rw[hq] at ha;simp only[Option.map_some,Option.some.injEq] at ha;rw[e] at ha;rcases Int.mul_eq_zero.1 ha with h1|h1
  ·exact h n hq h1
  ·exact hE h1
theorem jB (ns:List Int) (F:Int) (i:Nat):cf (aT ns F) i=((cf ns i:Int):Rat)/F:=nY (fun n:Int=>(n:Rat)/(F:Rat)) (BE F) ns i
theorem qV (ns:List Int) (E:Int) (i:Nat):cf (ns.map (·*E)) i=cf ns i*E:=nY (·*E) (Int.zero_mul E) ns i
theorem Mg.grown {w w':World} {v:Value} {n:Nat} {row:Option Nat} (h:Mg w v n) (hg:w.grownBy w' row) (hne:∀g,row=some g→v.ownBlock≠some g):Mg w' v n:=by
 obtain⟨ds,⟨A,c,rfl,hc,hd,h⟩,h2,h3⟩:=h;refine⟨ds,⟨A,c,rfl,hc,hd,?_⟩,h2,h3⟩;rcases h with h|⟨b,rfl,hl,hB⟩
 ·exact .inl h
 ·refine .inr ⟨b,rfl,Nat.lt_of_lt_of_le hl hg.size,fun i d hi=> ?_⟩;exact(World.cell?_of_block (w:=w) (w':=w') (a:=⟨b,i,none⟩) (hg.block b hl (fun e=>hne b e.symm (by simp[Value.ownBlock])))).trans (hB i d hi)
def PtAt (w:World) (B:Nat) (v:Value) (ps:List Nat):Prop:=w.ownsRow B 192 1 v ps.length (U ps)
theorem PtAt.lt {w:World} {B:Nat} {v:Value} {ps:List Nat} (h:PtAt w B v ps):∀g,v.ownBlock=some g→B≤g∧g<w.heap.size:=World.ownsRow.lt h
theorem PtAt.below {w w':World} {B:Nat} {v:Value} {ps:List Nat} (h:PtAt w B v ps) (hb:Below w.heap.size w w'):PtAt w' B v ps:=by
 refine World.ownsRow.kept h (oM hb none) ?_;cases v.ownBlock with
 |none=>exact .inl rfl
 |some g=>exact .inr (by simp)
theorem PtAt.more {w w':World} {B r:Nat} {v v':Value} {ps:List Nat} {o:Obj} (ho:w'.ownsRow B 192 1 v' (ps.length+1) (U ps++[.int .u32 (r:Int)])) (hg:(w.alloc o).grownBy w' v.ownBlock) (hat:v'.ownBlock=v.ownBlock∨v'.ownBlock=some (w.alloc o).heap.size):
  PtAt w' B v' (ps++[r])∧TxtTo w v w' v':=by
 refine⟨by unfold PtAt;rw[List.length_append,show U (ps++[r])=U ps++[.int .u32 (r:Int)] by unfold U;rw[List.map_append];rfl];exact ho,⟨hg.os,hg.tape,hg.output,Nat.le_trans (by simp) hg.size,fun i hi hne=>(hg.block i (by simp;omega) hne).trans (Below.heap_alloc w o i hi)⟩,fun g e=> ?_⟩;rcases hat with h|h
 ·left;rw[←h];exact e
 ·right;rw[h] at e;simp at e;omega
end Go.Proofs.YtbhplgdbfmifkaaGreatDoor
