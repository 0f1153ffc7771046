/-
  Contracts of functions that the statement reaches, and plain laws: RatH, UniA, UniB, UniC, UniD, UniE, WhoA, WhoB, WhoC, PolyU, RatM, Up, UniF, KeepA, RowJ.
-/
import Derived.Test.YtlojjipfnejbnaaGreatDoorS19
import Derived.Test.YtlojjipfnejbnaaGreatDoorS25
import Derived.Test.YtlojjipfnejbnaaGreatDoorS26
import Derived.Test.YtlojjipfnejbnaaGreatDoorS27
import Derived.Test.YtlojjipfnejbnaaGreatDoorS28
set_option linter.unusedVariables false
set_option linter.unusedSimpArgs false
set_option maxHeartbeats 8000000
set_option maxRecDepth 100000
namespace Go.Proofs.YtlojjipfnejbnaaGreatDoor
open Go.RowKit Sos
theorem OJ (q:Rat):q=(q.num:Rat)/(q.den:Rat):=by
 conv=>lhs;rw[←Rat.mkRat_self q,Rat.mkRat_eq_div]
theorem OK (q:Rat):(q.den:Rat)≠0:=fun e=>q.den_nz (by exact_mod_cast e)
theorem tS (q:Rat) (D:Int) (h:(q.den:Int)∣D):((q.num*D.tdiv (q.den:Int):Int):Rat)=q*D:=by
 obtain⟨t,rfl⟩:=h;have h0:(q.den:Int)≠0:=by have:=q.den_nz;omega
 rw[Int.mul_tdiv_cancel_left _ h0,Rat.intCast_mul,Rat.intCast_mul,Rat.intCast_natCast];have h1:=OJ q;have h2:=OK q;generalize (q.num:Rat)=n at *;generalize (q.den:Rat)=d at *;rw[h1];grind
theorem OL (q:Rat) (D:Int) (h:q.den=1):((q.num*D:Int):Rat)=q*D:=by
 rw[Rat.intCast_mul];congr 1;exact Rat.ext rfl h.symm
def OM (w:World) (q:Rat) (D:Int) (B:Nat) (e:Ending) (w':World):Prop:=∃v n,e= .returned v∧IntAt w' v n∧(n:Rat)=q*D∧nl n.natAbs≤B∧Below w.heap.size w w'
theorem ON (q:Rat) (D:Int) (v u:Value) (w:World) (hq:RatAt w v q) (hD:IntAt w u D) (hdv:(q.den:Int)∣D) (K KB:Nat) (hK:RL K q) (hKD:nl D.natAbs≤KB) (hKB:5*K+KB+8≤aF):
  Calls Tryz.prog 136 #[v,u] w (OM w q D (K+KB)):=by
 unfold aF at hKB;obtain⟨s,A,k,c,s',A',k',c',rfl⟩:=hq.form;obtain⟨sD,AD,kD,cD,rfl⟩:=hD.form;obtain⟨hK1,hK2⟩:=hK;have hdl:=lO q;obtain⟨W,eW,hb,B1,B2,R⟩:=dK w [.bool s,.slice A k c,.bool s',.slice A' k' c'] 83 [.bool sD,.slice AD kD cD] 53 [.bool false,.slice none 0 0] 53;have cM:=aa B1.g4 (aa B2.g2 R.g2);go_enter Tryz.func136,Tryz.ntmps136;go_wp2_with fail;(try rw[eW]);clear eW;have hn:=(hq.below hb).num;have hd:=(hq.below hb).den;replace hD:=hD.below hb;refine(cU _ _ _ hd (by omega)).mono ?_;rintro e1 w1 ⟨rfl,hb1⟩;replace B1:=B1.below hb1;replace B2:=B2.below hb1;replace R:=R.below hb1;replace cM:=aa B1.k4 (aa B2.k2 R.g2);replace hk:=Keep.below hb1;replace hn:=hn.keep hk;replace hd:=hd.keep hk;replace hD:=hD.keep hk;replace hb:=aB hb hb1;by_cases h1:aS q=0
 ·have hdd:decide (aS q=0)=true:=by simpa using h1
  rw[hdd];have hres:=OL q D (dH.1 h1);have hbn:=bZ q.num D _ _ hK1 hKD;have hmul:=fun W v u h1 h2=>f8 q.num D v u W h1 h2 (by omega);unfold bW at hmul;generalize q.num*D=n at *;have HR:=Lib.hid hres;clear hdd h1 hres;go_wp2_with fail;refine(hmul _ _ _ hn hD).mono ?_;rintro e2 w2 ⟨v2,rfl,h2,hb2⟩;obtain⟨s2,A2,k2,c2,rfl⟩:=h2.form;replace B1:=B1.below hb2;replace B2:=B2.below hb2;replace R:=R.below hb2;replace cM:=aa B1.k4 (aa B2.k2 R.g2);replace hb:=aB hb hb2;clear hmul;go_wp2_with fail;obtain⟨W6,eW6,R,hb,hk,ff⟩:=R.put2 hb (by omega) (.bool s2) (.slice A2 k2 c2) rfl rfl;replace B1:=ff B1 (by omega);replace B2:=ff B2 (by omega);replace h2:=h2.keep hk;rw[eW6];clear eW6;replace cM:=aa B1.k4 (aa B2.k2 R.k2);exact bodyPost_ret (v:= .agg #[.bool s2,.slice A2 k2 c2]) (by simp[results,Tryz.results136,go_sem,R.k2]) rfl ⟨_,n,rfl,h2,HR.out,hbn,hb⟩
 ·have hdd:decide (aS q=0)=false:=by simpa using h1
  have hde:aS q=q.den:=iS (fun e=>h1 (dH.2 e));rw[hdd];have hres:=tS q D hdv;rw[←hde] at hres;have hbt:=gB D (aS q) _ hKD;have hbn:=bZ q.num (D.tdiv (aS q)) _ _ hK1 hbt;have hquo:=fun W v u h1' h2=>iC D (aS q) v u W h1' h2 h1 (by omega);have hmul:=fun W v u h1 h2=>f8 q.num (D.tdiv (aS q)) v u W h1 h2 (by omega);unfold bW at hmul hquo;generalize q.num*D.tdiv (aS q)=n at *;generalize D.tdiv (aS q)=t at *;have HR:=Lib.hid hres;clear hdd h1 hres hde;go_wp2_with fail;replace hn:=hn.drew;replace hd:=hd.drew;replace hD:=hD.drew;replace B1:=B1.drew;replace B2:=B2.drew;replace R:=R.drew;replace hb:=hb.drew;replace cM:=aa B1.k4 (aa B2.k2 R.g2);have n_R_B1:w.heap.size+1+1≠w.heap.size:=by omega
  have n_R_B2:w.heap.size+1+1≠w.heap.size+1:=by omega
  go_region_held3 (fun w'=>C4 w' w.heap.size (.bool s) (.slice A k c) (.bool s') (.slice A' k' c')∧C2 w' (w.heap.size+1) (.bool sD) (.slice AD kD cD))
   (first|(with_reducible exact⟨B1.k4,B2.k2⟩)|(refine⟨?_,?_⟩<;>(repeat (first|with_reducible exact B1.k4|with_reducible exact B2.k2|with_reducible refine fP n_R_B1 ?_|with_reducible refine dF n_R_B2 ?_))))
   (first
    |(go_at_call 112;(with_reducible refine(hquo _ _ _ hD hd).mono ?_);rintro e4 w4 ⟨v4,rfl,h4,hb4⟩;obtain⟨s4,A4,k4,c4,rfl⟩:=h4.form;replace B1:=B1.below hb4;replace B2:=B2.below hb4;replace R:=R.below hb4;replace cM:=aa B1.k4 (aa B2.k2 R.g2);replace hk:=Keep.below hb4;replace hn:=hn.keep hk;replace hd:=hd.keep hk;replace hD:=hD.keep hk;(try replace h5:=h5.keep hk);replace hb:=aB hb hb4)
    |(go_at_call 46;(with_reducible refine(hmul _ _ _ hn h4).mono ?_);rintro e5 w5 ⟨v5,rfl,h5,hb5⟩;obtain⟨s5,A5,k5,c5,rfl⟩:=h5.form;replace B1:=B1.below hb5;replace B2:=B2.below hb5;replace R:=R.below hb5;replace cM:=aa B1.k4 (aa B2.k2 R.g2);replace hk:=Keep.below hb5;replace hn:=hn.keep hk;replace hd:=hd.keep hk;replace hD:=hD.keep hk;(try replace h4:=h4.keep hk);replace hb:=aB hb hb5))
  clear hquo hmul;go_wp2_with fail;obtain⟨W6,eW6,R,hb,hk,ff⟩:=R.put2 hb (by omega) (.bool s5) (.slice A5 k5 c5) rfl rfl;replace B1:=ff B1 (by omega);replace B2:=ff B2 (by omega);replace h5:=h5.keep hk;rw[eW6];clear eW6;replace cM:=aa B1.k4 (aa B2.k2 R.k2);exact bodyPost_ret (v:= .agg #[.bool s5,.slice A5 k5 c5]) (by simp[results,Tryz.results136,go_sem,R.k2]) rfl ⟨_,n,rfl,h5,HR.out,hbn,hb⟩
def aT (ns:List Int) (d:Int):List Rat:=ns.map (fun n:Int=>(n:Rat)/(d:Rat))
theorem lF (n d:Int) (K:Nat) (hn:nl n.natAbs≤K) (hd:nl d.natAbs≤K) (h1:1≤K):RL K ((n:Rat)/d):=by
 rw[←Rat.divInt_eq_div];unfold RL;rw[Rat.num_divInt,Rat.den_divInt];constructor
 ·refine Nat.le_trans (aX ?_) hn;rw[Int.natAbs_ediv_of_dvd]
  ·refine Nat.le_trans (Nat.div_le_self _ _) ?_;rw[Int.natAbs_mul];have:d.sign.natAbs≤1:=by
    rcases Int.lt_trichotomy d 0 with h|h|h
    ·rw[Int.sign_eq_neg_one_of_neg h];decide
    ·rw[h];decide
    ·rw[Int.sign_eq_one_of_pos h];decide
   calc d.sign.natAbs*n.natAbs≤1*n.natAbs:=Nat.mul_le_mul_right _ this
    _=n.natAbs:=Nat.one_mul _
  ·exact Int.dvd_mul_of_dvd_right (Int.gcd_dvd_right ..)
 ·split
  ·rw[gM (by decide) (by decide)];exact h1
  ·exact Nat.le_trans (aX (Nat.div_le_self _ _)) hd
theorem EC (ns:List Int) (x:Int) (v vx:Value) (w:World) (hG:Glob w) (hv:WholeAt w v ns) (hx:IntAt w vx x) (K:Nat) (hK:∀n∈ns,nl n.natAbs≤K) (hKx:nl x.natAbs≤K) (hK2:5*K+4≤aF) (hl:ns.length≤1073741824):
  Calls Tryz.prog 56 #[v,vx] w fun e w'=>∃v',e= .returned v'∧RatsAt w' v' (aT ns x)∧Below w.heap.size w w':=by
 obtain⟨A,c,rfl,hc⟩:=hv.form;obtain⟨sx,Ax,kx,cx,rfl⟩:=hx.form;have hzl:(aT ns x).length=ns.length:=List.length_map _;have HZL:=Lib.hid hzl;clear hzl;have B1:Bx (w.alloc (.cells #[.bool sx,.slice Ax kx cx] 53)) (w.heap.size) [.bool sx,.slice Ax kx cx] 53:=Bx.newAt w [.bool sx,.slice Ax kx cx] 53 (w.heap.size) (by simp);have hb:Below w.heap.size w (w.alloc (.cells #[.bool sx,.slice Ax kx cx] 53)):=(Below.refl _ _).alloc (by simp) _;go_enter Tryz.func56,Tryz.ntmps56;go_wp2_with (at_make;refine eZ rfl rfl 83 _ 4 64 Tryz.underlying76 rU rfl (by decide) ns.length rfl rfl rfl rfl (by omega) (by omega) ?_;intro w1 hz1 hr1 hb1);have R0:OwnR w1 (w.heap.size+1) (List.replicate ns.length 0):=by
  have:=OwnR.made hr1;rw[World.size_alloc] at this;exact this
 replace B1:=B1.below hb1;replace hb:=aB hb hb1;clear hr1 hz1 hb1;go_loopg [13] ns.length (fun k i wr=>∃j,Hid (j+k=ns.length)∧i= .int .i64 j∧OwnR wr (w.heap.size+1) ((aT ns x).take j++List.replicate k 0)∧Bx wr w.heap.size [.bool sx,.slice Ax kx cx] 53∧Below w.heap.size w wr)
 case atStart=>exact⟨0,by unfold Hid;omega,rfl,by simpa using R0,B1,hb⟩
 case round=>
  clear R0 B1 hb;obtain⟨j,HJ,rfl,R,B1,hb⟩:=hrel;generalize wr=wy at *;have hj0:(0:Int)≤(j:Int):=by omega
  cases gk with
  |zero=>
   have hj:j=ns.length:=HJ.out;subst hj;rw[List.replicate_zero,List.append_nil,List.take_of_length_le (by rw[HZL.out];exact Nat.le_refl _)] at R;have hw:=R.rats ns.length (by rw[HZL.out];exact Nat.le_refl _);rw[HZL.out] at hw;go_wp2_with fail;go_ret;exact⟨_,rfl,hw,hb⟩
  |succ k=>
   obtain⟨n,hn⟩:∃n,ns[j]? =some n:=⟨_,List.getElem?_eq_getElem (by have:=HJ.out;omega)⟩;obtain⟨b,s,B,l,d,rfl,hbl,g0,g1,hi⟩:=(hv.below hb).at_ hn;have hkn:=hK n (List.mem_of_getElem? hn);have hj1:(j:Int)<(ns.length:Int):=by have:=HJ.out;omega
   have hym:(aT ns x)[j]? =some ((n:Rat)/x):=by unfold aT;rw[List.getElem?_map,hn];rfl
   have hfl:=kF (ys:=aT ns x) (z:=(0:Rat)) (j:=j) (k:=k+1) (by rw[HZL.out];exact HJ.out);have hfs:=kC (z:=(0:Rat)) (k:=k) hym;have hgx:j<((aT ns x).take j++List.replicate (k+1) 0).length:=by rw[hfl,HZL.out];have:=HJ.out;omega
   have HFS:=Lib.hid hfs;clear hym hfl hfs hn;have hxx:=hx.below hb;have hfr:=fun W hG h1 h2=>xW n x (.agg #[.bool s,.slice B l d]) (.agg #[.bool sx,.slice Ax kx cx]) W hG h1 h2 K hkn hKx hK2;unfold eV at hfr;generalize (n:Rat)/x=y at *;have B1_c10:∀o0:Obj,(wy.alloc o0).cell? ⟨w.heap.size,0,none⟩=some (.bool sx):=fun o0=>(B1.alloc o0).cell 0 rfl;have B1_g10:∀o0:Obj,(wy.alloc o0).frozen? ⟨w.heap.size,0,none⟩=false:=fun o0=>(B1.alloc o0).free 0;have B1_c11:∀o0:Obj,(wy.alloc o0).cell? ⟨w.heap.size,1,none⟩=some (.slice Ax kx cx):=fun o0=>(B1.alloc o0).cell 1 rfl;have B1_g11:∀o0:Obj,(wy.alloc o0).frozen? ⟨w.heap.size,1,none⟩=false:=fun o0=>(B1.alloc o0).free 1;go_wp2_with fail;replace R:=R.below ((Below.refl wy.heap.size wy).alloc (Nat.le_refl _) (.cells #[.bool s,.slice B l d] 53));have B1_ltwy:=B1.lt;have hszwy:=hb.size;replace B1:=B1.alloc (.cells #[.bool s,.slice B l d] 53);have X:=Bx.newAt wy [.bool s,.slice B l d] 53 (wy.heap.size) (by simp);replace hb:=hb.alloc hb.size (.cells #[.bool s,.slice B l d] 53);replace hk:=Keep.alloc wy (.cells #[.bool s,.slice B l d] 53);replace hi:=hi.keep hk;replace hxx:=hxx.keep hk;generalize wy.alloc (.cells #[.bool s,.slice B l d] 53)=W1 at *;replace B1_0:=B1.cell 0 rfl;replace B1_1:=B1.cell 1 rfl;replace X_0:=X.cell 0 rfl;replace X_1:=X.cell 1 rfl;clear B1_c10 B1_c11 B1_g10 B1_g11 g0 g1;refine(hfr _ (hG.below hb) hi hxx).mono ?_;rintro e2 w2 ⟨v2,rfl,h2,hb2⟩;obtain⟨s2,A2,k2,c2,s3,A3,k3,c3,rfl⟩:=h2.form;replace R:=R.below hb2;replace B1:=B1.below hb2;replace hb:=aB hb hb2;obtain⟨s',B',l',d',s'',B'',l'',d'',q0,q1,q2,q3, -⟩:=R.at_ (List.getElem?_eq_getElem hgx);have f0:=R.free (j*4);have f1:=R.free (j*4+1);have f2:=R.free (j*4+2);have f3:=R.free (j*4+3);clear hfr;go_wp2_with fail;obtain⟨hp,hst⟩:=R.stored hgx h2;rw[HFS.out] at hp;have B1':Bx _ w.heap.size [.bool sx,.slice Ax kx cx] 53:=(hst.2.1 w.heap.size (by omega)).trans B1;have hb':=dE hb hst (by omega);go_roundg k
   case rel=>exact⟨j+1,by have:=HJ.out;unfold Hid;omega,by go_num,hp,B1',hb'⟩
   case measure=>omega
theorem p7 (ns:List Int) (x:Int) (v vx:Value) (w:World) (hG:Glob w) (hv:WholeAt w v ns) (hx:IntAt w vx x) (K:Nat) (hK:∀n∈ns,nl n.natAbs≤K) (hKx:nl x.natAbs≤K) (hK1:1≤K) (hK2:K≤1073741824) (hl:ns.length≤1073741824):
  Calls Tryz.prog 47 #[v,vx] w fun e w'=>∃v',e= .returned v'∧StrsAt w' v' ((aT ns x).map aO)∧Below w.heap.size w w':=by
 obtain⟨A,c,rfl,hc⟩:=hv.form;obtain⟨sx,Ax,kx,cx,rfl⟩:=hx.form;have B1:Bx (w.alloc (.cells #[.bool sx,.slice Ax kx cx] 53)) (w.heap.size) [.bool sx,.slice Ax kx cx] 53:=Bx.newAt w [.bool sx,.slice Ax kx cx] 53 (w.heap.size) (by simp);have hb:Below w.heap.size w (w.alloc (.cells #[.bool sx,.slice Ax kx cx] 53)):=(Below.refl _ _).alloc (by simp) _;go_enter Tryz.func47,Tryz.ntmps47;go_wp2_with fail;generalize w.alloc (.cells #[.bool sx,.slice Ax kx cx] 53)=W at *;refine(EC ns x _ _ _ (hG.below hb) (hv.below hb) (hx.below hb) K hK hKx (by unfold aF;omega) hl).mono ?_;rintro e1 w1 ⟨v1,rfl,h1,hb1⟩;replace hb:=aB hb hb1;go_wp2_with fail
 ((with_reducible refine(xT (aT ns x) _ _ (hG.below hb) h1 K (fun q hq=>by
  unfold aT at hq;obtain⟨n,hn,rfl⟩:=List.mem_map.1 hq;exact lF n x K (hK n hn) hKx hK1) hK2 (by unfold aT;rw[List.length_map];exact hl)).mono ?_))
 rintro e2 w2 ⟨v2,rfl,h2,hb2⟩;go_wp2;go_ret;exact⟨_,rfl,h2,aB hb hb2⟩
def aI (qs:List Rat) (D:Int):List Int:=qs.map (fun q=>q.num*D.tdiv (q.den:Int))
theorem lD (qs:List Rat) (D:Int) (h:∀q∈qs,(q.den:Int)∣D) (i:Nat):((cf (aI qs D) i:Int):Rat)=cf qs i*D:=by
 unfold aI cf;rw[List.getD_eq_getElem?_getD,List.getD_eq_getElem?_getD,List.getElem?_map];cases hq:qs[i]? with
 |none=>
  show((0:Int):Rat)=0*(D:Rat)
  rw[Rat.intCast_zero];grind
 |some q=>exact tS q D (h q (List.mem_of_getElem? hq))
theorem iK (qs:List Rat) (D:Int) (K B:Nat) (hK:∀q∈qs,RL K q) (hD:nl D.natAbs≤B):∀n∈aI qs D,nl n.natAbs≤K+B:=by
 intro n hn;unfold aI at hn;obtain⟨q,hq,rfl⟩:=List.mem_map.1 hn;exact bZ _ _ _ _ (hK q hq).1 (gB _ _ _ hD)
def OI (w:World) (qs:List Rat) (B:Nat) (e:Ending) (w':World):Prop:=
 ∃b n c vd D,e= .returned (.tuple #[.slice (some ⟨b,0,none⟩) n c,vd])∧w.heap.size≤b∧WholeAt w' (.slice (some ⟨b,0,none⟩) n c) (aH aG (aI qs D))∧IntAt w' vd D∧ComDen qs D B∧Below w.heap.size w w'
theorem EB (qs:List Rat) (v:Value) (w:World) (hG:Glob w) (hv:RatsAt w v qs) (K KB:Nat) (hK:∀q∈qs,RL K q) (hl:qs.length≤1073741824) (hKB:1+qs.length*K≤KB) (hKB1:K≤KB) (hKB2:6*KB+8≤aF):
  Calls Tryz.prog 90 #[v] w (OI w qs (1+qs.length*K)):=by
 obtain⟨A,c,rfl,hc⟩:=hv.form;have R:Bx (w.alloc (.cells #[.bool false,.slice none 0 0] 53)) (w.heap.size) [.bool false,.slice none 0 0] 53:=Bx.newAt w [.bool false,.slice none 0 0] 53 (w.heap.size) (by simp);have hb:Below w.heap.size w (w.alloc (.cells #[.bool false,.slice none 0 0] 53)):=(Below.refl _ _).alloc (by simp) _;go_enter Tryz.func90,Tryz.ntmps90;go_wp2_with fail;generalize w.alloc (.cells #[.bool false,.slice none 0 0] 53)=W at *;refine(OQ qs _ _ (hG.below hb) (hv.below hb) K KB hK hl hKB hKB1 (by omega)).mono ?_;rintro e1 w1 ⟨v1,D,rfl,h1,hcd,hb1⟩;obtain⟨s1,A1,k1,c1,rfl⟩:=h1.form;replace R:=R.below hb1;replace R_0:=R.cell 0 rfl;replace R_f0:=R.free 0;replace R_1:=R.cell 1 rfl;replace R_f1:=R.free 1;replace hk:=Keep.below hb1;replace hb:=aB hb hb1;have hDn:=hcd.nl_;have hzl:(aI qs D).length=qs.length:=List.length_map _;have HZL:=Lib.hid hzl;have hnn:=iK qs D K _ hK hDn;clear hzl;go_wp2_with (at_make;refine eZ rfl rfl 53 _ 2 32 Tryz.underlying50 jZ rfl (by decide) qs.length rfl rfl rfl rfl (by omega) (by omega) ?_;intro w2 hz2 hr2 hb2);have R0:OwnW w2 (w1.heap.size+1) (List.replicate qs.length 0):=by
  have:=OwnW.made hr2;rw[World.size_alloc] at this;exact this
 have hlt:=R.lt;have hb12:Below w1.heap.size w1 w2:=((Below.refl _ _).alloc (Nat.le_refl _) _).trans (hb2.mono (by simp));have hC0:IntBx w2 w1.heap.size D:=⟨_,_,_,_,(Bx.new w1 [.bool s1,.slice A1 k1 c1] 53).below hb2,h1.below hb12⟩;have hR0:=R.below hb12;have hb0:=aB hb hb12;clear hr2 hz2 hb2 hb12 R h1 hb R_0 R_1 R_f0 R_f1 hk;go_loopg [15] qs.length (fun k i wr=>∃j,Hid (j+k=qs.length)∧i= .int .i64 j∧OwnW wr (w1.heap.size+1) ((aI qs D).take j++List.replicate k 0)∧IntBx wr w1.heap.size D∧Bx wr w.heap.size [.bool false,.slice none 0 0] 53∧Below w.heap.size w wr)
 case atStart=>exact⟨0,by unfold Hid;omega,rfl,by simpa using R0,hC0,hR0,hb0⟩
 case round=>
  clear R0 hC0 hR0 hb0;obtain⟨j,HJ,rfl,N,hC,R,hb⟩:=hrel;generalize wr=wy at *;have hj0:(0:Int)≤(j:Int):=by omega
  obtain⟨sc,Ac,kc,cc,C,hD⟩:=id hC;cases gk with
  |zero=>
   have hj:j=qs.length:=HJ.out;subst hj;rw[List.replicate_zero,List.append_nil,List.take_of_length_le (by rw[HZL.out];exact Nat.le_refl _)] at N;have hw:=N.whole qs.length (by rw[HZL.out];exact Nat.le_refl _);have htr:=fun W h=>oJ (aI qs D) (some ⟨w1.heap.size+1,0,none⟩) qs.length W h (K+(1+qs.length*K)) hnn (by unfold aF at hKB2;omega) (by rw[HZL.out];omega);rw[HZL.out] at htr hw;replace hw:=hw.drew;replace hC:=hC.below (Below.refl _ _).drew;go_wp2_with fail;replace R:=R.drew;replace C:=C.drew;replace hD:=hD.drew;replace hb:=hb.drew;have n_R_C:w.heap.size≠w1.heap.size:=by omega
   replace R_0:=R.cell 0 rfl;replace R_f0:=R.free 0;replace R_1:=R.cell 1 rfl;replace R_f1:=R.free 1;replace C_0:=C.cell 0 rfl;replace C_f0:=C.free 0;replace C_1:=C.cell 1 rfl;replace C_f1:=C.free 1;obtain⟨T,HT⟩:∃T,Hid (aH aG (aI qs D)=T):=⟨_,rfl⟩;rw[HT.out] at htr
   go_region_held3 (fun w'=>w'.cell? ⟨w1.heap.size,0,none⟩=some (.bool sc)∧w'.cell? ⟨w1.heap.size,1,none⟩=some (.slice Ac kc cc))
    (first|(with_reducible exact⟨C_0,C_1⟩)|(with_reducible exact⟨(aK _ _ _ _ _ _ n_R_C).trans ((aK _ _ _ _ _ _ n_R_C).trans C_0),(aK _ _ _ _ _ _ n_R_C).trans ((aK _ _ _ _ _ _ n_R_C).trans C_1)⟩))
    (first
     |(go_at_call 43;(with_reducible refine(htr _ hw).mono ?_);rintro e6 w6 ⟨rfl,h6,hb6⟩;replace hD:=hD.below hb6;replace R:=R.below hb6;replace C:=C.below hb6;replace C_0:=C.cell 0 rfl;replace C_1:=C.cell 1 rfl;replace R_0:=R.cell 0 rfl;replace R_1:=R.cell 1 rfl;replace R_f0:=R.free 0;replace R_f1:=R.free 1;replace hb:=aB hb hb6))
   go_wp2_with fail;obtain⟨-,hst⟩:=IntBx.stored (w:=w6) (b:=w.heap.size) (m:=0) ⟨_,_,_,_,R,IntAt.zero _⟩ hD;have z6:=h6.step hst (fun b e=>by injection e with e;injection e with e;omega);have zm:=hD.keep hst.1;have zb:=dE hb hst (Nat.le_refl _);obtain⟨z0,z1, -, -, -⟩:=gE (s:=sc) (u:= .slice Ac kc cc) hb (Nat.le_refl _) R;clear hst;generalize (w6.setCell ⟨w.heap.size,0,none⟩ (.bool sc)).setCell ⟨w.heap.size,1,none⟩ (.slice Ac kc cc)=W6 at *;exact bodyPost_ret (v:= .tuple #[.slice (some ⟨w1.heap.size+1,0,none⟩) T.length qs.length,.agg #[.bool sc,.slice Ac kc cc]]) (by simp[results,Tryz.results90,go_sem,z0,z1]) rfl ⟨_,_,_,_,D,rfl,by omega,by rw[HT.out];exact z6,zm,hcd,zb⟩
  |succ k=>
   obtain⟨q,hq⟩:∃q,qs[j]? =some q:=⟨_,List.getElem?_eq_getElem (by have:=HJ.out;omega)⟩;obtain⟨b,s,B,m,d,s',B',m',d',rfl,hbl,g0,g1,g2,g3,hi⟩:=(hv.below hb).at_ hq;have hKq:=hK q (List.mem_of_getElem? hq);have hdv:=hcd.dvd q (List.mem_of_getElem? hq);have hj1:(j:Int)<(qs.length:Int):=by have:=HJ.out;omega
   have hym:(aI qs D)[j]? =some (q.num*D.tdiv (q.den:Int)):=by unfold aI;rw[List.getElem?_map,hq];rfl
   have hfl:=kF (ys:=aI qs D) (z:=(0:Int)) (j:=j) (k:=k+1) (by rw[HZL.out];exact HJ.out);have hfs:=kC (z:=(0:Int)) (k:=k) hym;have hgx:j<((aI qs D).take j++List.replicate (k+1) 0).length:=by rw[hfl,HZL.out];have:=HJ.out;omega
   have hun:∀n:Int,(n:Rat)=q*D→n=q.num*D.tdiv (q.den:Int):=fun n h=>Rat.intCast_inj.1 (h.trans (tS q D hdv).symm);have HUN:=Lib.hid hun;have HFS:=Lib.hid hfs;clear hym hfl hfs hq hun;have C_c10:∀o0:Obj,(wy.alloc o0).cell? ⟨w1.heap.size,0,none⟩=some (.bool sc):=fun o0=>(C.alloc o0).cell 0 rfl;have C_g10:∀o0:Obj,(wy.alloc o0).frozen? ⟨w1.heap.size,0,none⟩=false:=fun o0=>(C.alloc o0).free 0;have C_c11:∀o0:Obj,(wy.alloc o0).cell? ⟨w1.heap.size,1,none⟩=some (.slice Ac kc cc):=fun o0=>(C.alloc o0).cell 1 rfl;have C_g11:∀o0:Obj,(wy.alloc o0).frozen? ⟨w1.heap.size,1,none⟩=false:=fun o0=>(C.alloc o0).free 1;go_wp2_with fail;replace N:=N.alloc (.cells #[.bool s,.slice B m d,.bool s',.slice B' m' d'] 83);have C_ltwy:=C.lt;have R_ltwy:=R.lt;have hszwy:=hb.size;replace C:=C.alloc (.cells #[.bool s,.slice B m d,.bool s',.slice B' m' d'] 83);replace R:=R.alloc (.cells #[.bool s,.slice B m d,.bool s',.slice B' m' d'] 83);have X:=Bx.newAt wy [.bool s,.slice B m d,.bool s',.slice B' m' d'] 83 (wy.heap.size) (by simp);replace hb:=hb.alloc hb.size (.cells #[.bool s,.slice B m d,.bool s',.slice B' m' d'] 83);replace hk:=Keep.alloc wy (.cells #[.bool s,.slice B m d,.bool s',.slice B' m' d'] 83);replace hi:=hi.keep hk;replace hD:=hD.keep hk;generalize wy.alloc (.cells #[.bool s,.slice B m d,.bool s',.slice B' m' d'] 83)=wa at *;replace C_0:=C.cell 0 rfl;replace C_1:=C.cell 1 rfl;replace R_0:=R.cell 0 rfl;replace R_1:=R.cell 1 rfl;replace X_0:=X.cell 0 rfl;replace X_1:=X.cell 1 rfl;replace X_2:=X.cell 2 rfl;replace X_3:=X.cell 3 rfl;clear C_c10 C_c11 C_g10 C_g11 g0 g1 g2 g3 hC;refine(ON q D _ _ _ hi hD hdv K (1+qs.length*K) hKq hDn (by omega)).mono ?_;rintro e2 w2' ⟨v2,n,rfl,h2,hn2, -,hb2⟩;have hn3:=HUN.out n hn2;subst hn3;clear hn2 HUN;obtain⟨s2,A2,k2,c2,rfl⟩:=h2.form;replace N:=N.below hb2;replace C:=C.below hb2;replace R:=R.below hb2;replace hD:=hD.below hb2;replace hb:=aB hb hb2;obtain⟨s',B',l',d',q0,q1, -⟩:=N.at_ (List.getElem?_eq_getElem hgx);have f0:=N.free (j*2);have f1:=N.free (j*2+1);generalize q.num*D.tdiv (q.den:Int)=y at *;go_wp2_with fail;obtain⟨hp,hst⟩:=N.stored hgx h2;rw[HFS.out] at hp;have zC:=IntBx.step ⟨_,_,_,_,C,hD⟩ hst (by omega);have zR:Bx _ w.heap.size [.bool false,.slice none 0 0] 53:=(hst.2.1 w.heap.size (by omega)).trans R;have hb':=dE hb hst (by omega);go_roundg k
   case rel=>exact⟨j+1,by have:=HJ.out;unfold Hid;omega,by go_num,hp,zC,zR,hb'⟩
   case measure=>omega
def vl (ls:List (List UInt8)):Bool:=decide (ls.length≤65∧ls.all rd=true∧(aE ls).getLast?≠some 0)
theorem E8 (qs:List Rat):aN qs↔qs.getLast?≠some 0:=⟨fun h e=>h 0 e rfl,fun h a ha e=>h (by rw[ha,e])⟩
theorem fD {ls:List (List UInt8)} (h:vl ls=true):ls.length≤65∧ls.all rd=true∧aN (aE ls):=by
 unfold vl at h;rw[decide_eq_true_iff] at h;exact⟨h.1,h.2.1,(E8 _).2 h.2.2⟩
theorem gR {qs:List Rat} {D:Int} (hD:0<D) (hdv:∀q∈qs,(q.den:Int)∣D) (h:aN qs):aN (aI qs D):=by
 intro a ha e;unfold aI at ha;rw[List.getLast?_map] at ha;cases hq:qs.getLast? with
 |none=>rw[hq] at ha;simp at ha
 |some q=>
  rw[hq] at ha;simp only[Option.map_some,Option.some.injEq] at ha;have h1:=tS q D (hdv q (List.mem_of_getLast? hq));rw[ha,e,Rat.intCast_zero] at h1;have h2:(D:Rat)≠0:=fun e=>(show D≠0 by omega) (Rat.intCast_inj.1 e);rcases Rat.mul_eq_zero.1 h1.symm with h3|h3
  ·exact h q hq h3
  ·exact h2 h3
theorem tR (n c:Nat) (A:Option Addr) (w:World) (hn:n≤1073741824):Calls Tryz.prog 88 #[.slice A n c] w fun e w'=>e= .returned (.bool (decide (n≤65)))∧w'=w:=by
 by_cases h:n≤65
 ·have h':(n:Int)≤65:=by omega
  have hd:decide (n≤65)=true:=by simpa using h
  rw[hd];go_enter Tryz.func88,Tryz.ntmps88;go_wp2;go_ret;exact⟨rfl,rfl⟩
 ·have h':¬(n:Int)≤65:=by omega
  have hd:decide (n≤65)=false:=by simpa using h
  rw[hd];go_enter Tryz.func88,Tryz.ntmps88;go_wp2;go_ret;exact⟨rfl,rfl⟩
theorem ComDen.mono {qs:List Rat} {D:Int} {B B':Nat} (h:ComDen qs D B) (hB:B≤B'):ComDen qs D B':=⟨h.pos,h.dvd,Nat.le_trans h.nl_ hB⟩
def EA (w:World) (ls:List (List UInt8)) (B:Nat) (e:Ending) (w':World):Prop:=
 ∃v vd ns D,e= .returned (.tuple #[v,vd,.bool (vl ls)])∧WholeAt w' v ns∧IntAt w' vd D∧(vl ls=true→ns=aI (aE ls) D∧ComDen (aE ls) D B)∧Below w.heap.size w w'
theorem mJ (ls:List (List UInt8)) (v:Value) (w:World) (hG:Glob w) (hv:StrsAt w v ls) (hl:ls.length≤1073741824) (hll:ls.length≤65→∀l∈ls,l.length≤1073741824) (K KB L:Nat) (hK:ls.length≤65→∀q∈aE ls,RL K q) (hL:ls.length≤65→ls.length≤L) (hL1:1≤L) (hKB:1+L*K≤KB) (hKB2:6*KB+8≤aF):
  Calls Tryz.prog 40 #[v] w (EA w ls (1+L*K)):=by
 have hKL:K≤L*K:=Nat.le_mul_of_pos_left K hL1;obtain⟨A,c,rfl,hc⟩:=hv.form;obtain⟨W,eW,hb,R⟩:=bA w [.bool false,.slice none 0 0] 53;have cM:=R.g2;go_enter Tryz.func40,Tryz.ntmps40;go_wp2_with fail;(try rw[eW]);clear eW;refine(jK 1 _ (by decide) (by decide)).mono ?_;rintro e1 w1 ⟨v1,rfl,h1,hb1⟩;obtain⟨s1,A1,k1,c1,rfl⟩:=h1.form;replace R:=R.below hb1;replace cM:=R.g2;replace hb:=aB hb hb1;go_wp2_with fail;have R_l:=R.lt;have hsz_:=hb.size;obtain⟨w2,ew2,hA,O⟩:=bA w1 [.bool s1,.slice A1 k1 c1] 53;replace R:=R.below hA;replace hk:=Keep.below hA;replace hb:=aB hb hA;replace h1:=h1.keep hk;rw[ew2];clear ew2;replace cM:=aa R.g2 O.g2;refine(tR ls.length c A _ hl).mono ?_;rintro e3 w3 ⟨rfl,rfl⟩;by_cases h65:ls.length≤65
 ·have hd:decide (ls.length≤65)=true:=by simpa using h65
  rw[hd];clear hd;go_wp2_with fail;refine(OU ls _ _ (hG.below hb) (hv.below hb) hl (hll h65)).mono ?_;rintro e4 w4 ⟨v4,rfl,h4,hb4⟩;replace R:=R.below hb4;replace O:=O.below hb4;replace cM:=aa R.g2 O.g2;replace hk:=Keep.below hb4;replace h1:=h1.keep hk;replace hb:=aB hb hb4;cases hall:ls.all rd with
  |false=>
   have hvl:vl ls=false:=by unfold vl;rw[decide_eq_false_iff_not];exact fun h=>by rw[hall] at h;exact absurd h.2.1 (by simp)
   have HV:=Lib.hid hvl;clear hvl h4;go_wp2_with fail;go_region
   all_goals (
    go_wp2_with fail;have R_l:=R.lt;have O_l:=O.lt;have hsz_:=hb.size;obtain⟨W6,eW6,R,hb,hk,ff⟩:=R.put2 hb (by omega) (.bool s1) (.slice A1 k1 c1) rfl rfl;replace O:=ff O (by omega);replace h1:=h1.keep hk;rw[eW6];clear eW6;replace cM:=aa R.k2 O.k2;exact bodyPost_ret (v:= .tuple #[.slice none 0 0,.agg #[.bool s1,.slice A1 k1 c1],.bool false]) (by simp[results,Tryz.results40,go_sem,R.k2]) rfl ⟨_,_,[],1,by rw[HV.out],WholeAt.nil _ _ _,h1.drew,(fun h=>by rw[HV.out] at h;cases h),hb.drew⟩)
  |true=>
   have hrs:=h4 hall;obtain⟨A4,c4,rfl,hc4⟩:=hrs.form;have hrl:(aE ls).length=ls.length:=List.length_map _;have HAL:=Lib.hid hall;have hK':=hK h65;clear h4 hall;generalize hqs:aE ls=qs at *;have HQS:=Lib.hid hqs;have hr1:qs.length≤65:=by omega
   have hr2:qs.length≤L:=by have:=hL h65;omega
   clear hqs hrl;by_cases h0:qs.length=0
   ·have hq0:qs=[]:=List.eq_nil_of_length_eq_zero h0;have htr:aN qs:=fun a h=>by rw[hq0] at h;simp at h
    have hvl:vl ls=true:=by unfold vl;rw[decide_eq_true_iff,HQS.out,HAL.out,hq0];exact⟨h65,rfl,by simp⟩
    have h0':¬(0:Int)<(qs.length:Int):=by omega
    clear hq0 h0;go_wp2_with fail;refine(EB qs _ _ (hG.below hb) hrs K KB hK' (by omega) (by have:qs.length*K≤L*K:=Nat.mul_le_mul_right _ hr2;omega) (by omega) hKB2).mono ?_;rintro e5 w5 ⟨b5,n5,c5,vd5,D,rfl,hb5l,h5,hd5,hcd,hb5⟩;rw[nZ (gR hcd.pos hcd.dvd htr)] at h5;obtain⟨A5,c9,e5,hc5⟩:=h5.form;simp only[Value.slice.injEq] at e5;obtain⟨-,rfl, -⟩:=e5;have hRl:=R.lt;obtain⟨s6,A6,k6,c6,rfl⟩:=hd5.form;replace R:=R.below hb5;replace O:=O.below hb5;replace cM:=aa R.g2 O.g2;replace hk:=Keep.below hb5;replace h1:=h1.keep hk;replace hb:=aB hb hb5;have R_c10:∀o0:Obj,(w5.alloc o0).cell? ⟨w.heap.size,0,none⟩=some (.bool false):=fun o0=>(R.alloc o0).cell 0 rfl;have R_g10:∀o0:Obj,(w5.alloc o0).frozen? ⟨w.heap.size,0,none⟩=false:=fun o0=>(R.alloc o0).free 0;have R_c11:∀o0:Obj,(w5.alloc o0).cell? ⟨w.heap.size,1,none⟩=some (.slice none 0 0):=fun o0=>(R.alloc o0).cell 1 rfl;have R_g11:∀o0:Obj,(w5.alloc o0).frozen? ⟨w.heap.size,1,none⟩=false:=fun o0=>(R.alloc o0).free 1;have hcd':=hcd.mono (show 1+qs.length*K≤1+L*K by have:qs.length*K≤L*K:=Nat.mul_le_mul_right _ hr2;omega);have HN:=Lib.hid (show vl ls=true∧aI qs D=aI (aE ls) D∧ComDen (aE ls) D (1+L*K) from⟨hvl,by rw[HQS.out],by rw[HQS.out];exact hcd'⟩);generalize aI qs D=ns at *;clear hcd hcd' htr hvl hrs;go_wp2_with fail;have R_l:=R.lt;have O_l:=O.lt;have hsz_:=hb.size;obtain⟨w7,ew7,hA,X⟩:=bA w5 [.bool s6,.slice A6 k6 c6] 53;replace R:=R.below hA;replace O:=O.below hA;replace hk:=Keep.below hA;replace hb:=aB hb hA;replace h1:=h1.keep hk;replace hd5:=hd5.keep hk;rw[ew7];clear ew7;replace cM:=aa R.g2 (aa O.k2 X.g2);replace h5:=h5.below hA;go_region
    all_goals (
     go_wp2_with fail;obtain⟨-,hst⟩:=IntBx.stored (w:=w7) (b:=w.heap.size) (m:=0) ⟨_,_,_,_,R,IntAt.zero _⟩ hd5;have z5:=h5.step hst (fun b e=>by injection e with e;injection e with e;omega);have R_l:=R.lt;have O_l:=O.lt;have X_l:=X.lt;have hsz_:=hb.size;obtain⟨W6,eW6,R,hb,hk,ff⟩:=R.put2 hb (by omega) (.bool s6) (.slice A6 k6 c6) rfl rfl;replace O:=ff O (by omega);replace X:=ff X (by omega);replace hd5:=hd5.keep hk;rw[eW6];rw[eW6] at z5;clear eW6;replace cM:=aa R.k2 (aa O.k2 X.k2);exact bodyPost_ret (v:= .tuple #[.slice (some ⟨b5,0,none⟩) ns.length c5,.agg #[.bool s6,.slice A6 k6 c6],.bool true]) (by simp[results,Tryz.results40,go_sem,R.k2]) rfl ⟨_,_,ns,D,by rw[HN.out.1],z5.drew,hd5.drew,(fun _=>HN.out.2),hb.drew⟩)
   ·obtain⟨m,hm⟩:∃m,qs.length=m+1:=⟨qs.length-1,by omega⟩;have h0':(0:Int)<(qs.length:Int):=by omega
    have e1:(qs.length:Int)-1=(m:Int):=by omega
    have i0:(0:Int)≤(m:Int):=by omega
    have i1:(m:Int)<(qs.length:Int):=by omega
    obtain⟨q,hq⟩:∃q,qs[m]? =some q:=⟨_,List.getElem?_eq_getElem (by omega)⟩;obtain⟨b,s,B,l,d,s',B',l',d',rfl,hbl,g0,g1,g2,g3,hi⟩:=hrs.at_ hq;have hla:qs.getLast?=some q:=by rw[List.getLast?_eq_getElem?,hm];exact hq
    have hKq:=(hK' q (List.mem_of_getElem? hq)).1;have hvv:vl ls=decide (q≠0):=by
     unfold vl;rw[HQS.out,HAL.out,hla,Bool.eq_iff_iff,decide_eq_true_iff,decide_eq_true_iff];exact⟨fun h e=>h.2.2 (by rw[e]),fun h=>⟨h65,rfl,fun e=>h (by injection e)⟩⟩
    have HVV:=Lib.hid hvv;have HLA:=Lib.hid hla;clear hq hm h0 hvv hla;go_wp2_with fail;refine(EE q _ _ hi (by unfold aF at hKB2;omega)).mono ?_;rintro e8 w8 ⟨rfl,hb8⟩;replace R:=R.below hb8;replace O:=O.below hb8;replace cM:=aa R.g2 O.g2;replace hk:=Keep.below hb8;replace h1:=h1.keep hk;replace hb:=aB hb hb8;replace hrs:=hrs.below hb8;by_cases hz:q=0
    ·have hd:decide (q=0)=true:=by simpa using hz
     have hvl:vl ls=false:=by rw[HVV.out];simpa using hz
     have HV:=Lib.hid hvl;rw[hd];clear hd hvl hz;go_wp2_with fail;go_region
     all_goals (
      go_wp2_with fail;have R_l:=R.lt;have O_l:=O.lt;have hsz_:=hb.size;obtain⟨W6,eW6,R,hb,hk,ff⟩:=R.put2 hb (by omega) (.bool s1) (.slice A1 k1 c1) rfl rfl;replace O:=ff O (by omega);replace h1:=h1.keep hk;rw[eW6];clear eW6;replace cM:=aa R.k2 O.k2;exact bodyPost_ret (v:= .tuple #[.slice none 0 0,.agg #[.bool s1,.slice A1 k1 c1],.bool false]) (by simp[results,Tryz.results40,go_sem,R.k2]) rfl ⟨_,_,[],1,by rw[HV.out],WholeAt.nil _ _ _,h1.drew,(fun h=>by rw[HV.out] at h;cases h),hb.drew⟩)
    ·have hd:decide (q=0)=false:=by simpa using hz
     have hvl:vl ls=true:=by rw[HVV.out];simpa using hz
     have htr:aN qs:=(E8 qs).2 (by rw[HLA.out];intro e;injection e with e;exact hz e);rw[hd];clear hd hz g0 g1 g2 g3 hi;go_wp2_with fail;refine(EB qs _ _ (hG.below hb) hrs K KB hK' (by omega) (by have:qs.length*K≤L*K:=Nat.mul_le_mul_right _ hr2;omega) (by omega) hKB2).mono ?_;rintro e5 w5 ⟨b5,n5,c5,vd5,D,rfl,hb5l,h5,hd5,hcd,hb5⟩;rw[nZ (gR hcd.pos hcd.dvd htr)] at h5;obtain⟨A5,c9,e5,hc5⟩:=h5.form;simp only[Value.slice.injEq] at e5;obtain⟨-,rfl, -⟩:=e5;have hRl:=R.lt;obtain⟨s6,A6,k6,c6,rfl⟩:=hd5.form;replace R:=R.below hb5;replace O:=O.below hb5;replace cM:=aa R.g2 O.g2;replace hk:=Keep.below hb5;replace h1:=h1.keep hk;replace hb:=aB hb hb5;have R_c10:∀o0:Obj,(w5.alloc o0).cell? ⟨w.heap.size,0,none⟩=some (.bool false):=fun o0=>(R.alloc o0).cell 0 rfl;have R_g10:∀o0:Obj,(w5.alloc o0).frozen? ⟨w.heap.size,0,none⟩=false:=fun o0=>(R.alloc o0).free 0;have R_c11:∀o0:Obj,(w5.alloc o0).cell? ⟨w.heap.size,1,none⟩=some (.slice none 0 0):=fun o0=>(R.alloc o0).cell 1 rfl;have R_g11:∀o0:Obj,(w5.alloc o0).frozen? ⟨w.heap.size,1,none⟩=false:=fun o0=>(R.alloc o0).free 1;have hcd':=hcd.mono (show 1+qs.length*K≤1+L*K by have:qs.length*K≤L*K:=Nat.mul_le_mul_right _ hr2;omega);have HN:=Lib.hid (show vl ls=true∧aI qs D=aI (aE ls) D∧ComDen (aE ls) D (1+L*K) from⟨hvl,by rw[HQS.out],by rw[HQS.out];exact hcd'⟩);generalize aI qs D=ns at *;clear hcd hcd' htr hvl hrs;go_wp2_with fail;have R_l:=R.lt;have O_l:=O.lt;have hsz_:=hb.size;obtain⟨w7,ew7,hA,X⟩:=bA w5 [.bool s6,.slice A6 k6 c6] 53;replace R:=R.below hA;replace O:=O.below hA;replace hk:=Keep.below hA;replace hb:=aB hb hA;replace h1:=h1.keep hk;replace hd5:=hd5.keep hk;rw[ew7];clear ew7;replace cM:=aa R.g2 (aa O.k2 X.g2);replace h5:=h5.below hA;go_region
     all_goals (
      go_wp2_with fail;obtain⟨-,hst⟩:=IntBx.stored (w:=w7) (b:=w.heap.size) (m:=0) ⟨_,_,_,_,R,IntAt.zero _⟩ hd5;have z5:=h5.step hst (fun b e=>by injection e with e;injection e with e;omega);have R_l:=R.lt;have O_l:=O.lt;have X_l:=X.lt;have hsz_:=hb.size;obtain⟨W6,eW6,R,hb,hk,ff⟩:=R.put2 hb (by omega) (.bool s6) (.slice A6 k6 c6) rfl rfl;replace O:=ff O (by omega);replace X:=ff X (by omega);replace hd5:=hd5.keep hk;rw[eW6];rw[eW6] at z5;clear eW6;replace cM:=aa R.k2 (aa O.k2 X.k2);exact bodyPost_ret (v:= .tuple #[.slice (some ⟨b5,0,none⟩) ns.length c5,.agg #[.bool s6,.slice A6 k6 c6],.bool true]) (by simp[results,Tryz.results40,go_sem,R.k2]) rfl ⟨_,_,ns,D,by rw[HN.out.1],z5.drew,hd5.drew,(fun _=>HN.out.2),hb.drew⟩)
 ·have hd:decide (ls.length≤65)=false:=by simpa using h65
  have hvl:vl ls=false:=by unfold vl;rw[decide_eq_false_iff_not];exact fun h=>h65 h.1
  have HV:=Lib.hid hvl;rw[hd];clear hd hvl;go_wp2_with fail;go_region
  all_goals (
   go_wp2_with fail;have R_l:=R.lt;have O_l:=O.lt;have hsz_:=hb.size;obtain⟨W6,eW6,R,hb,hk,ff⟩:=R.put2 hb (by omega) (.bool s1) (.slice A1 k1 c1) rfl rfl;replace O:=ff O (by omega);replace h1:=h1.keep hk;rw[eW6];clear eW6;replace cM:=aa R.k2 O.k2;exact bodyPost_ret (v:= .tuple #[.slice none 0 0,.agg #[.bool s1,.slice A1 k1 c1],.bool false]) (by simp[results,Tryz.results40,go_sem,R.k2]) rfl ⟨_,_,[],1,by rw[HV.out],WholeAt.nil _ _ _,h1.drew,(fun h=>by rw[HV.out] at h;cases h),hb.drew⟩)
theorem qL (ls:List (List UInt8)) (v:Value) (w:World) (hG:Glob w) (hv:StrsAt w v ls) (hl:ls.length≤1073741824) (hll:ls.length≤65→∀l∈ls,l.length≤1073741824) (K KB:Nat) (hK:ls.length≤65→∀q∈aE ls,RL K q) (hKB:1+65*K≤KB) (hKB2:6*KB+8≤aF):
  Calls Tryz.prog 40 #[v] w (EA w ls (1+65*K)):=
 mJ ls v w hG hv hl hll K KB 65 hK id (by decide) hKB hKB2
def dW (w:World) (qs:List Rat) (e:Ending) (w':World):Prop:=
 ∃v',e= .returned (.tuple #[v',.int .i64 (if qs.length≤65 then 0 else 2)])∧StrsAt w' v' (if qs.length≤65 then qs.map aO else [])∧Below w.heap.size w w'
theorem xS (qs:List Rat) (v:Value) (w:World) (hG:Glob w) (hv:RatsAt w v qs) (K:Nat) (hK:∀q∈qs,RL K q) (hK2:K≤1073741824) (hl:qs.length≤1073741824):
  Calls Tryz.prog 55 #[v] w (dW w (aH aG qs)):=by
 obtain⟨A,c,rfl,hc⟩:=hv.form;go_enter Tryz.func55,Tryz.ntmps55;go_wp2_with fail;go_loopg [0] qs.length (fun k sv wr=>∃m,Hid (m=k)∧sv= .slice A m c∧m≤qs.length∧Hid (aH aG (qs.take m)=aH aG qs)∧Below w.heap.size w wr)
 case atStart=>exact⟨qs.length,rfl,rfl,Nat.le_refl _,by unfold Hid;rw[List.take_length],Below.refl _ _⟩
 case round=>
  obtain⟨m,HM,rfl,hm,HT,hb⟩:=hrel;generalize wr=wy at *;have hm0:(0:Int)≤(m:Int):=by omega
  cases gk with
  |zero=>
   obtain rfl:m=0:=HM.out;have HTT:Hid (aH aG qs=qs.take 0):=HT.out.symm;have hb':=hb;clear HT;have hrs:=(hv.below hb').cut 0 (by omega);have hKt:∀q∈qs.take (0),RL K q:=fun q hq=>hK q (List.mem_of_mem_take hq);have hlt:(qs.take (0)).length=0:=by rw[List.length_take];omega
   have HLT:=Lib.hid hlt;clear hlt;go_wp2_with fail;refine(xT (qs.take (0)) _ _ (hG.below hb') hrs K hKt hK2 (by rw[HLT.out];omega)).mono ?_;rintro e5 w5 ⟨v5,rfl,h5,hb5⟩;obtain⟨A5,c5,e5,hc5⟩:=h5.form;rw[List.length_map,HLT.out] at e5;subst e5;replace hb':=aB hb' hb5;go_wp2_with fail;refine(tR (0) c5 A5 _ (by omega)).mono ?_;rintro e6 w6 ⟨rfl,rfl⟩;by_cases h65:0≤65
   ·have hd:decide (0≤65)=true:=decide_eq_true h65;rw[hd];clear hd;go_wp2_with fail;go_ret2;unfold dW;rw[HTT.out,HLT.out,if_pos h65,if_pos h65];exact⟨_,rfl,h5,hb'⟩
   ·have hd:decide (0≤65)=false:=decide_eq_false h65;rw[hd];clear hd;go_wp2_with fail;go_ret2;unfold dW;rw[HTT.out,HLT.out,if_neg h65,if_neg h65];exact⟨_,rfl,StrsAt.nil _ _ _,hb'⟩
  |succ k=>
   have hmk:m=k+1:=HM.out;subst hmk;obtain⟨q,hq⟩:∃q,qs[k]? =some q:=⟨_,List.getElem?_eq_getElem (by omega)⟩;obtain⟨b,s,B,l,d,s',B',l',d',rfl,hbl,g0,g1,g2,g3,hi⟩:=(hv.below hb).at_ hq;have hkq:=(hK q (List.mem_of_getElem? hq)).1;have hdn:=tH aG qs hq;have hst:=tI aG qs hq;have HDN:=Lib.hid hdn;have HST:=Lib.hid hst;clear hdn hst;have hm1:((k:Int)+1)≤(qs.length:Int):=by omega
   have hm2:k+1≤c:=by omega
   have hm3:k≤c:=by omega
   have hm4:(0:Int)≤(k:Int):=by omega
   go_wp2_with fail;refine(EE q _ _ hi (by omega)).mono ?_;rintro e1 w1 ⟨rfl,hb1⟩;have hb':=aB hb hb1;by_cases h0:q=0
   ·have hd:decide (q=0)=true:=by simpa using h0
    have hz:aG q=true:=hd;rw[hd];clear hd h0;go_wp2_with fail;go_roundg k
    case rel=>exact⟨k,rfl,by simp,by omega,by unfold Hid;rw[←HDN.out hz];exact HT.out,hb'⟩
    case measure=>omega
   ·have hd:decide (q=0)=false:=by simpa using h0
    have hz:aG q=false:=hd;have HTT:Hid (aH aG qs=qs.take (k+1)):=by unfold Hid;rw[←HT.out];exact HST.out hz
    rw[hd];clear hd h0 HT HDN HST;have hrs:=(hv.below hb').cut (k+1) (by omega);have hKt:∀q∈qs.take ((k+1)),RL K q:=fun q hq=>hK q (List.mem_of_mem_take hq);have hlt:(qs.take ((k+1))).length=(k+1):=by rw[List.length_take];omega
    have HLT:=Lib.hid hlt;clear hlt;go_wp2_with fail;refine(xT (qs.take ((k+1))) _ _ (hG.below hb') hrs K hKt hK2 (by rw[HLT.out];omega)).mono ?_;rintro e5 w5 ⟨v5,rfl,h5,hb5⟩;obtain⟨A5,c5,e5,hc5⟩:=h5.form;rw[List.length_map,HLT.out] at e5;subst e5;replace hb':=aB hb' hb5;go_wp2_with fail;refine(tR ((k+1)) c5 A5 _ (by omega)).mono ?_;rintro e6 w6 ⟨rfl,rfl⟩;by_cases h65:(k+1)≤65
    ·have hd:decide ((k+1)≤65)=true:=decide_eq_true h65;rw[hd];clear hd;go_wp2_with fail;go_ret2;unfold dW;rw[HTT.out,HLT.out,if_pos h65,if_pos h65];exact⟨_,rfl,h5,hb'⟩
    ·have hd:decide ((k+1)≤65)=false:=decide_eq_false h65;rw[hd];clear hd;go_wp2_with fail;go_ret2;unfold dW;rw[HTT.out,HLT.out,if_neg h65,if_neg h65];exact⟨_,rfl,StrsAt.nil _ _ _,hb'⟩
def bB (a b:List Rat):List Rat:=if a=[]∨b=[] then [] else (List.range (a.length+b.length-1)).map (conv (cf a) (cf b))
theorem xR (a b:List Rat) (i:Nat):cf (bB a b) i=conv (cf a) (cf b) i:=by
 unfold bB;by_cases h:a=[]∨b=[]
 ·rw[if_pos h,bS];rcases h with h|h
  ·rw[h,eR (fun i=>bS i)]
  ·rw[h,jR,eR (fun i=>bS i)]
 ·rw[if_neg h,oX];split
  ·rfl
  ·have ha:a.length≠0:=fun e=>h (.inl (List.eq_nil_of_length_eq_zero e));have hb:b.length≠0:=fun e=>h (.inr (List.eq_nil_of_length_eq_zero e));exact(o6 (fun i hi=>aP hi) (fun i hi=>aP hi) (by omega)).symm
theorem tP (qs:List Rat) (D:Int):aI qs D=[]↔qs=[]:=by unfold aI;exact List.map_eq_nil_iff
theorem eK (qs:List Rat) (D:Int):(aI qs D).length=qs.length:=List.length_map _
theorem OF (a b:List Rat) (D E:Int) (hD:0<D) (hE:0<E) (ha:∀q∈a,(q.den:Int)∣D) (hb:∀q∈b,(q.den:Int)∣E):aT (aY (aI a D) (aI b E)) (D*E)=bB a b:=by
 have hD':(D:Rat)≠0:=fun e=>(show D≠0 by omega) (Rat.intCast_inj.1 e);have hE':(E:Rat)≠0:=fun e=>(show E≠0 by omega) (Rat.intCast_inj.1 e);unfold aT aY bB;by_cases h:a=[]∨b=[]
 ·rw[if_pos (by rw[tP,tP];exact h),if_pos h];rfl
 ·rw[if_neg (by rw[tP,tP];exact h),if_neg h,eK,eK,List.map_map];refine List.map_congr_left (fun i _=> ?_);show((conv (cf (aI a D)) (cf (aI b E)) i:Int):Rat)/((D*E:Int):Rat)=_
  rw[o5,Rat.intCast_mul];have e1:conv (fun k=>((cf (aI a D) k:Int):Rat)) (fun k=>((cf (aI b E) k:Int):Rat)) i=D*(E*conv (cf a) (cf b) i):=by
   rw[←kZ,←fF];refine cO (fun k=> ?_) (fun k=> ?_) i
   ·rw[lD a D ha];grind
   ·rw[lD b E hb];grind
  rw[e1];grind
theorem E7 (f:Nat→Int) (n M:Nat) (h:∀k,k<n→(f k).natAbs≤M):(aU f n).natAbs≤n*M:=by
 induction n with
 |zero=>simp[aU]
 |succ n ih=>
  rw[aU,Nat.succ_mul];have h1:=ih (fun k hk=>h k (by omega));have h2:=h n (by omega);have h3:=Int.natAbs_add_le (aU f n) (f n);omega
theorem OG {xs ys:List Int} {K:Nat} (hx:∀n∈xs,nl n.natAbs≤K) (hy:∀n∈ys,nl n.natAbs≤K) (hl:xs.length+ys.length≤1073741824):∀n∈aY xs ys,nl n.natAbs≤2*K+1:=by
 intro n hn;unfold aY at hn;split at hn
 ·cases hn
 ·obtain⟨i,hi,rfl⟩:=List.mem_map.1 hn;rw[List.mem_range] at hi;refine bI ?_;have h1:(conv (cf xs) (cf ys) i).natAbs≤(i+1)*BN^(2*K):=by
   unfold conv
   refine E7 _ _ _ (fun k _=> ?_);rw[Int.natAbs_mul,Nat.two_mul];exact qO (cI hx k) (cI hy _)
  have h2:(i+1)*BN^(2*K)<BN*BN^(2*K):=Nat.mul_lt_mul_of_pos_right (by unfold BN;omega) (Nat.pow_pos (by decide));rw[Nat.pow_succ,Nat.mul_comm _ BN];omega
def jT (w:World) (a b:List (List UInt8)) (e:Ending) (w':World):Prop:=
 if vl a=true∧vl b=true then dW w (aH aG (bB (aE a) (aE b))) e w' else∃v',e= .returned (.tuple #[v',.int .i64 1])∧StrsAt w' v' []∧Below w.heap.size w w'
theorem OH (a b:List (List UInt8)) (va vb:Value) (w:World) (hG:Glob w) (ha:StrsAt w va a) (hb':StrsAt w vb b) (hla:a.length≤1073741824) (hlb:b.length≤1073741824) (K:Nat)
  (hca:a.length≤65→∀l∈a,l.length≤1073741824) (hcb:b.length≤65→∀l∈b,l.length≤1073741824) (hKa:a.length≤65→∀q∈aE a,RL K q) (hKb:b.length≤65→∀q∈aE b,RL K q) (hK:K≤4194304):
  Calls Tryz.prog 16 #[va,vb] w (jT w a b):=by
 obtain⟨A,c,rfl,hc⟩:=ha.form;obtain⟨A',c',rfl,hc'⟩:=hb'.form;go_enter Tryz.func16,Tryz.ntmps16;go_wp2_with fail;refine(qL a _ _ hG ha hla hca K (1+65*K) hKa (Nat.le_refl _) (by unfold aF;omega)).mono ?_;rintro e1 w1 ⟨v1,vd1,xs,D,rfl,hx,hD,hvx,hb1⟩;obtain⟨A1,c1,rfl,hc1⟩:=hx.form;obtain⟨s1,B1,k1,d1,rfl⟩:=hD.form;go_wp2_with fail;have hbX:Below w1.heap.size w1 (w1.alloc (.cells #[.bool s1,.slice B1 k1 d1] 53)):=(Below.refl _ _).alloc (Nat.le_refl _) _;have X:=Bx.new w1 [.bool s1,.slice B1 k1 d1] 53;replace hx:=hx.below hbX;replace hD:=hD.below hbX;have hb:=aB hb1 hbX;clear hbX;generalize hgx:w1.heap.size=gx at *;generalize w1.alloc (.cells #[.bool s1,.slice B1 k1 d1] 53)=w2 at *;refine(qL b _ _ (hG.below hb) (hb'.below hb) hlb hcb K (1+65*K) hKb (Nat.le_refl _) (by unfold aF;omega)).mono ?_;rintro e3 w3 ⟨v3,vd3,ys,E,rfl,hy,hE,hvy,hb3⟩;obtain⟨A3,c3,rfl,hc3⟩:=hy.form;obtain⟨s3,B3,k3,d3,rfl⟩:=hE.form;replace X:=X.below hb3;replace hx:=hx.below hb3;replace hD:=hD.below hb3;replace hb:=aB hb hb3;cases hva:vl a with
 |false=>
  have HV:Hid (¬(vl a=true∧vl b=true)):=by unfold Hid;rw[hva];simp
  go_wp2_with fail;go_ret2;unfold jT;rw[if_neg HV.out];exact⟨_,rfl,StrsAt.nil _ _ _,hb.alloc hb.size _⟩
 |true=>
  cases hvb:vl b with
  |false=>
   have HV:Hid (¬(vl a=true∧vl b=true)):=by unfold Hid;rw[hvb];simp
   go_wp2_with fail;go_ret2;unfold jT;rw[if_neg HV.out];exact⟨_,rfl,StrsAt.nil _ _ _,hb.alloc hb.size _⟩
  |true=>
   obtain⟨rfl,hcx⟩:=hvx hva;obtain⟨rfl,hcy⟩:=hvy hvb;obtain⟨p1, -, -⟩:=fD hva;obtain⟨p2, -, -⟩:=fD hvb;have HV:Hid (vl a=true∧vl b=true):=⟨hva,hvb⟩;have lx:(aI (aE a) D).length≤65:=by rw[eK];unfold aE;rw[List.length_map];exact p1
   have ly:(aI (aE b) E).length≤65:=by rw[eK];unfold aE;rw[List.length_map];exact p2
   have bx:=iK _ D K _ (hKa p1) hcx.nl_;have bY:=iK _ E K _ (hKb p2) hcy.nl_;have hTR:=OF (aE a) (aE b) D E hcx.pos hcy.pos hcx.dvd hcy.dvd;have HTR:=Lib.hid hTR;have bt:=OG bx bY (by omega);have bDE:=bZ D E _ _ hcx.nl_ hcy.nl_;have bD:=hcx.nl_;have bE:=hcy.nl_;have ht:=fun W h1 h2=>vD (aI (aE a) D) (aI (aE b) E) (.slice A1 (aI (aE a) D).length c1) (.slice A3 (aI (aE b) E).length c3) W h1 h2 (K+(1+65*K)) bx bY (by unfold aF;omega) (by omega) (by omega);have hm:=fun W v u h1 h2=>f8 D E v u W h1 h2 (by omega);have htl:(aY (aI (aE a) D) (aI (aE b) E)).length≤130:=by
    unfold aY;split
    ·simp
    ·rw[List.length_map,List.length_range];omega
   have hrat:=fun W v u hG h1 h2=>EC (aY (aI (aE a) D) (aI (aE b) E)) (D*E) v u W hG h1 h2 (2*(K+(1+65*K))+1) bt (by omega) (by unfold aF;omega) (by omega);rw[HTR.out] at hrat;have hRL:∀q∈bB (aE a) (aE b),RL (2*(K+(1+65*K))+1) q:=by
    rw[←HTR.out];intro q hq;unfold aT at hq;obtain⟨n,hn,rfl⟩:=List.mem_map.1 hq;exact lF n (D*E) _ (bt n hn) (by omega) (by omega)
   have hrl:(bB (aE a) (aE b)).length≤130:=by
    rw[←HTR.out];unfold aT;rw[List.length_map];exact htl
   have hwr:=fun W v hG h=>xS (bB (aE a) (aE b)) v W hG h (2*(K+(1+65*K))+1) hRL (by omega) (by omega);unfold bW at hm;unfold dW at hwr;obtain⟨er,HER⟩:∃er,Hid ((if (aH aG (bB (aE a) (aE b))).length≤65 then (0:Int) else 2)=er):=⟨_,rfl⟩;rw[HER.out] at hwr;generalize hTRE:bB (aE a) (aE b)=TR at *;have HTRE:=Lib.hid hTRE;clear hTRE;generalize aY (aI (aE a) D) (aI (aE b) E)=TL at *;generalize aI (aE a) D=NA at *;generalize aI (aE b) E=NB at *;generalize D*E=DE at *;clear hvx hvy hva hvb hTR HTR hcx hcy bx bY bt bDE bD bE hRL hrl htl p1 p2 hKa hKb hca hcb;have hbX:Below w3.heap.size w3 (w3.alloc (.cells #[.bool s3,.slice B3 k3 d3] 53)):=(Below.refl _ _).alloc (Nat.le_refl _) _;go_wp2_with fail;have Y:=Bx.new w3 [.bool s3,.slice B3 k3 d3] 53;replace hx:=(hx.below hbX).drew;replace hy:=(hy.below hbX).drew;replace hD:=(hD.below hbX).drew;replace hE:=(hE.below hbX).drew;replace X:=(X.below hbX).drew;replace hb:=(aB hb hbX).drew;have gyl:=hb3.size;clear hbX;generalize hgy:w3.heap.size=gy at *;generalize w3.alloc (.cells #[.bool s3,.slice B3 k3 d3] 53)=w4 at *;replace Y:=Y.drew;replace X_0:=X.cell 0 rfl;replace X_1:=X.cell 1 rfl;replace Y_0:=Y.cell 0 rfl;replace Y_1:=Y.cell 1 rfl
   go_region_held3 (fun w'=>w'.cell? ⟨gx,0,none⟩=some (.bool s1)∧w'.cell? ⟨gx,1,none⟩=some (.slice B1 k1 d1)∧w'.cell? ⟨gy,0,none⟩=some (.bool s3)∧w'.cell? ⟨gy,1,none⟩=some (.slice B3 k3 d3))
    (first|(with_reducible exact⟨X_0,X_1,Y_0,Y_1⟩))
    (first
     |(go_at_call 44;(with_reducible refine(ht _ hx hy).mono ?_);rintro e5 w5 ⟨v5,rfl,h5,hb5⟩;replace X:=X.below hb5;replace Y:=Y.below hb5;replace X_0:=X.cell 0 rfl;replace X_1:=X.cell 1 rfl;replace Y_0:=Y.cell 0 rfl;replace Y_1:=Y.cell 1 rfl;replace hD:=hD.below hb5;replace hE:=hE.below hb5;replace hb:=aB hb hb5)
     |(go_at_call 46;(with_reducible refine(hm _ _ _ hD hE).mono ?_);rintro e6 w6 ⟨v6,rfl,h6,hb6⟩;replace X:=X.below hb6;replace Y:=Y.below hb6;replace X_0:=X.cell 0 rfl;replace X_1:=X.cell 1 rfl;replace Y_0:=Y.cell 0 rfl;replace Y_1:=Y.cell 1 rfl;replace h5:=h5.below hb6;replace hb:=aB hb hb6)
     |(go_at_call 56;(with_reducible refine(hrat _ _ _ (hG.below hb) h5 h6).mono ?_);rintro e7 w7 ⟨v7,rfl,h7,hb7⟩;replace X:=X.below hb7;replace Y:=Y.below hb7;replace X_0:=X.cell 0 rfl;replace X_1:=X.cell 1 rfl;replace Y_0:=Y.cell 0 rfl;replace Y_1:=Y.cell 1 rfl;replace hb:=aB hb hb7)
     |(go_at_call 55;(with_reducible refine(hwr _ _ (hG.below hb) h7).mono ?_);rintro e8 w8 ⟨v8,rfl,h8,hb8⟩;replace X:=X.below hb8;replace Y:=Y.below hb8;replace X_0:=X.cell 0 rfl;replace X_1:=X.cell 1 rfl;replace Y_0:=Y.cell 0 rfl;replace Y_1:=Y.cell 1 rfl;replace hb:=aB hb hb8))
   go_wp2_with fail;go_ret2;unfold jT;rw[if_pos HV.out,HTRE.out];unfold dW;rw[HER.out];exact⟨_,rfl,h8,hb⟩
theorem oZ (n c:Nat) (A:Option Addr) (w:World) (hn:n≤1099511627776):Calls Tryz.prog 41 #[.slice A n c] w fun e w'=>e= .returned (.int .i64 ((n:Int)-1))∧w'=w:=by
 go_enter Tryz.func41,Tryz.ntmps41;go_wp2;go_ret;exact⟨rfl,rfl⟩
def cA (l:List Int):Nat:=l.foldr (fun n g=>Nat.gcd g n.natAbs) 0
theorem tM:cA []=0:=rfl
theorem jS (n:Int) (l:List Int):cA (n :: l)=Nat.gcd (cA l) n.natAbs:=rfl
theorem OB (l:List Int) (i:Nat):cA l∣cA (l.drop i):=by
 induction l generalizing i with
 |nil=>simp
 |cons n l ih=>
  cases i with
  |zero=>exact Nat.dvd_refl _
  |succ i=>rw[List.drop_succ_cons];exact Nat.dvd_trans (Nat.gcd_dvd_left _ _) (ih i)
theorem tN {l:List Int} {n:Int} (h:n∈l):(cA l:Int)∣n:=by
 induction l with
 |nil=>cases h
 |cons m l ih=>
  rw[jS];rcases List.mem_cons.1 h with rfl|h
  ·exact Int.ofNat_dvd_left.2 (Nat.gcd_dvd_right _ _)
  ·exact Int.dvd_trans (Int.natCast_dvd_natCast.2 (Nat.gcd_dvd_left _ _)) (ih h)
theorem OC {l:List Int} (h:cA l=0):∀n∈l,n=0:=fun n hn=>by
 have:=tN hn;rw[h] at this;exact Int.zero_dvd.1 this
theorem tO {l:List Int} {K:Nat} (h:∀n∈l,nl n.natAbs≤K):nl (cA l)≤K:=by
 induction l with
 |nil=>rw[tM,cC];exact Nat.zero_le _
 |cons m l ih=>
  rw[jS];by_cases hm:m.natAbs=0
  ·rw[hm,Nat.gcd_zero_right];exact ih (fun n hn=>h n (List.mem_cons_of_mem _ hn))
  ·exact Nat.le_trans (aX (Nat.le_of_dvd (Nat.pos_of_ne_zero hm) (Nat.gcd_dvd_right _ _))) (h m (List.mem_cons_self ..))
theorem OD {l:List Int} {i:Nat} {n:Int} (h:l[i]? =some n):Nat.gcd (cA (l.drop (i+1))) n.natAbs=cA (l.drop i):=by
 obtain⟨hi,e⟩:=List.getElem?_eq_some_iff.1 h;rw[List.drop_eq_getElem_cons hi,e,jS]
theorem qK (ns:List Int) (v:Value) (w:World) (hG:Glob w) (hv:WholeAt w v ns) (K:Nat) (hK:∀n∈ns,nl n.natAbs≤K) (hK2:5*K+4≤aF) (hl:ns.length≤1099511627776):
  Calls Tryz.prog 125 #[v] w (bW w (cA ns)):=by
 obtain⟨A,c,rfl,hc⟩:=hv.form;have hK3:K≤17592186044416:=by unfold aF at hK2;omega
 have R:Bx ((w.alloc (.cells #[.bool false,.slice none 0 0] 53)).alloc (.cells #[.bool false,.slice none 0 0] 53)) (w.heap.size) [.bool false,.slice none 0 0] 53:=(Bx.newAt w [.bool false,.slice none 0 0] 53 (w.heap.size) (by simp)).alloc (.cells #[.bool false,.slice none 0 0] 53);have C:Bx ((w.alloc (.cells #[.bool false,.slice none 0 0] 53)).alloc (.cells #[.bool false,.slice none 0 0] 53)) (w.heap.size+1) [.bool false,.slice none 0 0] 53:=Bx.newAt (w.alloc (.cells #[.bool false,.slice none 0 0] 53)) [.bool false,.slice none 0 0] 53 (w.heap.size+1) (by simp);have hb:Below w.heap.size w ((w.alloc (.cells #[.bool false,.slice none 0 0] 53)).alloc (.cells #[.bool false,.slice none 0 0] 53)):=((Below.refl _ _).alloc (by simp) _).alloc (by simp<;>omega) _;go_enter Tryz.func125,Tryz.ntmps125;go_wp2_with fail;generalize (w.alloc (.cells #[.bool false,.slice none 0 0] 53)).alloc (.cells #[.bool false,.slice none 0 0] 53)=W at *;have hC:IntBx W (w.heap.size+1) 0:=⟨_,_,_,_,C,IntAt.zero _⟩;clear C;go_loopg [4] ns.length (fun k i wr=>i= .int .i64 ((k:Int)-1)∧k≤ns.length∧IntBx wr (w.heap.size+1) (cA (ns.drop k))∧Bx wr w.heap.size [.bool false,.slice none 0 0] 53∧Below w.heap.size w wr)
 case atStart=>exact⟨by go_num,Nat.le_refl _,by rw[List.drop_length];exact hC,R,hb⟩
 case round=>
  clear hC R hb;obtain⟨rfl,hkl,⟨s,B,l,d,C,hi⟩,R,hb⟩:=hrel;generalize wr=wy at *;have hdn:nl (cA (ns.drop gk))≤K:=tO (fun n hn=>hK n (List.mem_of_mem_drop hn));replace C_0:=C.cell 0 rfl;replace C_f0:=C.free 0;replace C_1:=C.cell 1 rfl;replace C_f1:=C.free 1;replace R_0:=R.cell 0 rfl;replace R_f0:=R.free 0;replace R_1:=R.cell 1 rfl;replace R_f1:=R.free 1;cases gk with
  |zero=>
   go_wp2_with fail;rw[List.drop_zero] at hi;obtain⟨z0,z1, -,hbz,hk⟩:=gE (s:=s) (u:= .slice B l d) hb (by omega) R;have hz:=hi.keep hk;generalize (wy.setCell ⟨w.heap.size,0,none⟩ (.bool s)).setCell ⟨w.heap.size,1,none⟩ (.slice B l d)=W6 at *;exact bodyPost_ret (v:= .agg #[.bool s,.slice B l d]) (by simp[results,Tryz.results125,go_sem,z0,z1]) rfl ⟨_,rfl,hz,hbz⟩
  |succ k=>
   obtain⟨n,hn⟩:∃n,ns[k]? =some n:=⟨_,List.getElem?_eq_getElem (by omega)⟩;have hga:=OD hn;have hkn:=hK n (List.mem_of_getElem? hn);have hone:((cA (ns.drop (k+1)):Nat):Int)=1→cA ns=1:=fun h=>by
    have h1:cA (ns.drop (k+1))=1:=by omega
    have:=OB ns (k+1);rw[h1] at this;exact Nat.dvd_one.1 this
   have HN:=Lib.hid hn;have HGA:=Lib.hid hga;clear hn hga;generalize cA (ns.drop (k+1))=G at *;have hk0:(0:Int)≤(k:Int):=by omega
   go_wp2_with fail;refine(jL _ _ _ hi (by rw[Int.natAbs_natCast];omega)).mono ?_;rintro e1 w1 ⟨rfl,hb1⟩;by_cases h1:(G:Int)=1
   ·have hd:decide ((G:Int)=1)=true:=by simpa using h1
    have HO:=Lib.hid (hone h1);rw[hd];clear hd hone;replace hi:=hi.below hb1;replace C:=C.below hb1;replace C_0:=C.cell 0 rfl;replace C_f0:=C.free 0;replace C_1:=C.cell 1 rfl;replace C_f1:=C.free 1;replace R:=R.below hb1;replace R_0:=R.cell 0 rfl;replace R_f0:=R.free 0;replace R_1:=R.cell 1 rfl;replace R_f1:=R.free 1;replace hk:=Keep.below hb1;replace hb:=aB hb hb1;go_wp2_with fail;have hi2:IntAt w1 (.agg #[.bool s,.slice B l d]) (cA ns:Int):=by rw[HO.out];rw[h1] at hi;exact hi
    clear hi;obtain⟨z0,z1, -,hbz,hk⟩:=gE (s:=s) (u:= .slice B l d) hb (by omega) R;have hz:=hi2.keep hk;generalize (w1.setCell ⟨w.heap.size,0,none⟩ (.bool s)).setCell ⟨w.heap.size,1,none⟩ (.slice B l d)=W6 at *;exact bodyPost_ret (v:= .agg #[.bool s,.slice B l d]) (by simp[results,Tryz.results125,go_sem,z0,z1]) rfl ⟨_,rfl,hz,hbz⟩
   ·have hd:decide ((G:Int)=1)=false:=by simpa using h1
    rw[hd];clear hd hone h1;replace hi:=hi.below hb1;replace C:=C.below hb1;replace C_0:=C.cell 0 rfl;replace C_f0:=C.free 0;replace C_1:=C.cell 1 rfl;replace C_f1:=C.free 1;replace R:=R.below hb1;replace R_0:=R.cell 0 rfl;replace R_f0:=R.free 0;replace R_1:=R.cell 1 rfl;replace R_f1:=R.free 1;replace hk:=Keep.below hb1;replace hb:=aB hb hb1;obtain⟨b,s',B',l',d',rfl,hbl,g0,g1,hi'⟩:=(hv.below hb).at_ HN.out;have hbl1:=hb.size;have hid:=hi.drew;have hid':=hi'.drew;have hCd:IntBx w1.drew (w.heap.size+1) (G:Int):=⟨_,_,_,_,C.drew,hid⟩;have hbd:=hb.drew;have Rd:=R.drew;have hgd:=fun W v u hG h1 h2=>mT (G:Int) n v u W hG h1 h2 K (by rw[Int.natAbs_natCast];exact hdn) hkn hK2;rw[Int.natAbs_natCast,HGA.out] at hgd;have hk1:(k:Int)<(ns.length:Int):=by omega
    clear C_f0 C_f1 R_0 R_1 R_f0 R_f1 R C hb1;go_wp2_with fail
    go_region_with (first
     |(go_at_call 108;(with_reducible refine(hgd _ _ _ (hG.below hbd) hid hid').mono ?_);rintro e2 w2 ⟨v2,rfl,h2,hb2⟩;obtain⟨s2,A2,k2,c2,rfl⟩:=h2.form;replace hCd:=hCd.below hb2;replace Rd:=Rd.below hb2;replace hbd:=aB hbd hb2;obtain⟨s9,B9,l9,d9,C9, -⟩:=id hCd;have C_0:=C9.cell 0 rfl;have C_1:=C9.cell 1 rfl;have C_f0:=C9.free 0;have C_f1:=C9.free 1))
    all_goals (
     go_wp2_with fail;obtain⟨z1,hst⟩:=hCd.stored h2;have zR:Bx _ w.heap.size [.bool false,.slice none 0 0] 53:=(hst.2.1 w.heap.size (by omega)).trans Rd;have zb:=dE hbd hst (by omega);go_roundg k
     case rel=>exact⟨by go_num,by omega,z1,zR,zb⟩
     case measure=>omega)
def bK (ns:List Int) (x:Int):List Int:=ns.map (fun n=>n.tdiv x)
theorem xQ (ns:List Int):bK ns 1=ns:=by
 unfold bK;exact(List.map_congr_left (fun a _=>Int.tdiv_one a)).trans (List.map_id ns)
theorem j9 (ns:List Int) (x:Int):(bK ns x).length=ns.length:=List.length_map _
theorem OE (n x:Int) (K:Nat) (h:nl n.natAbs≤K):nl (n.tdiv x).natAbs≤K:=by
 rw[Int.natAbs_tdiv];exact Nat.le_trans (aX (Nat.div_le_self _ _)) h
theorem n8 {ns:List Int} {x:Int} {K:Nat} (h:∀n∈ns,nl n.natAbs≤K):∀n∈bK ns x,nl n.natAbs≤K:=fun n hn=>by
 unfold bK at hn;obtain⟨m,hm,rfl⟩:=List.mem_map.1 hn;exact OE m x K (h m hm)
theorem p6 (ns:List Int) (x:Int) (v vx:Value) (w:World) (hv:WholeAt w v ns) (hx:IntAt w vx x) (h0:ns≠[]→x≠0) (K:Nat) (hK:∀n∈ns,nl n.natAbs≤K) (hKx:nl x.natAbs≤K) (hK2:5*K+4≤aF) (hl:ns.length≤1099511627776):
  Calls Tryz.prog 126 #[v,vx] w fun e w'=>∃v',e= .returned v'∧WholeAt w' v' (bK ns x)∧Below w.heap.size w w':=by
 unfold aF at hK2;obtain⟨A,c,rfl,hc⟩:=hv.form;obtain⟨sx,Ax,kx,cx,rfl⟩:=hx.form;have B1:Bx (w.alloc (.cells #[.bool sx,.slice Ax kx cx] 53)) (w.heap.size) [.bool sx,.slice Ax kx cx] 53:=Bx.newAt w [.bool sx,.slice Ax kx cx] 53 (w.heap.size) (by simp);have hb:Below w.heap.size w (w.alloc (.cells #[.bool sx,.slice Ax kx cx] 53)):=(Below.refl _ _).alloc (by simp) _;go_enter Tryz.func126,Tryz.ntmps126;go_wp2_with fail;generalize w.alloc (.cells #[.bool sx,.slice Ax kx cx] 53)=W at *;refine(jL x _ _ (hx.below hb) (by omega)).mono ?_;rintro e1 w1 ⟨rfl,hb1⟩;replace B1:=B1.below hb1;replace B1_0:=B1.cell 0 rfl;replace B1_1:=B1.cell 1 rfl;replace hk:=Keep.below hb1;replace hb:=aB hb hb1;clear hb1;by_cases h1:x=1
 ·have hd:decide (x=1)=true:=by simpa using h1
  rw[hd];clear hd;go_wp2_with fail;go_ret;rw[h1,xQ];exact⟨_,rfl,hv.below hb,hb⟩
 ·have hd:decide (x=1)=false:=by simpa using h1
  rw[hd];clear hd h1;have hzl:=j9 ns x;have HZL:=Lib.hid hzl;clear hzl;go_wp2_with (at_make;refine eZ rfl rfl 53 _ 2 32 Tryz.underlying50 jZ rfl (by decide) ns.length rfl rfl rfl rfl (by omega) (by omega) ?_;intro w2 hz2 hr2 hb2);have R0:OwnW w2 w1.heap.size (List.replicate ns.length 0):=OwnW.made hr2;have hbl:=hb.size;have hB1l:w.heap.size<w1.heap.size:=B1.lt;replace B1:=B1.below hb2;replace hb:=aB hb hb2;clear hr2 hz2 hb2;generalize hg:w1.heap.size=g at *;clear hg;go_loopg [16] ns.length (fun k i wr=>∃j,Hid (j+k=ns.length)∧i= .int .i64 j∧OwnW wr g ((bK ns x).take j++List.replicate k 0)∧Bx wr w.heap.size [.bool sx,.slice Ax kx cx] 53∧Below w.heap.size w wr)
  case atStart=>exact⟨0,by unfold Hid;omega,rfl,by simpa using R0,B1,hb⟩
  case round=>
   clear R0 B1 hb;obtain⟨j,HJ,rfl,R,B1,hb⟩:=hrel;generalize wr=wy at *;have hj0:(0:Int)≤(j:Int):=by omega
   cases gk with
   |zero=>
    have hj:j=ns.length:=HJ.out;subst hj;rw[List.replicate_zero,List.append_nil,List.take_of_length_le (by rw[HZL.out];exact Nat.le_refl _)] at R;have hw:=R.whole ns.length (by rw[HZL.out];exact Nat.le_refl _);rw[HZL.out] at hw;go_wp2_with fail;go_ret;exact⟨_,rfl,hw,hb⟩
   |succ k=>
    obtain⟨n,hn⟩:∃n,ns[j]? =some n:=⟨_,List.getElem?_eq_getElem (by have:=HJ.out;omega)⟩;obtain⟨b,s,B,l,d,rfl,hbl',g0,g1,hi⟩:=(hv.below hb).at_ hn;have hkn:=hK n (List.mem_of_getElem? hn);have hx0:x≠0:=h0 (fun e=>by rw[e] at hn;simp at hn);have hj1:(j:Int)<(ns.length:Int):=by have:=HJ.out;omega
    have hym:(bK ns x)[j]? =some (n.tdiv x):=by unfold bK;rw[List.getElem?_map,hn];rfl
    have hfl:=kF (ys:=bK ns x) (z:=(0:Int)) (j:=j) (k:=k+1) (by rw[HZL.out];exact HJ.out);have hfs:=kC (z:=(0:Int)) (k:=k) hym;have hgx:j<((bK ns x).take j++List.replicate (k+1) 0).length:=by rw[hfl,HZL.out];have:=HJ.out;omega
    have HFS:=Lib.hid hfs;clear hym hfl hfs hn;have hxx:=hx.below hb;have hqu:=fun W h1 h2=>iC n x (.agg #[.bool s,.slice B l d]) (.agg #[.bool sx,.slice Ax kx cx]) W h1 h2 hx0 (by omega);unfold bW at hqu;generalize n.tdiv x=y at *;have B1_c10:∀o0:Obj,(wy.alloc o0).cell? ⟨w.heap.size,0,none⟩=some (.bool sx):=fun o0=>(B1.alloc o0).cell 0 rfl;have B1_g10:∀o0:Obj,(wy.alloc o0).frozen? ⟨w.heap.size,0,none⟩=false:=fun o0=>(B1.alloc o0).free 0;have B1_c11:∀o0:Obj,(wy.alloc o0).cell? ⟨w.heap.size,1,none⟩=some (.slice Ax kx cx):=fun o0=>(B1.alloc o0).cell 1 rfl;have B1_g11:∀o0:Obj,(wy.alloc o0).frozen? ⟨w.heap.size,1,none⟩=false:=fun o0=>(B1.alloc o0).free 1;go_wp2_with fail;replace R:=R.alloc (.cells #[.bool s,.slice B l d] 53);have B1_ltwy:=B1.lt;have hszwy:=hb.size;replace B1:=B1.alloc (.cells #[.bool s,.slice B l d] 53);have X:=Bx.newAt wy [.bool s,.slice B l d] 53 (wy.heap.size) (by simp);replace hb:=hb.alloc hb.size (.cells #[.bool s,.slice B l d] 53);replace hk:=Keep.alloc wy (.cells #[.bool s,.slice B l d] 53);replace hi:=hi.keep hk;replace hxx:=hxx.keep hk;generalize wy.alloc (.cells #[.bool s,.slice B l d] 53)=W1 at *;replace B1_0:=B1.cell 0 rfl;replace B1_1:=B1.cell 1 rfl;replace X_0:=X.cell 0 rfl;replace X_1:=X.cell 1 rfl;clear B1_c10 B1_c11 B1_g10 B1_g11 g0 g1;refine(hqu _ hi hxx).mono ?_;rintro e2 w2 ⟨v2,rfl,h2,hb2⟩;obtain⟨s2,A2,k2,c2,rfl⟩:=h2.form;replace R:=R.below hb2;replace B1:=B1.below hb2;replace hb:=aB hb hb2;obtain⟨s',B',l',d',q0,q1, -⟩:=R.at_ (List.getElem?_eq_getElem hgx);have f0:=R.free (j*2);have f1:=R.free (j*2+1);clear hqu;go_wp2_with fail;obtain⟨hp,hst⟩:=R.stored hgx h2;rw[HFS.out] at hp;have B1':Bx _ w.heap.size [.bool sx,.slice Ax kx cx] 53:=(hst.2.1 w.heap.size (by omega)).trans B1;have hb':=dE hb hst (by omega);go_roundg k
    case rel=>exact⟨j+1,by have:=HJ.out;unfold Hid;omega,by go_num,hp,B1',hb'⟩
    case measure=>omega
def aZ (ns:List Int):List Int:=bK ns (cA ns)
theorem gA (ns:List Int):(aZ ns).length=ns.length:=j9 _ _
theorem DZ {ns:List Int} (h:aN ns) (h0:ns≠[]):(cA ns:Int)≠0:=fun e=>by
 obtain⟨a,ha⟩:∃a,ns.getLast?=some a:=⟨_,List.getLast?_eq_some_getLast h0⟩;exact h a ha (OC (by omega) a (List.mem_of_getLast? ha))
theorem mI {ns:List Int} {K:Nat} (h:∀n∈ns,nl n.natAbs≤K):∀n∈aZ ns,nl n.natAbs≤K:=n8 h
theorem E2 (ns:List Int) (x:Int) (i:Nat):cf (bK ns x) i=(cf ns i).tdiv x:=nY (fun n:Int=>n.tdiv x) (Int.zero_tdiv x) ns i
theorem E3 {ns:List Int} {x:Int} (h:∀n∈ns,x∣n) (i:Nat):x∣cf ns i:=by
 by_cases hi:i<ns.length
 ·rw[dO hi];exact h _ (List.getElem_mem hi)
 ·rw[aP (by omega)];exact Int.dvd_zero x
theorem E6 (ns:List Int) (i:Nat):cf (aZ ns) i*(cA ns:Int)=cf ns i:=by
 unfold aZ;rw[E2];exact Int.tdiv_mul_cancel (E3 (fun n hn=>tN hn) i)
theorem cZ {α:Type} [OfNat α 0] {l:List α} (h0:l≠[]):aN l↔cf l (l.length-1)≠0:=by
 obtain⟨a,ha⟩:∃a,l.getLast?=some a:=⟨_,List.getLast?_eq_some_getLast h0⟩;have e:=tJ ha;constructor
 ·intro h;rw[e];exact h a ha
 ·intro h b hb;rw[ha] at hb;injection hb with hb;rw[←hb,←e];exact h
theorem j8 {ns:List Int} (h:aN ns):aN (aZ ns):=by
 by_cases h0:ns=[]
 ·rw[h0];intro a ha;simp[aZ,bK] at ha
 ·have h0':aZ ns≠[]:=fun e=>h0 (List.eq_nil_of_length_eq_zero (by rw[←gA,e];rfl));rw[cZ h0',gA];intro e;have:=E6 ns (ns.length-1);rw[e,Int.zero_mul] at this;exact(cZ h0).1 h this.symm
theorem qJ (ns:List Int) (v:Value) (w:World) (hG:Glob w) (hv:WholeAt w v ns) (ht:aN ns) (K:Nat) (hK:∀n∈ns,nl n.natAbs≤K) (hK2:5*K+4≤aF) (hl:ns.length≤1099511627776):
  Calls Tryz.prog 100 #[v] w fun e w'=>∃v',e= .returned v'∧WholeAt w' v' (aZ ns)∧Below w.heap.size w w':=by
 obtain⟨A,c,rfl,hc⟩:=hv.form;go_enter Tryz.func100,Tryz.ntmps100;go_wp2_with fail;refine(qK ns _ _ hG hv K hK hK2 hl).mono ?_;rintro e1 w1 ⟨v1,rfl,h1,hb1⟩;obtain⟨s1,A1,k1,c1,rfl⟩:=h1.form;go_wp2_with fail;refine(p6 ns (cA ns) _ _ _ (hv.below hb1) h1 (fun h0=>DZ ht h0) K hK (by rw[Int.natAbs_natCast];exact tO hK) hK2 hl).mono ?_;rintro e2 w2 ⟨v2,rfl,h2,hb2⟩;go_wp2;go_ret;exact⟨_,rfl,h2,aB hb1 hb2⟩
theorem tL (ns:List Int) (v:Value) (w:World) (hG:Glob w) (hv:WholeAt w v ns) (h0:ns≠[]) (K:Nat) (hK:∀n∈ns,nl n.natAbs≤K) (hK1:1≤K) (hK2:K≤1073741824) (hl:ns.length≤1073741824):
  Calls Tryz.prog 52 #[v] w fun e w'=>∃v',e= .returned v'∧StrsAt w' v' ((aT ns (cf ns (ns.length-1))).map aO)∧Below w.heap.size w w':=by
 obtain⟨A,c,rfl,hc⟩:=hv.form;go_enter Tryz.func52,Tryz.ntmps52;go_wp2_with fail;refine(mR ns _ _ hv h0 (by omega)).mono ?_;rintro e1 w1 ⟨v1,rfl,h1,hb1⟩;obtain⟨s1,A1,k1,c1,rfl⟩:=h1.form;go_wp2_with fail;refine(p7 ns _ _ _ _ (hG.below hb1) (hv.below hb1) h1 K hK (cI hK _) hK1 hK2 hl).mono ?_;rintro e2 w2 ⟨v2,rfl,h2,hb2⟩;go_wp2;go_ret;exact⟨_,rfl,h2,aB hb1 hb2⟩
def fT (ns:List Int):List Int:=(List.range (ns.length-1)).map (fun i:Nat=>cf ns (i+1)*((i:Int)+1))
theorem O8 (ns:List Int):(fT ns).length=ns.length-1:=by unfold fT;rw[List.length_map,List.length_range]
theorem O9 (ns:List Int) {i:Nat} (h:i<ns.length-1):(fT ns)[i]? =some (cf ns (i+1)*((i:Int)+1)):=by
 unfold fT;rw[List.getElem?_map,List.getElem?_range h];rfl
theorem OA (ns:List Int) (v:Value) (w:World) (hv:WholeAt w v ns) (K:Nat) (hK:∀n∈ns,nl n.natAbs≤K) (hK2:K+2≤aF) (hl:ns.length≤1073741824):
  Calls Tryz.prog 57 #[v] w fun e w'=>∃v',e= .returned v'∧WholeAt w' v' (fT ns)∧Below w.heap.size w w':=by
 unfold aF at hK2;obtain⟨A,c,rfl,hc⟩:=hv.form;go_enter Tryz.func57,Tryz.ntmps57;by_cases h0:ns.length=0
 ·have q0:((ns.length:Int)==0)=true:=by rw[h0];rfl
  have hn0:ns=[]:=List.eq_nil_of_length_eq_zero h0;have HN:=Lib.hid hn0;clear hn0 h0;go_wp2_with fail;go_ret;rw[HN.out];exact⟨_,rfl,WholeAt.nil _ _ _,Below.refl _ _⟩
 ·have q0:((ns.length:Int)==0)=false:=by rw[beq_eq_false_iff_ne];omega
  obtain⟨M,hM⟩:∃M,ns.length=M+1:=⟨ns.length-1,by omega⟩;have hMi:(ns.length:Int)-1=(M:Int):=by omega
  have hzl:(fT ns).length=M:=by rw[O8];omega
  have HZL:=Lib.hid hzl;clear hzl h0;go_wp2_with (at_make;refine eZ rfl rfl 53 _ 2 32 Tryz.underlying50 jZ rfl (by decide) M rfl rfl (by first|rfl|omega) (by first|rfl|omega) (by omega) (by omega) ?_;intro w2 hz2 hr2 hb2);have R0:OwnW w2 w.heap.size (List.replicate M 0):=OwnW.made hr2;clear hr2 hz2;go_loopg [14] M (fun k i wr=>∃j,Hid (j+k=M)∧i= .int .i64 j∧OwnW wr w.heap.size ((fT ns).take j++List.replicate k 0)∧Below w.heap.size w wr)
  case atStart=>exact⟨0,by unfold Hid;omega,rfl,by simpa using R0,hb2⟩
  case round=>
   clear R0 hb2;obtain⟨j,HJ,rfl,R,hb⟩:=hrel;generalize wr=wy at *;have hj0:(0:Int)≤(j:Int):=by omega
   cases gk with
   |zero=>
    have hj:j=M:=HJ.out;subst hj;rw[List.replicate_zero,List.append_nil,List.take_of_length_le (by rw[HZL.out];exact Nat.le_refl _)] at R;have hw:=R.whole j (by rw[HZL.out];exact Nat.le_refl _);rw[HZL.out] at hw;go_wp2_with fail;go_ret;exact⟨_,rfl,hw,hb⟩
   |succ k=>
    have hjM:j<M:=by have:=HJ.out;omega
    obtain⟨n,hn⟩:∃n,ns[j+1]? =some n:=⟨_,List.getElem?_eq_getElem (by omega)⟩;obtain⟨b,s,B,l,d,rfl,hbl',g0,g1,hi⟩:=(hv.below hb).at_ hn;have hkn:=hK n (List.mem_of_getElem? hn);have hcn:cf ns (j+1)=n:=oW hn;have hj1:(j:Int)<(M:Int):=by omega
    have hj2:(j:Int)+1<(ns.length:Int):=by omega
    have hj3:(0:Int)≤(j:Int)+1:=by omega
    have hym:=O9 ns (i:=j) (by omega);rw[hcn] at hym;have hfl:=kF (ys:=fT ns) (z:=(0:Int)) (j:=j) (k:=k+1) (by rw[HZL.out];exact HJ.out);have hfs:=kC (z:=(0:Int)) (k:=k) hym;have hgx:j<((fT ns).take j++List.replicate (k+1) 0).length:=by rw[hfl,HZL.out];have:=HJ.out;omega
    have HFS:=Lib.hid hfs;clear hym hfl hfs hn hcn;have hj1l:nl ((j:Int)+1).natAbs≤1:=bI (by rw[show((j:Int)+1).natAbs=j+1 by omega];unfold BN;omega);have hnew:=fun W=>jK ((j:Int)+1) W (by omega) (by omega);have hmul:=fun W v u h1 h2=>f8 n ((j:Int)+1) v u W h1 h2 (by omega);unfold bW at hmul hnew;generalize n*((j:Int)+1)=y at *;have hid:=hi.drew;have Rd:=R.drew;have hbd:=hb.drew;have hjn:((j:Int)+1).toNat=j+1:=by omega
    have hwr:IntKind.i64.wrap ((j:Int)+1)=(j:Int)+1:=by rw[IntKind.wrap_i64];omega
    clear hi R hb;go_wp2_with fail
    go_region_with (first
     |(go_at_call 42;(with_reducible refine(hnew _).mono ?_);rintro e3 w3 ⟨v3,rfl,h3,hb3⟩;replace hid:=hid.below hb3;replace Rd:=Rd.below hb3;replace hbd:=aB hbd hb3;(try replace g0:=(hb3.cell (p:=⟨b,(j+1)*2,none⟩) hbl').trans g0);(try replace g1:=(hb3.cell (p:=⟨b,(j+1)*2+1,none⟩) hbl').trans g1);replace hbl':=Nat.lt_of_lt_of_le hbl' hb3.size)
     |(go_at_call 46;(with_reducible refine(hmul _ _ _ hid h3).mono ?_);rintro e2 w2 ⟨v2,rfl,h2,hb2⟩;obtain⟨s2,A2,k2,c2,rfl⟩:=h2.form;replace Rd:=Rd.below hb2;replace hbd:=aB hbd hb2;obtain⟨s',B',l',d',q0,q1, -⟩:=Rd.at_ (List.getElem?_eq_getElem hgx);have f0:=Rd.free (j*2);have f1:=Rd.free (j*2+1)))
    all_goals (
     go_wp2_with fail;obtain⟨hp,hst⟩:=Rd.stored hgx h2;rw[HFS.out] at hp;have hb':=dE hbd hst (by omega);go_roundg k
     case rel=>exact⟨j+1,by have:=HJ.out;unfold Hid;omega,by go_num,hp,hb'⟩
     case measure=>omega)
theorem PQRes.mono {xs ys q r:List Int} {m:Int} {KB KB':Nat} (h:PQRes xs ys KB m q r) (hK:KB≤KB'):PQRes xs ys KB' m q r:=
 ⟨h.id_,h.m0,h.r_lt,h.q_trim,h.r_trim,h.q_len,h.pow,fun n hn=>Nat.le_trans (h.bq n hn) hK,fun n hn=>Nat.le_trans (h.br n hn) hK,Nat.le_trans h.bm hK⟩
inductive Euc (B:Nat):List Int→List Int→List Int→Prop
 |done (a:List Int):Euc B a [] a
 |one {a b:List Int} (hb:b.length=1):Euc B a b [1]
 |step {a b q r g:List Int} {m:Int} (hb:1<b.length) (h:PQRes a b B m q r) (t:Euc B b (aZ r) g):Euc B a b g
def fL (B:Nat) (xs ys g:List Int):Prop:=if xs.length<ys.length then Euc B (aZ ys) (aZ xs) g else Euc B (aZ xs) (aZ ys) g
theorem WholeAt.single {w:World} {s:Bool} {A:Option Addr} {k c:Nat} {n:Int} (h:IntAt w (.agg #[.bool s,.slice A k c]) n):WholeAt (w.alloc (.cells #[.bool s,.slice A k c] 53)) (.slice (some ⟨w.heap.size,0,none⟩) 1 1) [n]:=by
 have B:=Bx.new w [.bool s,.slice A k c] 53;have:OwnW (w.alloc (.cells #[.bool s,.slice A k c] 53)) w.heap.size [n]:=by
  refine⟨[[.bool s,.slice A k c]],⟨B,fun r hr=> ?_⟩,Nat.le_refl _,fun i m hi=> ?_⟩
  ·rw[List.mem_singleton.1 hr];rfl
  ·cases i with
   |zero=>injection hi with hi;subst hi;exact⟨s,A,k,c,rfl,h.keep (Keep.alloc _ _)⟩
   |succ i=>simp at hi
 exact this.whole 1 (Nat.le_refl _)
theorem DW {d:Nat} (h:1≤d):d+2≤3^d:=by
 induction d with
 |zero=>omega
 |succ d ih=>
  rw[Nat.pow_succ];by_cases h1:d=0
  ·subst h1;decide
  ·have:=ih (by omega);omega
theorem DX {K la lb lr B:Nat} (h:(K+1)*(la-lb+2)*3^lb≤B) (hr:lr<lb) (hab:lb≤la):(K+(la+1-lb)*(K+1)+1)*(lb-lr+2)*3^lr≤B:=by
 have e1:K+(la+1-lb)*(K+1)+1=(K+1)*(la-lb+2):=by
  rw[show la+1-lb=la-lb+1 by omega,Nat.add_mul (la-lb) 1 (K+1),Nat.mul_add (K+1) (la-lb) 2,Nat.mul_comm (la-lb) (K+1)];omega
 have e2:lb=(lb-lr)+lr:=by omega
 have h2:=DW (d:=lb-lr) (by omega);have h3:(K+1)*(la-lb+2)*3^lb=(K+1)*(la-lb+2)*3^(lb-lr)*3^lr:=by
  conv=>lhs;rw[e2,Nat.pow_add]
  rw[show(lb-lr+lr)=lb by omega,Nat.mul_assoc];simp only[Nat.mul_assoc]
 rw[h3] at h;rw[e1];exact Nat.le_trans (Nat.mul_le_mul_right _ (Nat.mul_le_mul_left _ h2)) h
theorem tK {K la lb B:Nat} (h:(K+1)*(la-lb+2)*3^lb≤B) (hab:lb≤la):K+(la+1-lb)*(K+1)+1≤B:=by
 have e1:K+(la+1-lb)*(K+1)+1=(K+1)*(la-lb+2):=by
  rw[show la+1-lb=la-lb+1 by omega,Nat.add_mul (la-lb) 1 (K+1),Nat.mul_add (K+1) (la-lb) 2,Nat.mul_comm (la-lb) (K+1)];omega
 rw[e1];exact Nat.le_trans (Nat.le_mul_of_pos_right _ (Nat.pow_pos (by decide))) h
theorem DY (xs ys:List Int) (vx vy:Value) (w:World) (hG:Glob w) (hx:WholeAt w vx xs) (hy:WholeAt w vy ys) (tx:aN xs) (ty:aN ys) (K B:Nat) (hKx:∀n∈xs,nl n.natAbs≤K) (hKy:∀n∈ys,nl n.natAbs≤K) (hK1:1≤K)
  (hB:xs.length<ys.length→(K+1)*(ys.length-xs.length+2)*3^xs.length≤B) (hB':¬xs.length<ys.length→(K+1)*(xs.length-ys.length+2)*3^ys.length≤B) (hB2:5*B+8≤aF) (hlx:xs.length≤1073741824) (hly:ys.length≤1073741824):
  Calls Tryz.prog 58 #[vx,vy] w fun e w'=>∃v' g,e= .returned v'∧WholeAt w' v' g∧fL B xs ys g∧Below w.heap.size w w':=by
 obtain⟨A,c,rfl,hc⟩:=hx.form;obtain⟨A',c',rfl,hc'⟩:=hy.form;have hKB:K≤B:=by
  by_cases h:xs.length<ys.length
  ·have:=tK (hB h) (by omega);omega
  ·have:=tK (hB' h) (by omega);omega
 have lX:=gA xs;have lY:=gA ys;have pX:=qJ xs _ w hG hx tx K hKx (by omega) (by omega);have pY:=fun W hb=>qJ ys _ W (hG.below hb) (hy.below hb) ty K hKy (by omega) (by omega);have kX:=mI hKx;have kY:=mI hKy;have tX:=j8 tx;have tY:=j8 ty;unfold fL;generalize aZ xs=X at *;generalize aZ ys=Y at *;rw[←lX] at hlx;rw[←lY] at hly;rw[←lX,←lY] at hB hB';by_cases hlt:xs.length<ys.length
 ·simp only[if_pos hlt];have hlt2:X.length<Y.length:=by omega
  have hlt':(X.length:Int)<(Y.length:Int):=by omega
  clear lX lY hlt;go_enter Tryz.func58,Tryz.ntmps58;go_wp2_with fail;refine pX.mono ?_;rintro e1 w1 ⟨v1,rfl,h1,hb⟩;obtain⟨A1,c1,rfl,hc1⟩:=h1.form;go_wp2_with fail;refine(pY _ hb).mono ?_;rintro e2 w2 ⟨v2,rfl,h2,hb2⟩;obtain⟨A2,c2,rfl,hc2⟩:=h2.form;replace h1:=h1.below hb2;replace hb:=aB hb hb2;clear pX pY hb2 hx hy;go_wp2_with fail
  go_loopg [5,6] X.length (fun k va vb wr=>∃a b A c A' c' K',Hid (b.length=k)∧va= .slice A a.length c∧vb= .slice A' b.length c'∧WholeAt wr (.slice A a.length c) a∧WholeAt wr (.slice A' b.length c') b∧Hid (aN a)∧Hid (aN b)∧Hid (∀g,Euc B a b g→Euc B Y X g)∧
   (∀n∈a,nl n.natAbs≤K')∧(∀n∈b,nl n.natAbs≤K')∧1≤K'∧b.length≤a.length∧a.length≤1073741824∧Hid ((K'+1)*(a.length-b.length+2)*3^b.length≤B)∧Below w.heap.size w wr)
  case atStart=>exact⟨Y,X,A2,c2,A1,c1,K,rfl,rfl,rfl,h2,h1,tY,tX,fun g h=>h,kY,kX,hK1,by omega,by omega,hB hlt2,hb⟩
  case round=>
   clear h1 h2 hb hB hB' tX tY kX kY;obtain⟨a,b,Aa,ca,Ab,cb,K',HL,rfl,rfl,ha,hbb,HTa,HTb,HE,ka,kb,hK1',hab,hla,HP,hb⟩:=hrel;generalize wr=wy at *;have hKB':=tK HP.out hab;by_cases h0:b.length=0
   ·have q0:¬(0:Int)<(b.length:Int):=by omega
    have hb0:b=[]:=List.eq_nil_of_length_eq_zero h0;have hE:=HE.out a (by rw[hb0];exact Euc.done a);have HEE:=Lib.hid hE;clear hb0 h0 hE;go_wp2_with fail;go_ret
    first|exact⟨_,a,rfl,ha,HEE.out,hb⟩|exact⟨_,rfl,a,ha,HEE.out,hb⟩
   ·have q0:(0:Int)<(b.length:Int):=by omega
    by_cases h1:b.length=1
    ·have q1:((b.length:Int)==1)=true:=by simp;omega
     have hE:=HE.out [1] (Euc.one h1);have HEE:=Lib.hid hE;clear h0 h1 hE;go_wp2_with fail;refine(jK 1 _ (by decide) (by decide)).mono ?_;rintro e3 w3 ⟨v3,rfl,h3,hb3⟩;obtain⟨s3,A3,k3,c3,rfl⟩:=h3.form;go_wp2_with fail;go_ret;exact⟨_,[1],rfl,WholeAt.single h3,HEE.out,(aB hb hb3).alloc (Nat.le_trans hb.size hb3.size) _⟩
    ·have q1:((b.length:Int)==1)=false:=by simp;omega
     have hb0:b≠[]:=fun e=>h0 (by rw[e];rfl);have hb1:1<b.length:=by omega
     have pq:=pE a b _ _ wy ha hbb hb0 HTa.out HTb.out K' _ ka kb hK1' (Nat.le_refl _) (by omega) hla (by omega);unfold oA at pq;go_wp2_with fail;refine pq.mono ?_;rintro e3 w3 ⟨vq,vr,vm,q,r,m,rfl,hq,hr,hm,hres,hb3⟩;obtain⟨Aq,cq,rfl, -⟩:=hq.form;obtain⟨Ar,cr,rfl,hcr⟩:=hr.form;obtain⟨s3,A3,k3,c3,rfl⟩:=hm.form;have hrl:=hres.r_lt;have hpr:=fun W hG h=>qJ r (.slice Ar r.length cr) W hG h hres.r_trim _ hres.br (by omega) (by omega);have ht:=j8 hres.r_trim;have hk:=mI hres.br;have hk2:∀n∈b,nl n.natAbs≤K'+(a.length+1-b.length)*(K'+1):=fun n hn=>Nat.le_trans (kb n hn) (Nat.le_add_right _ _);have hl:=gA r;have hnx:(K'+(a.length+1-b.length)*(K'+1)+1)*(b.length-(aZ r).length+2)*3^(aZ r).length≤B:=by rw[hl];exact DX HP.out hrl hab
     have hE:∀g,Euc B b (aZ r) g→Euc B Y X g:=fun g t=>HE.out g (Euc.step hb1 (hres.mono (by omega)) t);have HH:=Lib.hid (And.intro hnx (And.intro hE ht));have hK9:1≤K'+(a.length+1-b.length)*(K'+1):=Nat.le_trans hK1' (Nat.le_add_right _ _);have HLR:=Lib.hid hl;clear hl hres hnx hE ht pq h0 h1 hb0;generalize aZ r=P at *;generalize K'+(a.length+1-b.length)*(K'+1)=KK at *;replace hbb:=hbb.below hb3;replace hb:=aB hb hb3;go_wp2_with fail;have hbX:Below w3.heap.size w3 (w3.alloc (.cells #[.bool s3,.slice A3 k3 c3] 53)):=(Below.refl _ _).alloc (Nat.le_refl _) _;replace hbb:=hbb.below hbX;replace hr:=hr.below hbX;replace hb:=aB hb hbX;clear hbX;generalize w3.alloc (.cells #[.bool s3,.slice A3 k3 c3] 53)=w4 at *;refine(hpr _ (hG.below hb) hr).mono ?_;rintro e5 w5 ⟨v5,rfl,h5,hb5⟩;obtain⟨A5,c5,rfl,hc5⟩:=h5.form;replace hbb:=hbb.below hb5;replace hb:=aB hb hb5;go_wp2_with fail;go_roundg P.length
     case rel=>exact⟨b,P,Ab,cb,A5,c5,KK,rfl,rfl,rfl,hbb,h5,HTb,HH.out.2.2,HH.out.2.1,hk2,hk,hK9,by have:=HLR.out;omega,by omega,HH.out.1,hb⟩
     case measure=>have:=HL.out;have:=HLR.out;omega
 ·simp only[if_neg hlt];have hlt2:¬X.length<Y.length:=by omega
  have hlt':¬(X.length:Int)<(Y.length:Int):=by omega
  clear lX lY hlt;go_enter Tryz.func58,Tryz.ntmps58;go_wp2_with fail;refine pX.mono ?_;rintro e1 w1 ⟨v1,rfl,h1,hb⟩;obtain⟨A1,c1,rfl,hc1⟩:=h1.form;go_wp2_with fail;refine(pY _ hb).mono ?_;rintro e2 w2 ⟨v2,rfl,h2,hb2⟩;obtain⟨A2,c2,rfl,hc2⟩:=h2.form;replace h1:=h1.below hb2;replace hb:=aB hb hb2;clear pX pY hb2 hx hy;go_wp2_with fail
  go_loopg [5,6] Y.length (fun k va vb wr=>∃a b A c A' c' K',Hid (b.length=k)∧va= .slice A a.length c∧vb= .slice A' b.length c'∧WholeAt wr (.slice A a.length c) a∧WholeAt wr (.slice A' b.length c') b∧Hid (aN a)∧Hid (aN b)∧Hid (∀g,Euc B a b g→Euc B X Y g)∧
   (∀n∈a,nl n.natAbs≤K')∧(∀n∈b,nl n.natAbs≤K')∧1≤K'∧b.length≤a.length∧a.length≤1073741824∧Hid ((K'+1)*(a.length-b.length+2)*3^b.length≤B)∧Below w.heap.size w wr)
  case atStart=>exact⟨X,Y,A1,c1,A2,c2,K,rfl,rfl,rfl,h1,h2,tX,tY,fun g h=>h,kX,kY,hK1,by omega,by omega,hB' hlt2,hb⟩
  case round=>
   clear h1 h2 hb hB hB' tX tY kX kY;obtain⟨a,b,Aa,ca,Ab,cb,K',HL,rfl,rfl,ha,hbb,HTa,HTb,HE,ka,kb,hK1',hab,hla,HP,hb⟩:=hrel;generalize wr=wy at *;have hKB':=tK HP.out hab;by_cases h0:b.length=0
   ·have q0:¬(0:Int)<(b.length:Int):=by omega
    have hb0:b=[]:=List.eq_nil_of_length_eq_zero h0;have hE:=HE.out a (by rw[hb0];exact Euc.done a);have HEE:=Lib.hid hE;clear hb0 h0 hE;go_wp2_with fail;go_ret
    first|exact⟨_,a,rfl,ha,HEE.out,hb⟩|exact⟨_,rfl,a,ha,HEE.out,hb⟩
   ·have q0:(0:Int)<(b.length:Int):=by omega
    by_cases h1:b.length=1
    ·have q1:((b.length:Int)==1)=true:=by simp;omega
     have hE:=HE.out [1] (Euc.one h1);have HEE:=Lib.hid hE;clear h0 h1 hE;go_wp2_with fail;refine(jK 1 _ (by decide) (by decide)).mono ?_;rintro e3 w3 ⟨v3,rfl,h3,hb3⟩;obtain⟨s3,A3,k3,c3,rfl⟩:=h3.form;go_wp2_with fail;go_ret;exact⟨_,[1],rfl,WholeAt.single h3,HEE.out,(aB hb hb3).alloc (Nat.le_trans hb.size hb3.size) _⟩
    ·have q1:((b.length:Int)==1)=false:=by simp;omega
     have hb0:b≠[]:=fun e=>h0 (by rw[e];rfl);have hb1:1<b.length:=by omega
     have pq:=pE a b _ _ wy ha hbb hb0 HTa.out HTb.out K' _ ka kb hK1' (Nat.le_refl _) (by omega) hla (by omega);unfold oA at pq;go_wp2_with fail;refine pq.mono ?_;rintro e3 w3 ⟨vq,vr,vm,q,r,m,rfl,hq,hr,hm,hres,hb3⟩;obtain⟨Aq,cq,rfl, -⟩:=hq.form;obtain⟨Ar,cr,rfl,hcr⟩:=hr.form;obtain⟨s3,A3,k3,c3,rfl⟩:=hm.form;have hrl:=hres.r_lt;have hpr:=fun W hG h=>qJ r (.slice Ar r.length cr) W hG h hres.r_trim _ hres.br (by omega) (by omega);have ht:=j8 hres.r_trim;have hk:=mI hres.br;have hk2:∀n∈b,nl n.natAbs≤K'+(a.length+1-b.length)*(K'+1):=fun n hn=>Nat.le_trans (kb n hn) (Nat.le_add_right _ _);have hl:=gA r;have hnx:(K'+(a.length+1-b.length)*(K'+1)+1)*(b.length-(aZ r).length+2)*3^(aZ r).length≤B:=by rw[hl];exact DX HP.out hrl hab
     have hE:∀g,Euc B b (aZ r) g→Euc B X Y g:=fun g t=>HE.out g (Euc.step hb1 (hres.mono (by omega)) t);have HH:=Lib.hid (And.intro hnx (And.intro hE ht));have hK9:1≤K'+(a.length+1-b.length)*(K'+1):=Nat.le_trans hK1' (Nat.le_add_right _ _);have HLR:=Lib.hid hl;clear hl hres hnx hE ht pq h0 h1 hb0;generalize aZ r=P at *;generalize K'+(a.length+1-b.length)*(K'+1)=KK at *;replace hbb:=hbb.below hb3;replace hb:=aB hb hb3;go_wp2_with fail;have hbX:Below w3.heap.size w3 (w3.alloc (.cells #[.bool s3,.slice A3 k3 c3] 53)):=(Below.refl _ _).alloc (Nat.le_refl _) _;replace hbb:=hbb.below hbX;replace hr:=hr.below hbX;replace hb:=aB hb hbX;clear hbX;generalize w3.alloc (.cells #[.bool s3,.slice A3 k3 c3] 53)=w4 at *;refine(hpr _ (hG.below hb) hr).mono ?_;rintro e5 w5 ⟨v5,rfl,h5,hb5⟩;obtain⟨A5,c5,rfl,hc5⟩:=h5.form;replace hbb:=hbb.below hb5;replace hb:=aB hb hb5;go_wp2_with fail;go_roundg P.length
     case rel=>exact⟨b,P,Ab,cb,A5,c5,KK,rfl,rfl,rfl,hbb,h5,HTb,HH.out.2.2,HH.out.2.1,hk2,hk,hK9,by have:=HLR.out;omega,by omega,HH.out.1,hb⟩
     case measure=>have:=HL.out;have:=HLR.out;omega
theorem xM {d:Nat→Int} {ys:List Int} {L:Nat} (hy0:ys≠[]) (ty:aN ys) (hd:∀i,L≤i→d i=0) (h:∀i,ys.length≤i+1→conv d (cf ys) i=0):∀i,d i=0:=by
 induction L with
 |zero=>exact fun i=>hd i (Nat.zero_le _)
 |succ L ih=>
  refine ih (fun i hi=> ?_);by_cases hL:L+1≤i
  ·exact hd i hL
  ·have e:i=L:=by omega
   subst e;have h1:=mZ (p:=d) (q:=cf ys) (m:=i) (n:=ys.length-1) (fun j hj=>hd j (by omega)) (fun j hj=>aP (by omega));rw[h _ (by omega)] at h1;rcases Int.mul_eq_zero.1 h1.symm with h2|h2
   ·exact h2
   ·exact absurd h2 ((cZ hy0).1 ty)
theorem xN {xs ys q r q0 r0:List Int} {KB:Nat} {m m0:Int} (h:PQRes xs ys KB m q r) (hy0:ys≠[]) (ty:aN ys) (h0:∀i,m0*cf xs i=conv (cf q0) (cf ys) i+cf r0 i) (hr0:r0.length<ys.length):
  (∀i,m0*cf q i=m*cf q0 i)∧∀i,m0*cf r i=m*cf r0 i:=by
 have hc:∀i,conv (fun j=>m0*cf q j+(-m)*cf q0 j) (cf ys) i=m*cf r0 i-m0*cf r i:=fun i=>by
  rw[j7,fF,fF];have h1:=h.id_ i;have h2:=h0 i;have e1:conv (cf q) (cf ys) i=m*cf xs i-cf r i:=by omega
  have e2:conv (cf q0) (cf ys) i=m0*cf xs i-cf r0 i:=by omega
  rw[e1,e2,Int.mul_sub,Int.mul_sub,Int.neg_mul,Int.neg_mul,Int.mul_left_comm];omega
 have hz:=xM (d:=fun j=>m0*cf q j+(-m)*cf q0 j) (L:=q.length+q0.length) hy0 ty (fun i hi=>by
  show m0*cf q i+ -m*cf q0 i=0
  rw[aP (by omega),aP (by omega)];simp) (fun i hi=>by
  rw[hc,aP (by omega),aP (by have:=h.r_lt;omega)];simp)
 refine⟨fun i=> ?_,fun i=> ?_⟩
 ·have:=hz i;rw[Int.neg_mul] at this;omega
 ·have:=hc i;rw[eR hz] at this;omega
theorem NZ {r:List Int} {x:Int} (hl:r.length<2) (ht:aN r) (h:cf r 0=x) (hx:x≠0):r=[x]:=by
 match r,hl with
 |[],_=>rw[bS] at h;exact absurd h.symm hx
 |[a],_=>rw[show a=x from h]
theorem DQ {r:List Int} (ht:aN r) (h:∀i,cf r i=0):r=[]:=iJ ht (fun a ha=>by simp at ha) (fun i=>by rw[h,bS])
theorem O0 {r:List Int} {x:Int} (hl:r.length<3) (h0:cf r 0=0) (h1:cf r 1=x) (hx:x≠0):r=[0,x]:=by
 match r,hl with
 |[],_=>rw[bS] at h1;exact absurd h1.symm hx
 |[a],_=>exact absurd h1.symm hx
 |[a,b],_=>rw[show a=0 from h0,show b=x from h1]
def xO (q ys r xs:List Int) (m0:Int) (n:Nat):Bool:=(List.range n).all (fun i=>m0*cf xs i==conv (cf q) (cf ys) i+cf r i)
theorem qI {q ys r xs:List Int} {m0:Int} {n:Nat} (h:xO q ys r xs m0 n=true) (h1:q.length+ys.length≤n) (h2:r.length≤n) (h3:xs.length≤n) (i:Nat):m0*cf xs i=conv (cf q) (cf ys) i+cf r i:=by
 by_cases hi:i<n
 ·unfold xO at h;rw[List.all_eq_true] at h;exact beq_iff_eq.1 (h i (List.mem_range.2 hi))
 ·rw[aP (by omega),aP (l:=r) (by omega),o6 (m:=q.length) (n:=ys.length) (fun j hj=>aP hj) (fun j hj=>aP hj) (by omega)];simp
theorem cY {l:List Int} (h:(match l.getLast? with|none=>true|some a=>a != 0)=true):aN l:=fun a ha=>by
 rw[ha] at h;simpa using h
theorem lC {q ys xs:List Int} {n:Nat} (h:xO q ys [] xs 1 n=true) (h1:q.length+ys.length≤n) (h3:xs.length≤n) (i:Nat):cf xs i=conv (cf q) (cf ys) i:=by
 have:=qI h h1 (Nat.zero_le _) h3 i;rw[bS,Int.one_mul,Int.add_zero] at this;exact this
theorem O1 {KB:Nat} {m:Int} {q r:List Int} (h:PQRes [-1,1] [-3,1] KB m q r):m=1∧r=[2]:=by
 obtain⟨e, -,he⟩:=h.pow;have hm:m=1:=by rw[he];exact Int.one_pow
 refine⟨hm,?_⟩;have hu:=(xN (q0:=[1]) (r0:=[2]) (m0:=1) h (by decide) (cY rfl) (qI (n:=4) (by decide) (by decide) (by decide) (by decide)) (by decide)).2;refine NZ h.r_lt h.r_trim ?_ (by decide);have h9:1*cf r 0=m*2:=hu 0;omega
theorem O2 {B:Nat} {a g:List Int} (h:Euc B a [] g):g=a:=by
 cases h with
 |done=>rfl
 |one hb=>simp at hb
 |step hb _ _=>simp at hb
theorem DR {B:Nat} {a b g q0:List Int} {m0:Int} (h:Euc B a b g) (hb:1<b.length) (tb:aN b) (hm0:m0≠0) (h0:∀i,m0*cf a i=conv (cf q0) (cf b) i+cf ([]:List Int) i):g=b:=by
 have hb0:b≠[]:=fun e=>by rw[e] at hb;simp at hb
 cases h with
 |done=>simp at hb
 |one hb1=>omega
 |step hb1 hpq t=>
  have hu:=(xN hpq hb0 tb h0 (by simp;omega)).2
  have hr:=DQ hpq.r_trim (fun i=>by
   have:=hu i;rw[bS,Int.mul_zero] at this;exact(Int.mul_eq_zero.1 this).resolve_left hm0)
  rw[hr] at t;exact O2 t
theorem O3 {B:Nat} {g:List Int} (h:Euc B [0,0, -1,1] [0, -2,3] g):g=[0, -1]:=by
 cases h with
 |one hb1=>simp at hb1
 |step hb1 hpq t=>
  rename_i q r m;obtain⟨e, -,he⟩:=hpq.pow;have hm:0<m:=by rw[he];exact Int.pow_pos (by decide)
  have hu:=(xN (q0:=[-1,3]) (r0:=[0, -2]) (m0:=9) hpq (by decide) (cY rfl) (qI (n:=6) (by decide) (by decide) (by decide) (by decide)) (by decide)).2;have h0:9*cf r 0=m*0:=hu 0;have h1:9*cf r 1=m* -2:=hu 1;have hr:=O0 (r:=r) (x:=cf r 1) hpq.r_lt (by omega) rfl (by omega);have hneg:cf r 1<0:=by omega
  generalize cf r 1=t1 at *;have hp:aZ r=[0, -1]:=by
   rw[hr];have hg:(cA [0,t1]:Int)= -t1:=by
    rw[jS,jS,tM,Nat.gcd_zero_left];simp;omega
   unfold aZ bK;rw[hg];have h2:t1.tdiv (-t1)= -1:=by rw[Int.tdiv_neg,Int.tdiv_self (by omega)]
   show[(0:Int).tdiv (-t1),t1.tdiv (-t1)]=[0, -1]
   rw[h2,Int.zero_tdiv]
  rw[hp] at t;exact DR (q0:=[2, -3]) (m0:=1) t (by decide) (cY rfl) (by decide) (qI (n:=6) (by decide) (by decide) (by decide) (by decide))
theorem O4:aZ [0,0, -1,1]=[0,0, -1,1]:=by decide
theorem O5:aZ [0, -2,3]=[0, -2,3]:=by decide
theorem O6:aZ [0,1, -1]=[0,1, -1]:=by decide
theorem DS:aZ [0, -1]=[0, -1]:=by decide
theorem O7:aZ [1]=[1]:=by decide
theorem xP:fT [0,0, -1,1]=[0, -2,3]:=by decide
theorem DT {B:Nat} {g:List Int} (h:fL B [0,0, -1,1] [0, -2,3] g):g=[0, -1]:=by
 unfold fL at h;rw[if_neg (by decide),O4,O5] at h;exact O3 h
theorem DU {B:Nat} {g:List Int} (h:fL B [0,1, -1] [0, -1] g):g=[0, -1]:=by
 unfold fL at h;rw[if_neg (by decide),O6,DS] at h;exact DR (q0:=[-1,1]) (m0:=1) h (by decide) (cY rfl) (by decide) (qI (n:=6) (by decide) (by decide) (by decide) (by decide))
theorem DV {B:Nat} {g:List Int} (h:fL B [0, -1] [1] g):g=[1]:=by
 unfold fL at h;rw[if_neg (by decide),DS,O7] at h;cases h with
 |one=>rfl
 |step hb _ _=>simp at hb
theorem RatAt.int {w:World} {s s':Bool} {u u':Value} {n:Int} (h1:IntAt w (.agg #[.bool s,u]) n) (h2:IntAt w (.agg #[.bool s',u']) 0):RatAt w (.agg #[.bool s,u,.bool s',u']) (n:Rat):=
 RatAt.of h1 h2 rfl (dH.2 rfl)
theorem n9:nl (Int.natAbs 0)≤17592186044416:=by rw[show Int.natAbs 0=0 from rfl,cC];exact Nat.zero_le _
theorem u6 (n:Int):aS (n:Rat)=0:=dH.2 rfl
theorem Q7 (n:Int) (vn:Value) (w:World) (hn:IntAt w vn n):
  Calls Tryz.prog 134 #[vn] w (eV w (n:Rat)):=by
 obtain⟨sn,An,kn,cn,rfl⟩:=hn.form;have B1:Bx ((w.alloc (.cells #[.bool sn,.slice An kn cn] 53)).alloc (.cells #[.bool false,.slice none 0 0,.bool false,.slice none 0 0] 83)) (w.heap.size) [.bool sn,.slice An kn cn] 53:=(Bx.newAt w [.bool sn,.slice An kn cn] 53 (w.heap.size) (by simp)).alloc (.cells #[.bool false,.slice none 0 0,.bool false,.slice none 0 0] 83);have R:Bx ((w.alloc (.cells #[.bool sn,.slice An kn cn] 53)).alloc (.cells #[.bool false,.slice none 0 0,.bool false,.slice none 0 0] 83)) (w.heap.size+1) [.bool false,.slice none 0 0,.bool false,.slice none 0 0] 83:=Bx.newAt (w.alloc (.cells #[.bool sn,.slice An kn cn] 53)) [.bool false,.slice none 0 0,.bool false,.slice none 0 0] 83 (w.heap.size+1) (by simp);have hb:Below w.heap.size w ((w.alloc (.cells #[.bool sn,.slice An kn cn] 53)).alloc (.cells #[.bool false,.slice none 0 0,.bool false,.slice none 0 0] 83)):=((Below.refl _ _).alloc (by simp) _).alloc (by simp<;>omega) _;go_enter Tryz.func134,Tryz.ntmps134;go_wp2_with fail;have h2:=hn.below hb;have hbR:=((Below.refl w.heap.size w).alloc (Nat.le_refl _) (.cells #[.bool sn,.slice An kn cn] 53)).alloc (by simp) (.cells #[.bool sn,.slice An kn cn,.bool false,.slice none 0 0] 83);exact bodyPost_ret (v:= .agg #[.bool sn,.slice An kn cn,.bool false,.slice none 0 0]) (by simp[results,Tryz.results134,go_sem]) rfl ⟨_,rfl,RatAt.int (hn.below hbR) (IntAt.zero _),hbR⟩
theorem Q8 (n:Int) (m:Nat) (v:Value) (w:World) (hv:RatAt w v (n:Rat)) (hm:m<BN) (hlim:2*(m*nl n.natAbs+1)+nl n.natAbs≤aF):
  Calls Tryz.prog 132 #[v,.int .u64 m] w (eV w ((n^m:Int):Rat)):=by
 obtain⟨s,A,k,c,s',A',k',c',rfl⟩:=hv.form;obtain⟨W,eW,hb,B1,R⟩:=j6 w [.bool s,.slice A k c,.bool s',.slice A' k' c'] 83 [.bool false,.slice none 0 0,.bool false,.slice none 0 0] 83;have cM:=aa B1.g4 R.g4;go_enter Tryz.func132,Tryz.ntmps132;go_wp2_with fail;(try rw[eW]);clear eW;have hn:IntAt W (.agg #[.bool s,.slice A k c]) n:=(hv.below hb).num;have hd:IntAt W (.agg #[.bool s',.slice A' k' c']) 0:=by have:=(hv.below hb).den;rw[u6] at this;exact this
 refine(cU 0 _ _ hd n9).mono ?_;rintro e1 w1 ⟨rfl,hb1⟩;replace B1:=B1.below hb1;replace R:=R.below hb1;replace cM:=aa B1.k4 R.g4;replace hk:=Keep.below hb1;replace hn:=hn.keep hk;replace hd:=hd.keep hk;replace hb:=aB hb hb1;have hdd:decide ((0:Int)=0)=true:=rfl;rw[hdd];clear hdd;go_wp2_with fail;refine(qP n m _ _ hn hm hlim).mono ?_;rintro e2 w2 ⟨v2,rfl,h2,hb2⟩;obtain⟨s2,A2,k2,c2,rfl⟩:=h2.form;replace B1:=B1.below hb2;replace R:=R.below hb2;replace cM:=aa B1.k4 R.g4;replace hk:=Keep.below hb2;replace hn:=hn.keep hk;replace hb:=aB hb hb2;go_wp2_with fail;obtain⟨W6,eW6,R,hb,hk,ff⟩:=R.put4 hb (by omega) (.bool s2) (.slice A2 k2 c2) (.bool false) (.slice none 0 0) rfl rfl;replace B1:=ff B1 (by omega);replace h2:=h2.keep hk;rw[eW6];clear eW6;replace cM:=aa B1.k4 R.k4;exact bodyPost_ret (v:= .agg #[.bool s2,.slice A2 k2 c2,.bool false,.slice none 0 0]) (by simp[results,Tryz.results132,go_sem,R.k4]) rfl ⟨_,rfl,RatAt.int h2 (IntAt.zero _),hb⟩
theorem xX (x y:Int) (vx vy:Value) (w:World) (hx:RatAt w vx (x:Rat)) (hy:RatAt w vy (y:Rat)) (hlim:nl x.natAbs+nl y.natAbs≤17592186044416):
  Calls Tryz.prog 84 #[vx,vy] w (eV w ((x*y:Int):Rat)):=by
 obtain⟨s,A,k,c,s',A',k',c',rfl⟩:=hx.form;obtain⟨t,C,l,e,t',C',l',e',rfl⟩:=hy.form;obtain⟨W,eW,hb,X,Y,R⟩:=dK w [.bool s,.slice A k c,.bool s',.slice A' k' c'] 83 [.bool t,.slice C l e,.bool t',.slice C' l' e'] 83 [.bool false,.slice none 0 0,.bool false,.slice none 0 0] 83;have cM:=aa X.g4 (aa Y.g4 R.g4);go_enter Tryz.func84,Tryz.ntmps84;go_wp2_with fail;(try rw[eW]);clear eW;have hxn:IntAt W (.agg #[.bool s,.slice A k c]) x:=(hx.below hb).num;have hxd:IntAt W (.agg #[.bool s',.slice A' k' c']) 0:=by have:=(hx.below hb).den;rw[u6] at this;exact this
 have hyn:IntAt W (.agg #[.bool t,.slice C l e]) y:=(hy.below hb).num;have hyd:IntAt W (.agg #[.bool t',.slice C' l' e']) 0:=by have:=(hy.below hb).den;rw[u6] at this;exact this
 refine(cU x _ _ hxn (by omega)).mono ?_;rintro e1 w1 ⟨rfl,hb1⟩;replace X:=X.below hb1;replace Y:=Y.below hb1;replace R:=R.below hb1;replace cM:=aa X.k4 (aa Y.k4 R.g4);replace hk:=Keep.below hb1;replace hxn:=hxn.keep hk;replace hxd:=hxd.keep hk;replace hyn:=hyn.keep hk;replace hyd:=hyd.keep hk;replace hb:=aB hb hb1;by_cases hx0:x=0
 ·have hdd:decide (x=0)=true:=by simpa using hx0
  rw[hdd];have hq:x*y=0:=by rw[hx0,Int.zero_mul]
  have HQ:=Lib.hid hq;clear hdd hq hx0;go_wp2_with fail;obtain⟨W6,eW6,R,hb,hk,ff⟩:=R.put4 hb (by omega) (.bool false) (.slice none 0 0) (.bool false) (.slice none 0 0) rfl rfl;replace X:=ff X (by omega);replace Y:=ff Y (by omega);rw[eW6];clear eW6;replace cM:=aa X.k4 (aa Y.k4 R.k4);exact bodyPost_ret (v:= .agg #[.bool false,.slice none 0 0,.bool false,.slice none 0 0]) (by simp[results,Tryz.results84,go_sem,R.k4]) rfl ⟨_,rfl,RatAt.of (IntAt.zero _) (IntAt.zero _) (by rw[HQ.out];rfl) (by rw[HQ.out];rfl),hb⟩
 ·have hdd:decide (x=0)=false:=by simpa using hx0
  rw[hdd];clear hdd;go_wp2_with fail;refine(cU y _ _ hyn (by omega)).mono ?_;rintro e2 w2 ⟨rfl,hb2⟩;replace X:=X.below hb2;replace Y:=Y.below hb2;replace R:=R.below hb2;replace cM:=aa X.k4 (aa Y.k4 R.g4);replace hk:=Keep.below hb2;replace hxn:=hxn.keep hk;replace hxd:=hxd.keep hk;replace hyn:=hyn.keep hk;replace hyd:=hyd.keep hk;replace hb:=aB hb hb2;by_cases hy0:y=0
  ·have hdd:decide (y=0)=true:=by simpa using hy0
   rw[hdd];have hq:x*y=0:=by rw[hy0,Int.mul_zero]
   have HQ:=Lib.hid hq;clear hdd hq hy0;go_wp2_with fail;obtain⟨W6,eW6,R,hb,hk,ff⟩:=R.put4 hb (by omega) (.bool false) (.slice none 0 0) (.bool false) (.slice none 0 0) rfl rfl;replace X:=ff X (by omega);replace Y:=ff Y (by omega);rw[eW6];clear eW6;replace cM:=aa X.k4 (aa Y.k4 R.k4);exact bodyPost_ret (v:= .agg #[.bool false,.slice none 0 0,.bool false,.slice none 0 0]) (by simp[results,Tryz.results84,go_sem,R.k4]) rfl ⟨_,rfl,RatAt.of (IntAt.zero _) (IntAt.zero _) (by rw[HQ.out];rfl) (by rw[HQ.out];rfl),hb⟩
  ·have hdd:decide (y=0)=false:=by simpa using hy0
   rw[hdd];clear hdd;go_wp2_with fail;refine(cU 0 _ _ hxd n9).mono ?_;rintro e3 w3 ⟨rfl,hb3⟩;replace X:=X.below hb3;replace Y:=Y.below hb3;replace R:=R.below hb3;replace cM:=aa X.k4 (aa Y.k4 R.g4);replace hk:=Keep.below hb3;replace hxn:=hxn.keep hk;replace hxd:=hxd.keep hk;replace hyn:=hyn.keep hk;replace hyd:=hyd.keep hk;replace hb:=aB hb hb3;have hdd:decide ((0:Int)=0)=true:=rfl;rw[hdd];clear hdd;go_wp2_with fail;refine(cU 0 _ _ hyd n9).mono ?_;rintro e4 w4 ⟨rfl,hb4⟩;replace X:=X.below hb4;replace Y:=Y.below hb4;replace R:=R.below hb4;replace cM:=aa X.k4 (aa Y.k4 R.g4);replace hk:=Keep.below hb4;replace hxn:=hxn.keep hk;replace hxd:=hxd.keep hk;replace hyn:=hyn.keep hk;replace hyd:=hyd.keep hk;replace hb:=aB hb hb4;have hdd:decide ((0:Int)=0)=true:=rfl;rw[hdd];clear hdd;go_wp2_with fail;refine(f8 x y _ _ _ hxn hyn hlim).mono ?_;rintro e5 w5 ⟨v5,rfl,h5,hb5⟩;obtain⟨s5,A5,k5,c5,rfl⟩:=h5.form;replace X:=X.below hb5;replace Y:=Y.below hb5;replace R:=R.below hb5;replace cM:=aa X.k4 (aa Y.k4 R.g4);replace hb:=aB hb hb5;go_wp2_with fail;obtain⟨W6,eW6,R,hb,hk,ff⟩:=R.put4 hb (by omega) (.bool s5) (.slice A5 k5 c5) (.bool false) (.slice none 0 0) rfl rfl;replace X:=ff X (by omega);replace Y:=ff Y (by omega);replace h5:=h5.keep hk;rw[eW6];clear eW6;replace cM:=aa X.k4 (aa Y.k4 R.k4);exact bodyPost_ret (v:= .agg #[.bool s5,.slice A5 k5 c5,.bool false,.slice none 0 0]) (by simp[results,Tryz.results84,go_sem,R.k4]) rfl ⟨_,rfl,RatAt.int h5 (IntAt.zero _),hb⟩
abbrev Z0:Obj:= .cells #[.bool false,.slice none 0 0] 53
class St (a:outParam World) (b:World):Prop where
 out:Below a.heap.size a b
instance (w:World) (o:Obj):St w (w.alloc o):=⟨(Below.refl _ _).alloc (Nat.le_refl _) _⟩
instance (w:World):St w w.drew:=⟨(Below.refl _ _).drew⟩
class Up (a b:World):Prop where
 out:Below a.heap.size a b
instance (a:World):Up a a:=⟨Below.refl _ _⟩
instance (a b c:World) [s:St b c] [u:Up a b]:Up a c:=⟨u.out.trans (s.out.mono u.out.size)⟩
class Nw (a:World) (g:Nat):Prop where
 out:a.heap.size≤g
instance (a b:World) [u:Up a b]:Nw a b.heap.size:=⟨u.out.size⟩
instance (a b:World) [u:Up a b]:Nw a (b.heap.size+1):=⟨Nat.le_succ_of_le u.out.size⟩
instance (a b:World) (g o:Nat) (v:Value) [n:Nw a g] [u:Up a b]:Up a (b.setCell ⟨g,o,none⟩ v):=⟨u.out.setCell (p:=⟨g,o,none⟩) n.out v⟩
section
variable {a b:World} [u:Up a b]
theorem NatAt.up {v:Value} {n:Nat} (h:NatAt a v n):NatAt b v n:=h.below u.out
theorem IntAt.up {v:Value} {n:Int} (h:IntAt a v n):IntAt b v n:=h.below u.out
theorem RatAt.up {v:Value} {n:Rat} (h:RatAt a v n):RatAt b v n:=h.below u.out
theorem WholeAt.up {v:Value} {n:List Int} (h:WholeAt a v n):WholeAt b v n:=h.below u.out
theorem StrsAt.up {v:Value} {n:List (List UInt8)} (h:StrsAt a v n):StrsAt b v n:=h.below u.out
theorem RatsAt.up {v:Value} {n:List Rat} (h:RatsAt a v n):RatsAt b v n:=h.below u.out
theorem Bx.up {g:Nat} {cs:List Value} {t:TypeId} (h:Bx a g cs t):Bx b g cs t:=h.below u.out
theorem OwnW.up {g:Nat} {n:List Int} (h:OwnW a g n):OwnW b g n:=h.below u.out
theorem OwnS.up {g:Nat} {n:List (List UInt8)} (h:OwnS a g n):OwnS b g n:=h.below u.out
theorem Glob.up (h:Glob a):Glob b:=h.below u.out
theorem mL {w:World} (h:Below w.heap.size w a):Below w.heap.size w b:=h.trans (u.out.mono h.size)
end
theorem dd {w:World} {g:Nat} {v0 v1:Value} {t:TypeId} (h:Bx w g [v0,v1] t):(C2 w g v0 v1∧Fz w g)∧(∀o:Obj,C2 (w.alloc o) g v0 v1∧Fz (w.alloc o) g)∧g≠w.heap.size∧w.heap.size≠g:=
 ⟨h.g2,fun o=>(h.alloc o).g2,Nat.ne_of_lt h.lt,Nat.ne_of_gt h.lt⟩
structure DivRes (A B Q R:List Rat) (K:Nat):Prop where
 id_:∀i,conv (cf Q) (cf B) i+cf R i=cf A i
 q_trim:aN Q
 r_trim:aN R
 r_lt:R.length<B.length
 q_len:Q.length≤A.length
 bq:∀q∈Q,RL K q
 br:∀q∈R,RL K q
theorem mN {ns:List Int} {F:Int} (hF:F≠0) (h:aN ns):aN (aT ns F):=by
 intro a ha e;unfold aT at ha;rw[List.getLast?_map] at ha;cases hq:ns.getLast? with
 |none=>rw[hq] at ha;simp at ha
 |some n=>
  rw[hq] at ha;simp only[Option.map_some,Option.some.injEq] at ha;rw[e] at ha;have h1:(n:Rat)≠0:=fun e=>h n hq (Rat.intCast_inj.1 e);have h2:(F:Rat)≠0:=fun e=>hF (Rat.intCast_inj.1 e);grind
theorem FD {ns:List Int} {E:Int} (hE:E≠0) (h:aN ns):aN (ns.map (·*E)):=by
 intro a ha e;rw[List.getLast?_map] at ha;cases hq:ns.getLast? with
 |none=>rw[hq] at ha;simp at ha
 |some n=>
  rw[hq] at ha;simp only[Option.map_some,Option.some.injEq] at ha;rw[e] at ha;rcases Int.mul_eq_zero.1 ha with h1|h1
  ·exact h n hq h1
  ·exact hE h1
theorem jB (ns:List Int) (F:Int) (i:Nat):cf (aT ns F) i=((cf ns i:Int):Rat)/F:=nY (fun n:Int=>(n:Rat)/(F:Rat)) (BE F) ns i
theorem qV (ns:List Int) (E:Int) (i:Nat):cf (ns.map (·*E)) i=cf ns i*E:=nY (·*E) (Int.zero_mul E) ns i
theorem QU {A B:List Rat} {D E m:Int} {q r:List Int} {K0 KB K2:Nat} (hA:ComDen A D K0) (hB:ComDen B E K0) (h:PQRes (aI A D) (aI B E) KB m q r) (hE:nl E.natAbs≤K0) (hD:nl D.natAbs≤K0) (hK2:K0+KB≤K2) (h1:1≤K2):
  DivRes A B (aT (q.map (·*E)) (D*m)) (aT r (D*m)) K2:=by
 have hD0:D≠0:=by have:=hA.pos;omega
 have hE0:E≠0:=by have:=hB.pos;omega
 have hF:D*m≠0:=Int.mul_ne_zero hD0 h.m0;have bF:nl (D*m).natAbs≤K2:=Nat.le_trans (bZ D m _ _ hD h.bm) hK2;refine⟨fun i=> ?_,mN hF (FD hE0 h.q_trim),mN hF h.r_trim,?_,?_,fun x hx=> ?_,fun x hx=> ?_⟩
 ·have:=NR (A:=cf A) (B:=cf B) (x:=cf (aI A D)) (y:=cf (aI B E)) (q:=cf q) (r:=cf r) (xd:=D) (yd:=E) (m:=m) (lD A D hA.dvd) (lD B E hB.dvd) hD0 hE0 h.m0 h.id_ i;rw[←this,jB];congr 1
  ·refine cO (fun k=> ?_) (fun _=>rfl) i;rw[jB,qV,Rat.intCast_mul,Rat.intCast_mul]
  ·rw[Rat.intCast_mul]
 ·unfold aT;rw[List.length_map];have:=h.r_lt;rw[eK] at this;exact this
 ·unfold aT;rw[List.length_map,List.length_map];have:=h.q_len;rw[eK] at this;exact this
 ·unfold aT at hx;obtain⟨n,hn,rfl⟩:=List.mem_map.1 hx;obtain⟨y,hy,rfl⟩:=List.mem_map.1 hn;exact lF _ _ _ (Nat.le_trans (bZ y E _ _ (h.bq y hy) hE) (by omega)) bF h1
 ·unfold aT at hx;obtain⟨n,hn,rfl⟩:=List.mem_map.1 hx;exact lF _ _ _ (Nat.le_trans (h.br n hn) (by omega)) bF h1
def yA (w:World) (a b:List (List UInt8)) (K2:Nat) (e:Ending) (w':World):Prop:=
 ∃v u n Q R,e= .returned (.tuple #[v,u,.int .i64 n])∧StrsAt w' v (Q.map aO)∧StrsAt w' u (R.map aO)∧Below w.heap.size w w'∧
  (¬(vl a=true∧vl b=true)→n=1∧Q=[]∧R=[])∧(vl a=true→vl b=true→b=[]→n=5∧Q=[]∧R=[])∧(vl a=true→vl b=true→b≠[]→n=0∧DivRes (aE a) (aE b) Q R K2)
theorem FE (a b:List (List UInt8)) (va vb:Value) (w:World) (hG:Glob w) (ha:StrsAt w va a) (hb':StrsAt w vb b) (hla:a.length≤1073741824) (hlb:b.length≤1073741824) (K:Nat)
  (hca:a.length≤65→∀l∈a,l.length≤1073741824) (hcb:b.length≤65→∀l∈b,l.length≤1073741824) (hKa:a.length≤65→∀q∈aE a,RL K q) (hKb:b.length≤65→∀q∈aE b,RL K q) (L KB K2:Nat) (hLa:a.length≤65→a.length≤L) (hLb:b.length≤65→b.length≤L) (hL1:1≤L) (hKB:K+(1+L*K)+(L+1)*(K+(1+L*K)+1)≤KB) (hK2:1+L*K+KB≤K2) (hK3:K2≤10000000):
  Calls Tryz.prog 36 #[va,vb] w (yA w a b K2):=by
 obtain⟨A,c,rfl,hc⟩:=ha.form;obtain⟨A',c',rfl,hc'⟩:=hb'.form;go_enter Tryz.func36,Tryz.ntmps36;go_wp2_with fail;refine(mJ a _ _ hG ha hla hca K (1+L*K) L hKa hLa hL1 (Nat.le_refl _) (by unfold aF;omega)).mono ?_;rintro e1 w1 ⟨v1,vd1,xs,D,rfl,hx,hD,hvx,hb1⟩;obtain⟨A1,c1,rfl,hc1⟩:=hx.form;obtain⟨s1,B1,k1,d1,rfl⟩:=hD.form;go_wp2_with fail;have hbX:Below w1.heap.size w1 (w1.alloc (.cells #[.bool s1,.slice B1 k1 d1] 53)):=(Below.refl _ _).alloc (Nat.le_refl _) _;have X:=Bx.new w1 [.bool s1,.slice B1 k1 d1] 53;replace hx:=hx.below hbX;replace hD:=hD.below hbX;have hb:=aB hb1 hbX;clear hbX;generalize hgx:w1.heap.size=gx at *;generalize w1.alloc (.cells #[.bool s1,.slice B1 k1 d1] 53)=w2 at *;refine(mJ b _ _ (hG.below hb) (hb'.below hb) hlb hcb K (1+L*K) L hKb hLb hL1 (Nat.le_refl _) (by unfold aF;omega)).mono ?_;rintro e3 w3 ⟨v3,vd3,ys,E,rfl,hy,hE,hvy,hb3⟩;obtain⟨A3,c3,rfl,hc3⟩:=hy.form;obtain⟨s3,B3,k3,d3,rfl⟩:=hE.form;replace X:=X.below hb3;replace hx:=hx.below hb3;replace hD:=hD.below hb3;replace hb:=aB hb hb3;cases hva:vl a with
 |false=>
  go_wp2_with fail;refine bodyPost_ret (v:= .tuple #[.slice none 0 0,.slice none 0 0,.int .i64 1]) (by simp[results,Tryz.results36,go_sem]) rfl ⟨_,_,1,[],[],rfl,StrsAt.nil _ _ _,StrsAt.nil _ _ _,hb.alloc hb.size _,(fun _=>⟨rfl,rfl,rfl⟩),(fun h=> ?_),(fun h=> ?_)⟩
  ·rw[hva] at h;cases h
  ·rw[hva] at h;cases h
 |true=>
  cases hvb:vl b with
  |false=>
   go_wp2_with fail;refine bodyPost_ret (v:= .tuple #[.slice none 0 0,.slice none 0 0,.int .i64 1]) (by simp[results,Tryz.results36,go_sem]) rfl ⟨_,_,1,[],[],rfl,StrsAt.nil _ _ _,StrsAt.nil _ _ _,hb.alloc hb.size _,(fun _=>⟨rfl,rfl,rfl⟩),(fun _ h=> ?_),(fun _ h=> ?_)⟩
   ·rw[hvb] at h;cases h
   ·rw[hvb] at h;cases h
  |true=>
   obtain⟨rfl,hcx⟩:=hvx hva;obtain⟨rfl,hcy⟩:=hvy hvb;obtain⟨p1, -,t1⟩:=fD hva;obtain⟨p2, -,t2⟩:=fD hvb;have ly0:(aI (aE b) E).length=b.length:=by rw[eK];unfold aE;rw[List.length_map]
   by_cases hb0:b=[]
   ·have q0:(((aI (aE b) E).length:Int)==0)=true:=by rw[ly0,hb0];rfl
    have HB:=Lib.hid hb0;clear hb0 ly0 hb';go_wp2_with fail;exact bodyPost_ret (v:= .tuple #[.slice none 0 0,.slice none 0 0,.int .i64 5]) (by simp[results,Tryz.results36,go_sem]) rfl ⟨_,_,5,[],[],rfl,StrsAt.nil _ _ _,StrsAt.nil _ _ _,hb.alloc hb.size _,(fun h=>absurd ⟨hva,hvb⟩ h),(fun _ _ _=>⟨rfl,rfl,rfl⟩),(fun _ _ h=>absurd HB.out h)⟩
   ·have hbl:b.length≠0:=fun e=>hb0 (List.eq_nil_of_length_eq_zero e);have q0:(((aI (aE b) E).length:Int)==0)=false:=by rw[ly0];simp;omega
    have lx:(aI (aE a) D).length≤65:=by rw[eK];unfold aE;rw[List.length_map];exact p1
    have ly:(aI (aE b) E).length≤65:=by rw[ly0];exact p2
    have lxL:(aI (aE a) D).length≤L:=by rw[eK];unfold aE;rw[List.length_map];exact hLa p1
    have hNB0:aI (aE b) E≠[]:=fun e=>hbl (by rw[←ly0,e];rfl);have htx:=gR hcx.pos hcx.dvd t1;have hty:=gR hcy.pos hcy.dvd t2;have bx:=iK _ D K _ (hKa p1) hcx.nl_;have bY:=iK _ E K _ (hKb p2) hcy.nl_;have hdr:=fun m q r h=>QU (K2:=K2) (KB:=KB) (m:=m) (q:=q) (r:=r) hcx hcy h hcy.nl_ hcx.nl_ (by omega) (by omega);have HDR:=Lib.hid hdr;have hE0:E≠0:=by have:=hcy.pos;omega
    have bD:=hcx.nl_;have bE:=hcy.nl_;have HAB:Hid (vl a=true∧vl b=true∧b≠[]):=⟨hva,hvb,hb0⟩;clear hdr hcx hcy hvx hvy hva hvb t1 t2 p1 p2 hKa hKb hca hcb ly0 hbl ha hb' hla hlb hb0 hLa hLb;generalize aI (aE a) D=NA at *;generalize aI (aE b) E=NB at *
    have hpq:=fun W h1 h2=>pE NA NB (.slice A1 NA.length c1) (.slice A3 NB.length c3) W h1 h2 hNB0 htx hty (K+(1+L*K)) KB bx bY (by omega) (by
     have:(NA.length+1-NB.length)*(K+(1+L*K)+1)≤(L+1)*(K+(1+L*K)+1):=Nat.mul_le_mul_right _ (by omega);omega) (by unfold aF;omega) (by omega) (by omega)
    unfold oA at hpq;have gxl:=X.lt;clear hNB0 htx hty bx bY;go_wp2_with fail;have hbY:Below w3.heap.size w3 (w3.alloc (.cells #[.bool s3,.slice B3 k3 d3] 53)):=(Below.refl _ _).alloc (Nat.le_refl _) _;have Y:=Bx.new w3 [.bool s3,.slice B3 k3 d3] 53;replace hx:=hx.below hbY;replace hy:=hy.below hbY;replace hD:=hD.below hbY;replace hE:=hE.below hbY;replace X:=X.below hbY;replace hb:=aB hb hbY;clear hbY;generalize hgy:w3.heap.size=gy at *;generalize w3.alloc (.cells #[.bool s3,.slice B3 k3 d3] 53)=w4 at *;refine(hpq _ hx hy).mono ?_;rintro e5 w5 ⟨vq,vr,vm,q,r,m,rfl,hq,hr,hm,hres,hb5⟩;obtain⟨Aq,cq,rfl,hcq⟩:=hq.form;obtain⟨Ar,cr,rfl,hcr⟩:=hr.form;obtain⟨sm,Bm,km,dm,rfl⟩:=hm.form;have HRE:=Lib.hid (HDR.out m q r hres);have bq:=hres.bq;have br:=hres.br;have bm:=hres.bm;have hql:=hres.q_len;have hrl:=hres.r_lt;have hts:=nZ (FD hE0 hres.q_trim);replace X:=X.below hb5;replace Y:=Y.below hb5;replace hD:=hD.below hb5;replace hE:=hE.below hb5;replace hb:=aB hb hb5;have hsc:=fun W h1 h2=>pR q E (.slice Aq q.length cq) (.agg #[.bool s3,.slice B3 k3 d3]) W h1 h2 KB bq (by omega) (by omega) (by omega);rw[hts] at hsc;clear hres HDR hpq hts hE0;have X_c:∀o0:Obj,(w5.alloc o0).cell? ⟨gx,0,none⟩=some (.bool s1):=fun o0=>(X.alloc o0).cell 0 rfl;have X_d:∀o0:Obj,(w5.alloc o0).cell? ⟨gx,1,none⟩=some (.slice B1 k1 d1):=fun o0=>(X.alloc o0).cell 1 rfl;go_wp2_with fail;have hbM:Below w5.heap.size w5 (w5.alloc (.cells #[.bool sm,.slice Bm km dm] 53)):=(Below.refl _ _).alloc (Nat.le_refl _) _;replace hq:=hq.below hbM;replace hr:=hr.below hbM;replace hD:=hD.below hbM;replace hE:=hE.below hbM;replace hm:=hm.below hbM;replace Y:=Y.below hbM;replace hb:=aB hb hbM;clear hbM X X_c X_d;generalize w5.alloc (.cells #[.bool sm,.slice Bm km dm] 53)=w6 at *;refine(f8 D m _ _ _ hD hm (by omega)).mono ?_;rintro e7 w7 ⟨v7,rfl,h7,hb7⟩;obtain⟨s7,B7,k7,d7,rfl⟩:=h7.form;have bDm:=bZ D m _ _ bD bm;generalize D*m=DM at *;have bqE:∀n∈q.map (·*E),nl n.natAbs≤K2:=fun n hn=>by
     obtain⟨y,hy,rfl⟩:=List.mem_map.1 hn;exact Nat.le_trans (bZ y E _ _ (bq y hy) bE) (by omega)
    have hs1:=fun W v u hG h1 h2=>p7 (q.map (·*E)) DM v u W hG h1 h2 K2 bqE (by omega) (by omega) (by omega) (by rw[List.length_map];omega);have hs2:=fun W u hG h1 h2=>p7 r DM (.slice Ar r.length cr) u W hG h1 h2 K2 (fun n hn=>Nat.le_trans (br n hn) (by omega)) (by omega) (by omega) (by omega) (by omega);generalize q.map (·*E)=QE at *;replace hq:=hq.below hb7;replace hr:=hr.below hb7;replace hE:=hE.below hb7;replace Y:=Y.below hb7;replace hb:=aB hb hb7;clear bq br bm bqE bDm bD bE hm;go_wp2_with fail;have hbN:Below w7.heap.size w7 (w7.alloc (.cells #[.bool s7,.slice B7 k7 d7] 53)):=(Below.refl _ _).alloc (Nat.le_refl _) _;have Z:=Bx.new w7 [.bool s7,.slice B7 k7 d7] 53;have hZl:=hb7.size;replace hq:=(hq.below hbN).drew;replace hr:=(hr.below hbN).drew;replace hE:=(hE.below hbN).drew;replace h7:=(h7.below hbN).drew;replace Y:=(Y.below hbN).drew;replace hb:=(aB hb hbN).drew;clear hbN;generalize hgz:w7.heap.size=gz at *;generalize w7.alloc (.cells #[.bool s7,.slice B7 k7 d7] 53)=w8 at *;replace Z:=Z.drew;replace Y_0:=Y.cell 0 rfl;replace Y_1:=Y.cell 1 rfl;replace Z_0:=Z.cell 0 rfl;replace Z_1:=Z.cell 1 rfl
    go_region_held3 (fun w'=>w'.cell? ⟨gy,0,none⟩=some (.bool s3)∧w'.cell? ⟨gy,1,none⟩=some (.slice B3 k3 d3)∧w'.cell? ⟨gz,0,none⟩=some (.bool s7)∧w'.cell? ⟨gz,1,none⟩=some (.slice B7 k7 d7))
     (first|(with_reducible exact⟨Y_0,Y_1,Z_0,Z_1⟩))
     (first
      |(go_at_call 77;(with_reducible refine(hsc _ hq hE).mono ?_);rintro eA wA ⟨vA,rfl,hA,hbA⟩;replace Y:=Y.below hbA;replace Z:=Z.below hbA;replace Y_0:=Y.cell 0 rfl;replace Y_1:=Y.cell 1 rfl;replace Z_0:=Z.cell 0 rfl;replace Z_1:=Z.cell 1 rfl;(try replace h7:=h7.below hbA);(try replace hr:=hr.below hbA);(try replace hC:=hC.below hbA);replace hb:=aB hb hbA)
      |(go_at_call 47;(with_reducible refine(hs2 _ _ (hG.below hb) hr h7).mono ?_);rintro eC wC ⟨vC,rfl,hC,hbC⟩;replace Y:=Y.below hbC;replace Z:=Z.below hbC;replace Y_0:=Y.cell 0 rfl;replace Y_1:=Y.cell 1 rfl;replace Z_0:=Z.cell 0 rfl;replace Z_1:=Z.cell 1 rfl;(try replace hq:=hq.below hbC);(try replace hE:=hE.below hbC);(try replace h7:=h7.below hbC);(try replace hA:=hA.below hbC);(try replace hB:=hB.below hbC);replace hb:=aB hb hbC)
      |(go_at_call 47;(with_reducible refine(hs1 _ _ _ (hG.below hb) hA h7).mono ?_);rintro eB wB ⟨vB,rfl,hB,hbB⟩;replace Y:=Y.below hbB;replace Z:=Z.below hbB;replace Y_0:=Y.cell 0 rfl;replace Y_1:=Y.cell 1 rfl;replace Z_0:=Z.cell 0 rfl;replace Z_1:=Z.cell 1 rfl;(try replace h7:=h7.below hbB);(try replace hr:=hr.below hbB);(try replace hC:=hC.below hbB);replace hb:=aB hb hbB))
    go_wp2_with fail;refine bodyPost_ret (v:= .tuple #[vB,vC,.int .i64 0]) (by simp[results,Tryz.results36,go_sem]) rfl ⟨_,_,0,_,_,rfl,hB,hC,hb,(fun h=>absurd ⟨HAB.out.1,HAB.out.2.1⟩ h),(fun _ _ h=>absurd h HAB.out.2.2),(fun _ _ _=>⟨rfl,HRE.out⟩)⟩
theorem QV (a b:List (List UInt8)) (va vb:Value) (w:World) (hG:Glob w) (ha:StrsAt w va a) (hb':StrsAt w vb b) (hla:a.length≤1073741824) (hlb:b.length≤1073741824) (K:Nat)
  (hca:a.length≤65→∀l∈a,l.length≤1073741824) (hcb:b.length≤65→∀l∈b,l.length≤1073741824) (hKa:a.length≤65→∀q∈aE a,RL K q) (hKb:b.length≤65→∀q∈aE b,RL K q) (KB K2:Nat) (hKB:66*K+1+66*(66*K+2)≤KB) (hK2:1+65*K+KB≤K2) (hK3:K2≤10000000):
  Calls Tryz.prog 36 #[va,vb] w (yA w a b K2):=
 FE a b va vb w hG ha hb' hla hlb K hca hcb hKa hKb 65 KB K2 id id (by decide) (by omega) hK2 hK3
theorem QW (a b:List (List UInt8)) (va vb:Value) (w:World) (hG:Glob w) (ha:StrsAt w va a) (hb':StrsAt w vb b) (hla:a.length≤1073741824) (hlb:b.length≤1073741824) (K:Nat)
  (hca:a.length≤65→∀l∈a,l.length≤1073741824) (hcb:b.length≤65→∀l∈b,l.length≤1073741824) (hKa:a.length≤65→∀q∈aE a,RL K q) (hKb:b.length≤65→∀q∈aE b,RL K q) (hK:K≤1024):
  Calls Tryz.prog 36 #[va,vb] w (yA w a b 10000000):=
 QV a b va vb w hG ha hb' hla hlb K hca hcb hKa hKb 5000000 10000000 (by omega) (by omega) (by omega)
theorem RD (a b:List (List UInt8)) (va vb:Value) (w:World) (ha:StrsAt w va a) (hb:StrsAt w vb b) (hla:a.length≤1099511627776) (hlb:b.length≤1099511627776):
  Calls Tryz.prog 14 #[va,vb] w fun e w'=>e= .returned (.bool (decide (a=b)))∧Below w.heap.size w w':=by
 obtain⟨A,c,rfl,hc⟩:=ha.form;obtain⟨A',c',rfl,hc'⟩:=hb.form;go_enter Tryz.func14,Tryz.ntmps14;by_cases hl:a.length=b.length
 ·have q0:((a.length:Int)==(b.length:Int))=true:=by rw[hl];exact beq_self_eq_true _
  have HL:=Lib.hid hl;go_wp2_with fail;clear q0 hl;go_loopg [5] a.length (fun k i wr=>∃j,Hid (j+k=a.length)∧i= .int .i64 j∧Hid (a.take j=b.take j)∧Below w.heap.size w wr)
  case atStart=>exact⟨0,by unfold Hid;omega,rfl,rfl,Below.refl _ _⟩
  case round=>
   obtain⟨j,HJ,rfl,HT,hbw⟩:=hrel;generalize wr=wy at *;have hj0:(0:Int)≤(j:Int):=by omega
   cases gk with
   |zero=>
    have hj:j=a.length:=HJ.out;have he:a=b:=by
     have:=HT.out;rwa [hj,List.take_length,HL.out,List.take_length] at this
    have hde:decide (a=b)=true:=decide_eq_true he;have HD:=Lib.hid hde;subst hj;clear hde he;go_wp2_with fail;go_ret;rw[HD.out];exact⟨rfl,hbw⟩
   |succ k=>
    have hja:j<a.length:=by have:=HJ.out;omega
    have hjb:j<b.length:=by rw[←HL.out];exact hja
    have hj1:(j:Int)<(a.length:Int):=by omega
    have hj2:(j:Int)<(b.length:Int):=by omega
    have ga:=List.getElem?_eq_getElem hja;have gb:=List.getElem?_eq_getElem hjb;have hst:a[j]=b[j]→a.take (j+1)=b.take (j+1):=fun e=>by rw[List.take_succ_eq_append_getElem hja,List.take_succ_eq_append_getElem hjb,HT.out,e]
    have hno:a[j]≠b[j]→decide (a=b)=false:=fun h=>decide_eq_false (fun e=>h (by simp[e]));have HST:=Lib.hid (And.intro hst hno);obtain⟨ba,oa,rfl,la,ca⟩:=(ha.below hbw).at_ ga;obtain⟨bb,ob,rfl,lb,cb⟩:=(hb.below hbw).at_ gb;clear hst hno ga gb;generalize a[j]=x at *;generalize b[j]=y at *;have hbd:=hbw.drew;by_cases hxy:x=y
    ·have HS:=Lib.hid (HST.out.1 hxy);subst hxy;go_wp2_with fail;go_region
     all_goals (
      go_wp2_with fail;go_roundg k
      case rel=>exact⟨j+1,by have:=HJ.out;unfold Hid;omega,by go_num,HS,hbd⟩
      case measure=>omega)
    ·have HS:=Lib.hid (HST.out.2 hxy);have hne:(x==y)=false:=beq_eq_false_iff_ne.2 hxy;clear HST;go_wp2_with fail;go_region
     all_goals (
      go_wp2_with fail;go_ret;rw[HS.out];exact⟨rfl,hbd⟩)
 ·have q0:((a.length:Int)==(b.length:Int))=false:=by rw[beq_eq_false_iff_ne];omega
  have hne:decide (a=b)=false:=decide_eq_false (fun e=>hl (by rw[e]));have HN:=Lib.hid hne;clear hne;go_wp2_with fail;go_ret;rw[HN.out];exact⟨rfl,Below.refl _ _⟩
def qW (u:Value):Prop:=∃A n c,u= .slice A n c
def PRow (w:World) (B:Nat) (e:TypeId) (v:Value) (vals:List Value):Prop:=
 (v= .slice none 0 0∧vals=[])∨∃g cap cur,v= .slice (some ⟨g,0,none⟩) vals.length cap∧B≤g∧w.heap[g]? =some (.cells cur e (0,0))∧vals.length≤cap∧cap≤maxLen∧cur.size=cap∧cur.toList.take vals.length=vals∧∀u∈cur.toList,qW u
theorem PRow.nil (w:World) (B:Nat) (e:TypeId):PRow w B e (.slice none 0 0) []:= .inl ⟨rfl,rfl⟩
theorem PRow.below {w w':World} {B:Nat} {e:TypeId} {v:Value} {vals:List Value} (h:PRow w B e v vals) (hb:Below w.heap.size w w'):PRow w' B e v vals:=by
 rcases h with h|⟨g,cap,cur,hv,hB,hg,h⟩
 ·exact .inl h
 ·exact .inr ⟨g,cap,cur,hv,hB,(hb.block g (Array.getElem?_eq_some_iff.1 hg).1).trans hg,h⟩
theorem PRow.ge {w:World} {B:Nat} {e:TypeId} {v:Value} {vals:List Value} (h:PRow w B e v vals):∀g,v.ownBlock=some g→B≤g:=fun g hg=>by
 rcases h with ⟨rfl,_⟩|⟨g',cap,cur,rfl,hB,_⟩
 ·simp[Value.ownBlock] at hg
 ·simp[Value.ownBlock] at hg;omega
theorem PRow.form {w:World} {B:Nat} {e:TypeId} {v:Value} {vals:List Value} (h:PRow w B e v vals):∃A c,v= .slice A vals.length c∧vals.length≤c:=by
 rcases h with ⟨rfl,rfl⟩|⟨g',cap,cur,rfl,hB,_,hl,_⟩
 ·exact⟨none,0,rfl,Nat.le_refl _⟩
 ·exact⟨_,_,rfl,hl⟩
theorem PRow.at_ {w:World} {B:Nat} {e:TypeId} {A:Option Addr} {l c:Nat} {vals:List Value} (h:PRow w B e (.slice A l c) vals) {i:Nat} {u:Value} (hi:vals[i]? =some u):∃b,A=some ⟨b,0,none⟩∧b<w.heap.size∧w.cell? ⟨b,i,none⟩=some u:=by
 rcases h with ⟨_,rfl⟩|⟨g',cap,cur,hv,hB,hg,hl,hm,hs,ht,hn⟩
 ·simp at hi
 ·simp only[Value.slice.injEq] at hv;refine⟨g',hv.1,(Array.getElem?_eq_some_iff.1 hg).1,?_⟩;rw[cell_of_row w g' i cur e (0,0) hg,←Array.getElem?_toList];rw[←ht,List.getElem?_take] at hi;split at hi
  ·exact hi
  ·cases hi
theorem RA {w:World} {g:Nat} {cur cs:Array Value} {e:TypeId} (hg:w.heap[g]? =some (.cells cur e (0,0))) (hn:∀u∈cur.toList,qW u) {u:Value} {n:Nat} (h:NatAt w u n):NatAt (w.setRow g cs) u n:=by
 obtain⟨A,c,hv,hc,hr,ho⟩:=h;have hsz:(w.setRow g cs).heap.size=w.heap.size:=by simp[World.setRow]
 refine⟨A,c,hv,hc,?_,ho.mono (by rw[hsz];exact Nat.le_refl _)⟩;rcases hr with hr|⟨b,off,rfl,hlt,hcs⟩
 ·exact .inl hr
 ·by_cases hz:dg n=[]
  ·exact .inl hz
  ·have hbg:b≠g:=fun eb=>by
    subst eb;have h0:=hcs 0 (List.length_pos_iff.2 hz);rw[cell_of_row w b (off+0) cur e (0,0) hg,←Array.getElem?_toList] at h0;obtain⟨A',n',c',he⟩:=hn _ (List.mem_of_getElem? h0);cases he
   refine .inr ⟨b,off,rfl,by rw[hsz];exact hlt,fun i hi=> ?_⟩;exact(World.cell?_of_block (setRow_other w g b cs hbg)).trans (hcs i hi)
section
variable {P:Program} {ops:Array Oper} {rest:List Oper} {o:Oper} {a:Act} {Q:Exit→Act→World→Prop} {w:World}
theorem FG (hgd:o.guard=none) {s x:Operand} {t:TypeId} (ho:o.op= .call { callee:= .builtin .append,args:= #[s,x],argTypes:= #[t,t] })
  (e:TypeId) (bytes:Nat) (ht:P.underlying t=some (.slice e)) (hi:(P.info? e).map (fun i=>(i.zero,i.size,i.bytes))=some (some (.slice none 0 0),1,bytes))
  (B:Nat) (v:Value) (vals:List Value) (hs:a.eval s=v) (hrow:PRow w B e v vals) (b:Nat) (u:Value) (hx:a.eval x= .slice (some ⟨b,0,none⟩) 1 1) (hc:w.cell? ⟨b,0,none⟩=some u) (hu:qW u)
  (hbytes:(vals.length+1)*bytes≤140737488355328) (h63:vals.length+1≤maxLen) (hB:B≤w.heap.size)
  (h:∀v' w',PRow w' B e v' (vals++[u])→Keep w w'→w.grownBy w' v.ownBlock→wpList P ops Q rest (a.put o.dst v') w'):
  wpList P ops Q (o :: rest) a w:=by
 obtain⟨i,hi0,hz,hs1,hby⟩:=info_parts hi;have hsmall:vals.length+1≤9223372036854775807:=by simp only[maxLen] at h63;omega
 have hone:u.oneCell'=true:=by obtain⟨A,n,c,rfl⟩:=hu;rfl
 have hnews:∀j y,[u][j]? =some y→w.cell? ((⟨b,0,none⟩:Addr).add j)=some y:=fun j y hj=>by
  match j,hj with
  |0,hj=>simp at hj;subst hj;simpa [Addr.add] using hc
 have grown:∀(cap old:Nat),cap=grownCap w (vals.length+1) old e→vals.length+1≤cap→cap≤maxLen→∀row,(∀y∈vals,qW y)→
   PRow (w.drew.alloc (.cells (vals.toArray++[u].toArray++Builtin.zeroCells (Value.slice none 0 0).cells (cap-(vals.length+1))) e)) B e (.slice (some ⟨w.heap.size,0,none⟩) (vals.length+1) cap) (vals++[u])∧
   Keep w (w.drew.alloc (.cells (vals.toArray++[u].toArray++Builtin.zeroCells (Value.slice none 0 0).cells (cap-(vals.length+1))) e))∧
   w.grownBy (w.drew.alloc (.cells (vals.toArray++[u].toArray++Builtin.zeroCells (Value.slice none 0 0).cells (cap-(vals.length+1))) e)) row:=by
  intro cap old _ h1 h2 row hv;have hzc:(Builtin.zeroCells (Value.slice none 0 0).cells (cap-(vals.length+1))).size=cap-(vals.length+1):=by rw[size_zeroCells];simp[Value.cells]
  refine⟨.inr ⟨w.heap.size,cap,_,by rw[List.length_append];rfl,hB,heap_alloc_new w.drew _,by rw[List.length_append];exact h1,h2,?_,?_,?_⟩,Keep.below ((Below.refl w.heap.size w).drew.alloc (Nat.le_refl _) _),⟨rfl,rfl,rfl,by simp,fun k hk _=>heap_alloc_old w.drew _ hk⟩⟩
  ·rw[Array.size_append,Array.size_append,hzc];simp;omega
  ·rw[Array.toList_append,Array.toList_append];exact List.take_left
  ·intro y hy;rw[Array.toList_append,Array.toList_append] at hy;rcases List.mem_append.1 hy with hy|hy
   ·rcases List.mem_append.1 hy with hy|hy
    ·exact hv y hy
    ·have hyu:y=u:=by simpa using hy
     rw[hyu];exact hu
   ·have hy2:y∈Builtin.zeroCells #[Value.slice none 0 0] (cap-(vals.length+1)):=Array.mem_toList_iff.1 hy;unfold Builtin.zeroCells at hy2;obtain⟨j,_,rfl⟩:=Array.mem_map.1 hy2;simp only[List.size_toArray,List.length_cons,List.length_nil,Nat.zero_add,Nat.mod_one];exact⟨none,0,0,rfl⟩
 have key:∃v' w',(Builtin.append_ #[t,t] o.type #[v,.slice (some ⟨b,0,none⟩) 1 1]).run P w= .ok v' w'∧PRow w' B e v' (vals++[u])∧Keep w w'∧w.grownBy w' v.ownBlock:=by
  have hcp:=grownCap_ge w (vals.length+1);have hcm:=fun old=>grownCap_le_maxLen w (vals.length+1) old e h63;rcases hrow with ⟨rfl,rfl⟩|⟨g,cap,cur,rfl,hBg,hg,hl,hm,hsz,htk,hn⟩
  ·have hr:=run_append_nil (P:=P) w t o.type e i (.slice none 0 0) ht hi0 hz ⟨b,0,none⟩ 1 1 [u] (by rw[hs1];rfl) hnews (by omega) (by omega) (by rw[hby];simp at hbytes;omega);have hgr:=grown _ 0 rfl (hcp 0 e) (hcm 0) (Value.ownBlock (.slice none 0 0)) (fun y hy=>by cases hy);simp only[List.length_nil,Nat.zero_add,List.nil_append,Array.empty_append] at hgr⊢;exact⟨_,_,hr,hgr⟩
  ·have hvs:∀y∈vals,qW y:=fun y hy=>hn y (by rw[←htk] at hy;exact List.mem_of_mem_take hy);by_cases hroom:vals.length+1≤cap
   ·have hr:=run_append_room (P:=P) w t o.type e i ht hi0 g vals.length cap cur hg ⟨b,0,none⟩ 1 1 [u] (by rw[hs1];rfl) hnews (fun y hy=>by rw[List.mem_singleton.1 hy];exact hone) hroom (by rw[hs1];simp;omega);rw[hs1,Nat.mul_one,htk] at hr;refine⟨_,_,hr,.inr ⟨g,cap,_,by rw[List.length_append];rfl,hBg,setRow_heap w g cur _ e _ hg,by rw[List.length_append];exact hroom,hm,?_,?_,?_⟩,fun x n hx=>RA hg hn hx,⟨rfl,rfl,rfl,by simp[World.setRow],fun k _ hk=>setRow_other w g k _ (fun e=>hk (by simp[Value.ownBlock,e]))⟩⟩
    ·simp[List.length_drop];omega
    ·exact List.take_left
    ·intro y hy;have hy':y∈vals++[u]++cur.toList.drop (vals.length+[u].length):=hy;rcases List.mem_append.1 hy' with hy|hy
     ·rcases List.mem_append.1 hy with hy|hy
      ·exact hvs y hy
      ·rw[List.mem_singleton.1 hy];exact hu
     ·exact hn y (List.mem_of_mem_drop hy)
   ·have holds:∀j y,vals[j]? =some y→w.cell? ((⟨g,0,none⟩:Addr).add j)=some y:=fun j y hj=>by
     have h1:w.cell? ⟨g,j,none⟩=some y:=by
      rw[cell_of_row w g j cur e (0,0) hg,←Array.getElem?_toList];rw[←htk,List.getElem?_take] at hj;split at hj
      ·exact hj
      ·cases hj
     unfold Addr.add;split
     ·rename_i h0;subst h0;simpa using h1
     ·simpa using h1
    have hr:=run_append_grow (P:=P) w t o.type e i (.slice none 0 0) ht hi0 hz ⟨g,0,none⟩ vals.length cap vals (by rw[hs1,Nat.mul_one]) holds ⟨b,0,none⟩ 1 1 [u] (by rw[hs1];rfl) hnews (by omega) (by omega) (growslice_fits (by omega) (by rw[hby];exact hbytes));have hgr:=grown _ cap rfl (hcp cap e) (hcm cap) (Value.ownBlock (.slice (some ⟨g,0,none⟩) vals.length cap)) hvs;exact⟨_,_,hr,hgr⟩
 obtain⟨v',w',hrun,h2,h3,h4⟩:=key;refine wpList_plain hgd fun K hK=> ?_;unfold Oper.wp execOp;simp only[ho,resolve,invoke,builtin,Sem.run_bind,Sem.run_pure,Result.andThen_ok,List.map_toArray,List.map_cons,List.map_nil,hs,hx,hrun];exact hK _ _ (h v' w' h2 h3 h4)
end
def RowsAt {α:Type} (E:World→Value→α→Prop) (w:World) (B:Nat) (e:TypeId) (v:Value) (ls:List α):Prop:=
 ∃vals,PRow w B e v vals∧vals.length=ls.length∧∀(i:Nat) (u:Value) (l:α),vals[i]? =some u→ls[i]? =some l→E w u l
theorem RowsAt.nil {α:Type} (E:World→Value→α→Prop) (w:World) (B:Nat) (e:TypeId):RowsAt E w B e (.slice none 0 0) []:=⟨[],PRow.nil _ _ _,rfl,fun i u l h=>by simp at h⟩
theorem RowsAt.form {α:Type} {E:World→Value→α→Prop} {w:World} {B:Nat} {e:TypeId} {v:Value} {ls:List α} (h:RowsAt E w B e v ls):∃A c,v= .slice A ls.length c∧ls.length≤c:=by
 obtain⟨vals,h1,h2,_⟩:=h;rw[←h2];exact h1.form
theorem RowsAt.at_ {α:Type} {E:World→Value→α→Prop} {w:World} {B:Nat} {e:TypeId} {A:Option Addr} {n c:Nat} {ls:List α} (h:RowsAt E w B e (.slice A n c) ls) {i:Nat} {l:α} (hi:ls[i]? =some l):∃b u,A=some ⟨b,0,none⟩∧b<w.heap.size∧w.cell? ⟨b,i,none⟩=some u∧E w u l:=by
 obtain⟨vals,h1,h2,h3⟩:=h;have hl:i<vals.length:=by rw[h2];exact(List.getElem?_eq_some_iff.1 hi).1
 obtain⟨b,hA,hb,hc⟩:=h1.at_ (List.getElem?_eq_getElem hl);exact⟨b,_,hA,hb,hc,h3 i _ l (List.getElem?_eq_getElem hl) hi⟩
abbrev WsAt:=RowsAt WholeAt
abbrev TsAt:=RowsAt StrsAt
theorem WsAt.below {w w':World} {B:Nat} {v:Value} {ls:List (List Int)} (h:WsAt w B 50 v ls) (hb:Below w.heap.size w w'):WsAt w' B 50 v ls:=by
 obtain⟨vals,h1,h2,h3⟩:=h;exact⟨vals,h1.below hb,h2,fun i u l hu hl=>(h3 i u l hu hl).below hb⟩
theorem TsAt.below {w w':World} {B:Nat} {v:Value} {ls:List (List (List UInt8))} (h:TsAt w B 22 v ls) (hb:Below w.heap.size w w'):TsAt w' B 22 v ls:=by
 obtain⟨vals,h1,h2,h3⟩:=h;exact⟨vals,h1.below hb,h2,fun i u l hu hl=>(h3 i u l hu hl).below hb⟩
theorem WholeAt.grown {w w':World} {B:Nat} {v u:Value} {vals:List Value} {l:List Int} (h:WholeAt w u l) (hr:PRow w B 50 v vals) (hk:Keep w w') (hg:w.grownBy w' v.ownBlock):WholeAt w' u l:=by
 obtain⟨A,c,e,hc,h⟩:=h;refine⟨A,c,e,hc,?_⟩;rcases h with h|⟨b,rows,e',hr',hi⟩
 ·exact .inl h
 ·refine .inr ⟨b,rows,e',⟨(hg.block b hr'.lt (fun hb=> ?_)).trans hr'.1,hr'.2⟩,hi.keep hk⟩;rcases hr with ⟨rfl,_⟩|⟨g,cap,cur,rfl,_,hgg,_⟩
  ·simp[Value.ownBlock] at hb
  ·simp[Value.ownBlock] at hb;subst hb;have h1:w.heap[b]? =some (.cells rows.flatten.toArray 53 (0,0)):=hr'.1;rw[hgg] at h1;injection h1 with h1;injection h1 with _ h1;exact absurd h1 (by decide)
theorem StrsAt.grown {w w':World} {B:Nat} {e:TypeId} {v u:Value} {vals:List Value} {l:List (List UInt8)} (h:StrsAt w u l) (hr:PRow w B e v vals) (hg:w.grownBy w' v.ownBlock):StrsAt w' u l:=by
 obtain⟨A,c,e',hc,h⟩:=h;refine⟨A,c,e',hc,?_⟩;rcases h with h|⟨b,off,e'',hl,hi⟩
 ·exact .inl h
 ·by_cases hl0:l=[]
  ·exact .inl hl0
  ·refine .inr ⟨b,off,e'',Nat.lt_of_lt_of_le hl hg.size,fun i t ht=>(World.cell?_of_block (hg.block b hl (fun hb=> ?_))).trans (hi i t ht)⟩;rcases hr with ⟨rfl,_⟩|⟨g,cap,cur,rfl,_,hgg,_,_,_,_,hn⟩
   ·simp[Value.ownBlock] at hb
   ·simp[Value.ownBlock] at hb;subst hb;have h0:=hi i t ht;rw[cell_of_row w b (off+i) cur e (0,0) hgg,←Array.getElem?_toList] at h0;obtain⟨A',n',c',he⟩:=hn _ (List.mem_of_getElem? h0);cases he
theorem WsAt.push {w w':World} {B:Nat} {v v' u:Value} {vals:List Value} {ls:List (List Int)} {l:List Int} (h1:PRow w B 50 v vals) (h2:vals.length=ls.length) (h3:∀(i:Nat) (u:Value) (l:List Int),vals[i]? =some u→ls[i]? =some l→WholeAt w u l) (hu:WholeAt w u l)
  (hp:PRow w' B 50 v' (vals++[u])) (hk:Keep w w') (hg:w.grownBy w' v.ownBlock):WsAt w' B 50 v' (ls++[l]):=by
 refine⟨_,hp,by rw[List.length_append,List.length_append,h2];rfl,fun i x y hx hy=> ?_⟩;rcases Nat.lt_or_ge i vals.length with hi|hi
 ·rw[List.getElem?_append_left hi] at hx;rw[List.getElem?_append_left (by omega)] at hy;exact(h3 i x y hx hy).grown h1 hk hg
 ·rw[List.getElem?_append_right hi] at hx;rw[List.getElem?_append_right (by omega),←h2] at hy;have h0:i-vals.length=0:=by
   have:=(List.getElem?_eq_some_iff.1 hx).1;simp at this;omega
  rw[h0] at hx hy;simp at hx hy;subst hx;subst hy;exact hu.grown h1 hk hg
theorem TsAt.push {w w':World} {B:Nat} {v v' u:Value} {vals:List Value} {ls:List (List (List UInt8))} {l:List (List UInt8)} (h1:PRow w B 22 v vals) (h2:vals.length=ls.length) (h3:∀(i:Nat) (u:Value) (l:List (List UInt8)),vals[i]? =some u→ls[i]? =some l→StrsAt w u l) (hu:StrsAt w u l)
  (hp:PRow w' B 22 v' (vals++[u])) (hg:w.grownBy w' v.ownBlock):TsAt w' B 22 v' (ls++[l]):=by
 refine⟨_,hp,by rw[List.length_append,List.length_append,h2];rfl,fun i x y hx hy=> ?_⟩;rcases Nat.lt_or_ge i vals.length with hi|hi
 ·rw[List.getElem?_append_left hi] at hx;rw[List.getElem?_append_left (by omega)] at hy;exact(h3 i x y hx hy).grown h1 hg
 ·rw[List.getElem?_append_right hi] at hx;rw[List.getElem?_append_right (by omega),←h2] at hy;have h0:i-vals.length=0:=by
   have:=(List.getElem?_eq_some_iff.1 hx).1;simp at this;omega
  rw[h0] at hx hy;simp at hx hy;subst hx;subst hy;exact hu.grown h1 hg
theorem FH {B:Nat} {a w w':World} {v:Value} {e:TypeId} {vals:List Value} (h:Below B a w) (hg:w.grownBy w' v.ownBlock) (hr:PRow w B e v vals) (hB:B≤a.heap.size):Below B a w':=
 ⟨hg.os.trans h.os,hg.tape.trans h.tape,hg.output.trans h.output,Nat.le_trans h.size hg.size,fun k hk=>(hg.block k (Nat.lt_of_lt_of_le hk (Nat.le_trans hB h.size)) (fun e=>by have:=hr.ge k e.symm;omega)).trans (h.block k hk)⟩
theorem RB:(Tryz.prog.info? 50).map (fun i=>(i.zero,i.size,i.bytes))=some (some (.slice none 0 0),1,24):=by kernel_rfl
theorem RC:(Tryz.prog.info? 22).map (fun i=>(i.zero,i.size,i.bytes))=some (some (.slice none 0 0),1,24):=by kernel_rfl
end Go.Proofs.YtlojjipfnejbnaaGreatDoor
