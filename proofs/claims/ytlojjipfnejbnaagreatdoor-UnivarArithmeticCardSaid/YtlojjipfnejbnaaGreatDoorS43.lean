/-
  Contracts of functions that the statement reaches, and plain laws: RatT, UniH, RatY, RatX, UniI, LawG.
-/
import Derived.Test.YtlojjipfnejbnaaGreatDoorS29
import Derived.Test.YtlojjipfnejbnaaGreatDoorS33
import Derived.Test.YtlojjipfnejbnaaGreatDoorS38
import Derived.Test.YtlojjipfnejbnaaGreatDoorS41
import Derived.Test.YtlojjipfnejbnaaGreatDoorS42
set_option linter.unusedVariables false
set_option linter.unusedSimpArgs false
set_option maxHeartbeats 8000000
set_option maxRecDepth 100000
namespace Go.Proofs.YtlojjipfnejbnaaGreatDoor
open Go.RowKit Sos
theorem I2 (x y:Rat) (vx vy:Value) (w:World) (hG:Glob w) (hx:RatAt w vx x) (hy:RatAt w vy y) (K:Nat) (bx:RL K x) (bY:RL K y) (hK:20*K+60≤aF):
  Calls Tryz.prog 81 #[vx,vy] w (eV w (x+y)):=by
 by_cases h1:x.den=1
 ·by_cases h2:y.den=1
  ·exact V0 x y vx vy w hx hy h1 h2 K bx bY (by omega)
  ·exact V1 x y vx vy w hx hy h1 h2 K bx bY (by omega)
 ·by_cases h2:y.den=1
  ·exact V3 x y vx vy w hx hy h1 h2 K bx bY (by omega)
  ·exact UZ x y vx vy w hG hx hy h1 h2 K bx bY hK
def RetOp (w:World) (op:Rat→Rat→Rat) (a b:List (List UInt8)) (e:Ending) (w':World):Prop:=
 if vl a=true∧vl b=true then dW w (aH aG (gD op (aE a) (aE b))) e w' else∃v',e= .returned (.tuple #[v',.int .i64 1])∧StrsAt w' v' []∧Below w.heap.size w w'
theorem I0 (F:Nat) (hF:F=81∨F=83) (op:Rat→Rat→Rat) (a b:List (List UInt8)) (va vb:Value) (w:World) (hG:Glob w) (ha:StrsAt w va a) (hb':StrsAt w vb b) (hla:a.length≤1073741824) (hlb:b.length≤1073741824) (K:Nat)
  (hca:a.length≤65→∀l∈a,l.length≤1073741824) (hcb:b.length≤65→∀l∈b,l.length≤1073741824) (hKa:a.length≤65→∀q∈aE a,RL K q) (hKb:b.length≤65→∀q∈aE b,RL K q) (hK1:1≤K) (hK:2*K+1≤1073741824) (hopR:∀x y,RL K x→RL K y→RL (2*K+1) (op x y)) (hop:∀x y v u W,Glob W→RatAt W v x→RatAt W u y→RL K x→RL K y→Calls Tryz.prog F #[v,u] W (eV W (op x y))):
  Calls Tryz.prog 80 #[va,vb,.func (.func F) #[] #[]] w (RetOp w op a b):=by
 obtain⟨A,c,rfl,hc⟩:=ha.form;obtain⟨A',c',rfl,hc'⟩:=hb'.form;go_enter Tryz.func80,Tryz.ntmps80;go_wp2_with fail;refine(yI a _ _ hG ha hla hca).mono ?_;rintro e1 w1 ⟨v1,rfl,h1,hb1⟩;go_wp2_with fail;refine(yI b _ _ (hG.below hb1) (hb'.below hb1) hlb hcb).mono ?_;rintro e2 w2 ⟨v2,rfl,h2,hb2⟩;have hb:=aB hb1 hb2;by_cases hva:vl a=true
 ·by_cases hvb:vl b=true
  ·obtain⟨gx,rfl,hgx,X⟩:=h1 hva;obtain⟨gy,rfl,hgy,Y⟩:=h2 hvb;have l65a:=(fD hva).1;have l65b:=(fD hvb).1;have HR:Hid (∀e w',dW w (aH aG (gD op (aE a) (aE b))) e w'→RetOp w op a b e w'):=fun e w' h=>by unfold RetOp;rw[if_pos ⟨hva,hvb⟩];exact h
   have hKx:=hKa l65a;have hKy:=hKb l65b;have hxl:=dD a;have hyl:=dD b;rw[hva,hvb];clear h1 h2 hva hvb hKa hKb hca hcb ha hb' hc hc';generalize aE a=xs at *;generalize aE b=ys at *;rw[←hxl,←hyl];rw[←hxl] at l65a hla;rw[←hyl] at l65b hlb;clear hxl hyl;have X2:=X.below hb2;have hxy:gx≠gy:=by have:=X.lt;omega
   have hxlt:=X2.lt;have hylt:=Y.lt;have hsz:=hb.size;obtain⟨M,hM⟩:∃M,max xs.length ys.length=M:=⟨_,rfl⟩;have hMi:max (xs.length:Int) (ys.length:Int)=(M:Int):=by omega
   have hM1:xs.length≤M:=by omega
   have hM2:ys.length≤M:=by omega
   have hM3:M≤65:=by omega
   have HM:=Lib.hid hM;have ex:xs.length+(M-xs.length)=M:=by omega
   have ey:ys.length+(M-ys.length)=M:=by omega
   have EX:=Lib.hid ex;have EY:=Lib.hid ey;obtain⟨rx,rx1,rx2,rx3⟩:=X2;clear X hM ex ey;have tok1:True:=trivial
   go_wp2_with (first
    |(at_builtin;have _t:=tok1;clear tok1 _t;refine I1 rfl rfl 83 _ 4 64 Tryz.underlying76 Tryz.underlying3 rU rfl (by decide) (by decide) gx xs.length (M-xs.length) rfl rfl (by omega) (by omega) rx rx1 rx2 ?_;intro gx3 cx3 w3 rx' hg3 hr3 hb3 hcx3;obtain⟨ry,ry1,ry2,ry3⟩:=Y.below hb3;have tok2:True:=trivial)
    |(at_builtin;have _t:=tok2;clear tok2 _t;refine I1 rfl rfl 83 _ 4 64 Tryz.underlying76 Tryz.underlying3 rU rfl (by decide) (by decide) gy ys.length (M-ys.length) rfl rfl (by omega) (by omega) ry ry1 ry2 ?_;intro gy4 cy4 w4 ry' hg4 hr4 hb4 hcy4))
   have X3:=OwnR.zeros rx3 rfl rx2 (Keep.below hb3) hr3;have Y4:=OwnR.zeros ry3 rfl ry2 (Keep.below hb4) hr4;have X4:=X3.below hb4;have hx3l:=X3.lt;have hy4l:=Y4.lt;have hs3:=hb3.size;have hs4:=hb4.size;have hgxy:gx3≠gy4:=by rcases hg3 with ⟨rfl,rfl⟩|hg3<;>rcases hg4 with ⟨rfl,rfl⟩|hg4<;>omega
   have hgx3:w.heap.size≤gx3:=by rcases hg3 with ⟨rfl,rfl⟩|hg3<;>omega
   have hbw:=(aB hb hb3).trans (hb4.mono (by omega));rw[EX.out] at hcx3;rw[EY.out] at hcy4;clear hg3 hg4 hr3 hr4 rx1 rx2 rx3 ry1 ry2 ry3 X3 Y hxy hxlt hylt hb1 hb2 hb3 hb4 hgx hgy hsz hx3l hy4l;replace hG:=hG;have hXl:(xs++List.replicate (M-xs.length) (0:Rat)).length=M:=by rw[List.length_append,List.length_replicate];exact EX.out
   have hYl:(ys++List.replicate (M-ys.length) (0:Rat)).length=M:=by rw[List.length_append,List.length_replicate];exact EY.out
   have hzl:(gD op xs ys).length=M:=by rw[AC];exact HM.out
   have HXG:Hid (∀j,j<M→(xs++List.replicate (M-xs.length) (0:Rat))[j]? =some (cf xs j)):=fun j hj=>H7 _ _ _ (by rw[EX.out];exact hj);have HYG:Hid (∀j,j<M→(ys++List.replicate (M-ys.length) (0:Rat))[j]? =some (cf ys j)):=fun j hj=>H7 _ _ _ (by rw[EY.out];exact hj);have HZG:Hid (∀j,j<M→(gD op xs ys)[j]? =some (op (cf xs j) (cf ys j))):=fun j hj=>H8 _ _ _ (by rw[HM.out];exact hj);have h0R:=US hK1;have HKX:Hid (∀j,RL K (cf xs j)):=fun j=>AB hKx h0R j;have HKY:Hid (∀j,RL K (cf ys j)):=fun j=>AB hKy h0R j;have HKZ:Hid (∀q∈gD op xs ys,RL (2*K+1) q):=fun q hq=>by
    obtain⟨i,_,rfl⟩:=List.mem_map.1 hq;exact hopR _ _ (HKX.out i) (HKY.out i)
   generalize xs++List.replicate (M-xs.length) (0:Rat)=XS at *;generalize ys++List.replicate (M-ys.length) (0:Rat)=YS at *;generalize hzz:gD op xs ys=zs at *;have HXL:=Lib.hid hXl;have HYL:=Lib.hid hYl;have HZL:=Lib.hid hzl;clear hXl hYl hzl hzz h0R hKx hKy;go_loopg [49] M (fun k i wr=>∃j,Hid (j+k=M)∧i= .int .i64 j∧OwnR wr gx3 (zs.take j++XS.drop j)∧OwnR wr gy4 YS∧Below w.heap.size w wr)
   case atStart=>exact⟨0,by unfold Hid;omega,rfl,by simpa using X4,Y4,hbw⟩
   case round=>
    clear X4 Y4 hbw;obtain⟨j,HJ,rfl,X,Y,hbw⟩:=hrel;generalize wr=wx at *;have hj0:(0:Int)≤(j:Int):=by omega
    cases gk with
    |zero=>
     have hj:j=M:=HJ.out;subst hj;rw[List.take_of_length_le (by rw[HZL.out];exact Nat.le_refl _),List.drop_of_length_le (by rw[HXL.out];exact Nat.le_refl _),List.append_nil] at X;have hr:=X.rats cx3 (by rw[HZL.out];exact hcx3);rw[HZL.out] at hr;have hle:(aH aG zs).length≤65:=Nat.le_trans (cK aG zs) (by rw[HZL.out];exact hM3);have HLE:=Lib.hid hle
     have hwr:Calls Tryz.prog 55 #[.slice (some ⟨gx3,0,none⟩) j cx3] wx (fun e w'=>∃v',e= .returned (.tuple #[v',.int .i64 0])∧StrsAt w' v' ((aH aG zs).map aO)∧Below wx.heap.size wx w'):=
      (xS zs _ _ (hG.below hbw) hr (2*K+1) HKZ.out hK (by rw[HZL.out];omega)).mono (fun e w' h=>by
       obtain⟨v',he,hs,hb⟩:=h;rw[if_pos hle] at he hs;exact⟨v',he,hs,hb⟩)
     clear hle;go_wp2_with fail;refine hwr.mono ?_;rintro e5 w5 ⟨v5,rfl,h5,hb5⟩;go_wp2_with fail;go_ret2;refine HR.out _ _ ?_;unfold dW;rw[if_pos HLE.out,if_pos HLE.out];exact⟨_,rfl,h5,aB hbw hb5⟩
    |succ k=>
     have hjM:j<M:=by have:=HJ.out;omega
     have hj1:(j:Int)<(M:Int):=by omega
     have hlz:XS.length=zs.length:=by rw[HXL.out,HZL.out]
     have htg:=rS (ys:=zs) (xs:=XS) (j:=j) (by rw[HXL.out];exact hjM) hlz;have htl:=rT (j:=j) hlz;have hts:=rR (xs:=XS) (ys:=zs) (y:=op (cf xs j) (cf ys j)) (j:=j) (HZG.out j hjM) hlz;rw[HXG.out j hjM] at htg;have hgx:j<(zs.take j++XS.drop j).length:=by rw[htl,HXL.out];exact hjM
     obtain⟨s,B,l,d,s',B',l',d',p0,p1,p2,p3,hx⟩:=X.at_ htg;obtain⟨t,C,m,e,t',C',m',e',r0,r1,r2,r3,hy⟩:=Y.at_ (HYG.out j hjM);have bx:=HKX.out j;have bY:=HKY.out j;have f0:=X.free (j*4);have f1:=X.free (j*4+1);have f2:=X.free (j*4+2);have f3:=X.free (j*4+3);have Xd:=X.below (Below.refl _ _).drew;have Yd:=Y.below (Below.refl _ _).drew;have hxd:=hx.drew;have hyd:=hy.drew;have hbd:=hbw.drew;have hGd:=hG.below hbd;have HTS:=Lib.hid hts;generalize cf xs j=x at *;generalize cf ys j=y at *;have hcal:=fun v u W hG h h'=>hop x y v u W hG h h' bx bY;clear hop hopR;clear htg htl hts X Y hx hy HXG HYG HZG HKX HKY hlz;go_wp2_with fail;rcases hF with rfl|rfl
     all_goals (
      go_region_with (first
       |((with_reducible refine(hcal _ _ _ hGd hxd hyd).mono ?_);rintro e6 w6 ⟨v6,rfl,h6,hb6⟩;obtain⟨s6,A6,k6,c6,s7,A7,k7,c7,rfl⟩:=h6.form;replace Xd:=Xd.below hb6;replace Yd:=Yd.below hb6;replace hbd:=aB hbd hb6;obtain⟨_,_,_,_,_,_,_,_,g0,g1,g2,g3, -⟩:=Xd.at_ (List.getElem?_eq_getElem hgx);have f0':=Xd.free (j*4);have f1':=Xd.free (j*4+1);have f2':=Xd.free (j*4+2);have f3':=Xd.free (j*4+3)))
      all_goals (
       go_wp2_with fail;obtain⟨zX,hst⟩:=Xd.stored hgx h6;rw[HTS.out] at zX;have zY:=Yd.step hst (by omega);have zb:=dE hbd hst hgx3;go_roundg k
       case rel=>exact⟨j+1,by have:=HJ.out;unfold Hid;omega,by go_num,zX,zY,zb⟩
       case measure=>omega))
  ·have hvb':vl b=false:=by simpa using hvb
   have HN:Hid (¬(vl a=true∧vl b=true)):=fun h=>hvb h.2;rw[hva,hvb'];clear hva hvb hvb' h1 h2;go_wp2_with fail;go_ret2;unfold RetOp;rw[if_neg HN.out];exact⟨_,rfl,StrsAt.nil _ _ _,hb⟩
 ·have hva':vl a=false:=by simpa using hva
  have HN:Hid (¬(vl a=true∧vl b=true)):=fun h=>hva h.1;rw[hva'];clear hva hva' h1 h2;generalize vl b=ok;go_wp2_with fail
  all_goals (
   go_ret2;unfold RetOp;rw[if_neg HN.out];exact⟨_,rfl,StrsAt.nil _ _ _,hb⟩)
theorem RetOp.form {w w':World} {op:Rat→Rat→Rat} {a b:List (List UInt8)} {e:Ending} (h:RetOp w op a b e w'):∃v' n,e= .returned (.tuple #[v',.int .i64 n])∧RetOp w op a b (.returned (.tuple #[v',.int .i64 n])) w':=by
 have h':=h;unfold RetOp at h;split at h
 ·obtain⟨v',rfl, -⟩:=h;exact⟨v',_,rfl,h'⟩
 ·obtain⟨v',rfl, -⟩:=h;exact⟨v',_,rfl,h'⟩
theorem UV (a b:List (List UInt8)) (va vb:Value) (w:World) (hG:Glob w) (ha:StrsAt w va a) (hb':StrsAt w vb b) (hla:a.length≤1073741824) (hlb:b.length≤1073741824) (K:Nat)
  (hca:a.length≤65→∀l∈a,l.length≤1073741824) (hcb:b.length≤65→∀l∈b,l.length≤1073741824) (hKa:a.length≤65→∀q∈aE a,RL K q) (hKb:b.length≤65→∀q∈aE b,RL K q) (hK1:1≤K) (hK:2*K+1≤1073741824):
  Calls Tryz.prog 31 #[va,vb] w (RetOp w (fun x y=>x+y) a b):=by
 obtain⟨A,c,rfl,hc⟩:=ha.form;obtain⟨A',c',rfl,hc'⟩:=hb'.form;have hcm:=I0 81 (.inl rfl) (fun x y=>x+y) a b _ _ w hG ha hb' hla hlb K hca hcb hKa hKb hK1 hK (fun x y kx ky=>UB kx ky) (fun x y v u W hG h h' kx ky=>I2 x y v u W hG h h' K kx ky (by unfold aF;omega));go_enter Tryz.func31,Tryz.ntmps31;go_wp2_with fail;refine hcm.mono ?_;rintro e5 w5 h5;obtain⟨v5,n5,rfl,h5⟩:=h5.form;go_wp2_with fail;go_ret2;exact h5
theorem I4 (x:Rat) (v:Value) (w:World) (hv:RatAt w v x) (lx:nl x.den≤17592186044416):Calls Tryz.prog 65 #[v] w (bW w (x.den:Int)):=by
 obtain⟨s1,A1,k1,c1,s2,A2,k2,c2,rfl⟩:=hv.form;have hl:=Nat.le_trans (lO x) lx;obtain⟨W,eW,hb,X,R⟩:=j6 w [.bool s1,.slice A1 k1 c1,.bool s2,.slice A2 k2 c2] 83 [.bool false,.slice none 0 0] 53;have cM:=aa X.g4 R.g2;go_enter Tryz.func65,Tryz.ntmps65;go_wp2_with fail;(try rw[eW]);clear eW;have hd:=(hv.below hb).den;refine(cU (aS x) _ _ hd hl).mono ?_;rintro e3 w3 ⟨rfl,hb3⟩;replace X:=X.below hb3;replace R:=R.below hb3;replace cM:=aa X.k4 R.g2;replace hk:=Keep.below hb3;replace hd:=hd.keep hk;replace hb:=aB hb hb3;by_cases h1:x.den=1
 ·have hdd:decide (aS x=0)=true:=by rw[decide_eq_true_iff,dH];exact h1
  have HD:Hid ((x.den:Int)=1):=by unfold Hid;omega
  rw[hdd];clear hdd h1 hl;go_wp2_with fail;refine(jK 1 _ (by decide) (by decide)).mono ?_;rintro e4 w4 ⟨v4,rfl,h4,hb4⟩;obtain⟨s4,A4,k4,c4,rfl⟩:=h4.form;replace X:=X.below hb4;replace R:=R.below hb4;replace cM:=aa X.k4 R.g2;replace hb:=aB hb hb4;go_wp2_with fail;replace h4:IntAt w4 (.agg #[.bool s4,.slice A4 k4 c4]) (x.den:Int):=by rw[HD.out];exact h4
  obtain⟨W6,eW6,R,hb,hk,ff⟩:=R.put2 hb (by omega) (.bool s4) (.slice A4 k4 c4) rfl rfl;replace X:=ff X (by omega);replace h4:=h4.keep hk;rw[eW6];clear eW6;replace cM:=aa X.k4 R.k2;exact bodyPost_ret (v:= .agg #[.bool s4,.slice A4 k4 c4]) (by simp[results,Tryz.results65,go_sem,R.k2]) rfl ⟨_,rfl,h4,hb⟩
 ·have hdd:decide (aS x=0)=false:=by rw[decide_eq_false_iff_not,dH];exact h1
  rw[hdd];rw[iS h1] at hd;clear hdd h1 hl;go_wp2_with fail;obtain⟨W6,eW6,R,hb,hk,ff⟩:=R.put2 hb (by omega) (.bool s2) (.slice A2 k2 c2) rfl rfl;replace X:=ff X (by omega);replace hd:=hd.keep hk;rw[eW6];clear eW6;replace cM:=aa X.k4 R.k2;exact bodyPost_ret (v:= .agg #[.bool s2,.slice A2 k2 c2]) (by simp[results,Tryz.results65,go_sem,R.k2]) rfl ⟨_,rfl,hd,hb⟩
theorem V4 (x:Rat) (vx:Value) (w:World) (hx:RatAt w vx x) (lx:nl x.num.natAbs≤17592186044416):Calls Tryz.prog 129 #[vx] w (eV w (-x)):=by
 obtain⟨s1,A1,k1,c1,s2,A2,k2,c2,rfl⟩:=hx.form;obtain⟨W,eW,hb,X,R⟩:=j6 w [.bool s1,.slice A1 k1 c1,.bool s2,.slice A2 k2 c2] 83 [.bool false,.slice none 0 0,.bool false,.slice none 0 0] 83;have cM:=aa X.g4 R.g4;go_enter Tryz.func129,Tryz.ntmps129;go_wp2_with fail;(try rw[eW]);clear eW;have hn:=(hx.below hb).num;have hd:=(hx.below hb).den;replace hn:=hn.drew;replace hd:=hd.drew;replace X:=X.drew;replace R:=R.drew;replace hb:=hb.drew;replace cM:=aa X.k4 R.g4;have n_R_X:w.heap.size+1≠w.heap.size:=by omega
 go_region_held3 (fun w'=>C4 w' w.heap.size (.bool s1) (.slice A1 k1 c1) (.bool s2) (.slice A2 k2 c2))
  (first|(with_reducible exact X.k4)|((repeat (first|with_reducible exact X.k4|with_reducible refine fP n_R_X ?_))))
  (first
   |(go_at_call 107;(with_reducible refine(oK _ _ _ hn lx).mono ?_);rintro e4 w4 ⟨v4,rfl,h4,hb4⟩;obtain⟨s4,A4,k4,c4,rfl⟩:=h4.form;replace X:=X.below hb4;replace R:=R.below hb4;replace cM:=aa X.k4 R.g4;replace hk:=Keep.below hb4;replace hn:=hn.keep hk;replace hd:=hd.keep hk;replace hb:=aB hb hb4))
 all_goals (
  go_wp2_with fail;obtain⟨W6,eW6,R,hb,hk,ff⟩:=R.put4 hb (by omega) (.bool s4) (.slice A4 k4 c4) (.bool s2) (.slice A2 k2 c2) rfl rfl;replace X:=ff X (by omega);replace h4:=h4.keep hk;replace hd:=hd.keep hk;rw[eW6];clear eW6;replace cM:=aa X.k4 R.k4;exact bodyPost_ret (v:= .agg #[.bool s4,.slice A4 k4 c4,.bool s2,.slice A2 k2 c2]) (by simp[results,Tryz.results129,go_sem,R.k4]) rfl ⟨_,rfl,RatAt.of h4 hd rfl rfl,hb⟩
 )
theorem V5 (x y:Rat) (vx vy:Value) (w:World) (hG:Glob w) (hx:RatAt w vx x) (hy:RatAt w vy y) (K:Nat) (bx:RL K x) (bY:RL K y) (hK:20*K+60≤aF):
  Calls Tryz.prog 83 #[vx,vy] w (eV w (x-y)):=by
 obtain⟨s1,A1,k1,c1,s2,A2,k2,c2,rfl⟩:=hx.form;obtain⟨s3,A3,k3,c3,s4,A4,k4,c4,rfl⟩:=hy.form;rw[Rat.sub_eq_add_neg];have hng:=fun W u h=>V4 y u W h (by have:=bY.1;unfold aF at hK;omega);have had:=fun W u v hG h1 h2=>I2 x (-y) u v W hG h1 h2 K bx (yD bY) hK;obtain⟨W,eW,hb,X,Y,R⟩:=dK w [.bool s1,.slice A1 k1 c1,.bool s2,.slice A2 k2 c2] 83 [.bool s3,.slice A3 k3 c3,.bool s4,.slice A4 k4 c4] 83 [.bool false,.slice none 0 0,.bool false,.slice none 0 0] 83;have cM:=aa X.g4 (aa Y.g4 R.g4);go_enter Tryz.func83,Tryz.ntmps83;go_wp2_with fail;(try rw[eW]);clear eW;replace hx:=hx.below hb;replace hy:=hy.below hb;replace hx:=hx.drew;replace hy:=hy.drew;replace X:=X.drew;replace Y:=Y.drew;replace R:=R.drew;replace hb:=hb.drew;replace cM:=aa X.k4 (aa Y.k4 R.g4);have n_R_X:w.heap.size+1+1≠w.heap.size:=by omega
 have n_R_Y:w.heap.size+1+1≠w.heap.size+1:=by omega
 go_region_held3 (fun w'=>C4 w' w.heap.size (.bool s1) (.slice A1 k1 c1) (.bool s2) (.slice A2 k2 c2)∧C4 w' (w.heap.size+1) (.bool s3) (.slice A3 k3 c3) (.bool s4) (.slice A4 k4 c4))
  (first|(with_reducible exact⟨X.k4,Y.k4⟩)|(refine⟨?_,?_⟩<;>(repeat (first|with_reducible exact X.k4|with_reducible exact Y.k4|with_reducible refine fP n_R_X ?_|with_reducible refine fP n_R_Y ?_))))
  (first
   |(go_at_call 129;(with_reducible refine(hng _ _ hy).mono ?_);rintro e5 w5 ⟨v5,rfl,h5,hb5⟩;obtain⟨s5,A5,k5,c5,s6,A6,k6,c6,rfl⟩:=h5.form;replace X:=X.below hb5;replace Y:=Y.below hb5;replace R:=R.below hb5;replace cM:=aa X.k4 (aa Y.k4 R.g4);replace hk:=Keep.below hb5;replace hx:=hx.keep hk;replace hy:=hy.keep hk;(try replace h7:=h7.keep hk);replace hb:=aB hb hb5)
   |(go_at_call 81;(with_reducible refine(had _ _ _ (hG.below hb) hx h5).mono ?_);rintro e7 w7 ⟨v7,rfl,h7,hb7⟩;obtain⟨s7,A7,k7,c7,s8,A8,k8,c8,rfl⟩:=h7.form;replace X:=X.below hb7;replace Y:=Y.below hb7;replace R:=R.below hb7;replace cM:=aa X.k4 (aa Y.k4 R.g4);replace hk:=Keep.below hb7;replace hx:=hx.keep hk;replace hy:=hy.keep hk;(try replace h5:=h5.keep hk);replace hb:=aB hb hb7))
 all_goals (
  go_wp2_with fail;obtain⟨W6,eW6,R,hb,hk,ff⟩:=R.put4 hb (by omega) (.bool s7) (.slice A7 k7 c7) (.bool s8) (.slice A8 k8 c8) rfl rfl;replace X:=ff X (by omega);replace Y:=ff Y (by omega);replace h7:=h7.keep hk;rw[eW6];clear eW6;replace cM:=aa X.k4 (aa Y.k4 R.k4);exact bodyPost_ret (v:= .agg #[.bool s7,.slice A7 k7 c7,.bool s8,.slice A8 k8 c8]) (by simp[results,Tryz.results83,go_sem,R.k4]) rfl ⟨_,rfl,h7,hb⟩
 )
theorem V6 (x y:Rat) (g h:Nat) (hg:g=Nat.gcd x.num.natAbs y.den) (hh:h=Nat.gcd y.num.natAbs x.den):
  (x*y).num=x.num.tdiv (g:Int)*y.num.tdiv (h:Int)∧((x*y).den:Int)=(x.den:Int).tdiv (h:Int)*(y.den:Int).tdiv (g:Int):=by
 subst hg hh;show(Rat.mul x y).num=_∧((Rat.mul x y).den:Int)=_
 unfold Rat.mul;refine⟨?_,?_⟩
 ·simp only[Int.divExact_eq_tdiv]
 ·simp only[Nat.divExact_eq_div];rw[←Int.ofNat_tdiv,←Int.ofNat_tdiv];simp
def V7 (w:World) (a b:Int) (e:Ending) (w':World):Prop:=∃v u,e= .returned (.tuple #[v,u])∧IntAt w' v a∧IntAt w' u b∧Below w.heap.size w w'
theorem I3 (n d:Int) (vn vd:Value) (w:World) (hG:Glob w) (hn:IntAt w vn n) (hd:IntAt w vd d) (hn0:n≠0) (g:Nat) (hg:g=Nat.gcd n.natAbs d.natAbs) (K:Nat) (bn:nl n.natAbs≤K) (bd:nl d.natAbs≤K) (hK:10*K+10≤aF):
  Calls Tryz.prog 130 #[vn,vd] w (V7 w (n.tdiv g) (d.tdiv g)):=by
 obtain⟨s1,A1,k1,c1,rfl⟩:=hn.form;obtain⟨s2,A2,k2,c2,rfl⟩:=hd.form;have hg0:(g:Int)≠0:=by
  have:=Nat.gcd_pos_of_pos_left d.natAbs (show 0<n.natAbs by omega);omega
 have hgl:nl g≤K:=by rw[hg];exact qN _ _ _ (by omega) bn
 unfold aF at hK;obtain⟨W,eW,hb,X,Y,R,S⟩:=xF w [.bool s1,.slice A1 k1 c1] 53 [.bool s2,.slice A2 k2 c2] 53 [.bool false,.slice none 0 0] 53 [.bool false,.slice none 0 0] 53;have cM:=aa X.g2 (aa Y.g2 (aa R.g2 S.g2));go_enter Tryz.func130,Tryz.ntmps130;go_wp2_with fail;(try rw[eW]);clear eW;replace hn:=hn.below hb;replace hd:=hd.below hb;refine(jL d _ _ hd (by omega)).mono ?_;rintro e3 w3 ⟨rfl,hb3⟩;replace X:=X.below hb3;replace Y:=Y.below hb3;replace R:=R.below hb3;replace S:=S.below hb3;replace cM:=aa X.k2 (aa Y.k2 (aa R.g2 S.g2));replace hk:=Keep.below hb3;replace hn:=hn.keep hk;replace hd:=hd.keep hk;replace hb:=aB hb hb3;by_cases h1:d=1
 ·have hdd:decide (d=1)=true:=decide_eq_true h1;have hgg:g=1:=by rw[hg,h1];simp
  have E1:Hid (n.tdiv g=n∧d.tdiv g=d):=by unfold Hid;rw[hgg];exact⟨Int.tdiv_one n,Int.tdiv_one d⟩
  rw[hdd];clear hdd hgg hg hg0 h1;go_wp2_with fail;go_region
  all_goals (
   go_wp2_with fail;obtain⟨U0,eU0,R,hb,hk,ff⟩:=R.put2 hb (by omega) (.bool s1) (.slice A1 k1 c1) rfl rfl;replace X:=ff X (by omega);replace Y:=ff Y (by omega);replace S:=ff S (by omega);replace hn:=hn.keep hk;replace hd:=hd.keep hk;obtain⟨W6,eW6,S,hb,hk,ff⟩:=S.put2 hb (by omega) (.bool s2) (.slice A2 k2 c2) rfl rfl;replace X:=ff X (by omega);replace Y:=ff Y (by omega);replace R:=ff R (by omega);replace hn:=hn.keep hk;replace hd:=hd.keep hk;rw[eU0,eW6];clear eU0 eW6;replace cM:=aa X.k2 (aa Y.k2 (aa R.k2 S.k2));exact bodyPost_ret (v:= .tuple #[.agg #[.bool s1,.slice A1 k1 c1],.agg #[.bool s2,.slice A2 k2 c2]]) (by simp[results,Tryz.results130,go_sem,R.k2,S.k2]) rfl ⟨_,_,rfl,by rw[E1.out.1];exact hn,by rw[E1.out.2];exact hd,hb.drew⟩
  )
 ·have hdd:decide (d=1)=false:=decide_eq_false h1;rw[hdd];clear hdd h1;go_wp2_with fail;refine(mT n d _ _ _ (hG.below hb) hn hd K bn bd (by unfold aF;omega)).mono ?_;rintro e4 w4 ⟨v4,rfl,h4,hb4⟩;obtain⟨s4,A4,k4,c4,rfl⟩:=h4.form;replace X:=X.below hb4;replace Y:=Y.below hb4;replace R:=R.below hb4;replace S:=S.below hb4;replace cM:=aa X.k2 (aa Y.k2 (aa R.g2 S.g2));replace hk:=Keep.below hb4;replace hn:=hn.keep hk;replace hd:=hd.keep hk;replace hb:=aB hb hb4;rw[←hg] at h4;clear hg;go_wp2_with fail;have X_l:=X.lt;have Y_l:=Y.lt;have R_l:=R.lt;have S_l:=S.lt;have hsz_:=hb.size;obtain⟨w5,ew5,hA,G⟩:=bA w4 [.bool s4,.slice A4 k4 c4] 53;replace X:=X.below hA;replace Y:=Y.below hA;replace R:=R.below hA;replace S:=S.below hA;replace hk:=Keep.below hA;replace hb:=aB hb hA;replace h4:=h4.keep hk;replace hn:=hn.keep hk;replace hd:=hd.keep hk;rw[ew5];clear ew5;replace cM:=aa X.k2 (aa Y.k2 (aa R.g2 (aa S.g2 G.k2)));have hq1:=fun W h1 h2=>iC n g (.agg #[.bool s1,.slice A1 k1 c1]) (.agg #[.bool s4,.slice A4 k4 c4]) W h1 h2 hg0 (by show nl n.natAbs+4*nl g+4≤_;omega);have hq2:=fun W h1 h2=>iC d g (.agg #[.bool s2,.slice A2 k2 c2]) (.agg #[.bool s4,.slice A4 k4 c4]) W h1 h2 hg0 (by show nl d.natAbs+4*nl g+4≤_;omega);replace hn:=hn.drew;replace hd:=hd.drew;replace h4:=h4.drew;replace X:=X.drew;replace Y:=Y.drew;replace R:=R.drew;replace S:=S.drew;replace G:=G.drew;replace hb:=hb.drew;replace cM:=aa X.k2 (aa Y.k2 (aa R.g2 (aa S.g2 G.k2)));have n_R_X:w.heap.size+1+1≠w.heap.size:=by omega
  have n_R_Y:w.heap.size+1+1≠w.heap.size+1:=by omega
  have n_R_G:w.heap.size+1+1≠w4.heap.size:=by omega
  have n_S_X:w.heap.size+1+1+1≠w.heap.size:=by omega
  have n_S_Y:w.heap.size+1+1+1≠w.heap.size+1:=by omega
  have n_S_G:w.heap.size+1+1+1≠w4.heap.size:=by omega
  go_region_held3 (fun w'=>C2 w' w.heap.size (.bool s1) (.slice A1 k1 c1)∧C2 w' (w.heap.size+1) (.bool s2) (.slice A2 k2 c2)∧C2 w' w4.heap.size (.bool s4) (.slice A4 k4 c4))
   (first|(with_reducible exact⟨X.k2,Y.k2,G.k2⟩)|(refine⟨?_,?_,?_⟩<;>(repeat (first|with_reducible exact X.k2|with_reducible exact Y.k2|with_reducible exact G.k2|with_reducible refine dF n_R_X ?_|with_reducible refine dF n_R_Y ?_|with_reducible refine dF n_R_G ?_|with_reducible refine dF n_S_X ?_|with_reducible refine dF n_S_Y ?_|with_reducible refine dF n_S_G ?_))))
   (first
    |(go_at_call 112;(with_reducible refine(hq1 _ hn h4).mono ?_);rintro e7 w7 ⟨v7,rfl,h7,hb7⟩;obtain⟨s7,A7,k7,c7,rfl⟩:=h7.form;replace X:=X.below hb7;replace Y:=Y.below hb7;replace R:=R.below hb7;replace S:=S.below hb7;replace G:=G.below hb7;replace cM:=aa X.k2 (aa Y.k2 (aa R.g2 (aa S.g2 G.k2)));replace hk:=Keep.below hb7;replace hn:=hn.keep hk;replace hd:=hd.keep hk;replace h4:=h4.keep hk;(try replace h8:=h8.keep hk);replace hb:=aB hb hb7)
    |(go_at_call 112;(with_reducible refine(hq2 _ hd h4).mono ?_);rintro e8 w8 ⟨v8,rfl,h8,hb8⟩;obtain⟨s8,A8,k8,c8,rfl⟩:=h8.form;replace X:=X.below hb8;replace Y:=Y.below hb8;replace R:=R.below hb8;replace S:=S.below hb8;replace G:=G.below hb8;replace cM:=aa X.k2 (aa Y.k2 (aa R.g2 (aa S.g2 G.k2)));replace hk:=Keep.below hb8;replace hn:=hn.keep hk;replace hd:=hd.keep hk;replace h4:=h4.keep hk;(try replace h7:=h7.keep hk);replace hb:=aB hb hb8))
  all_goals (
   go_wp2_with fail;have X_l:=X.lt;have Y_l:=Y.lt;have R_l:=R.lt;have S_l:=S.lt;have G_l:=G.lt;have hsz_:=hb.size;obtain⟨U0,eU0,R,hb,hk,ff⟩:=R.put2 hb (by omega) (.bool s7) (.slice A7 k7 c7) rfl rfl;replace X:=ff X (by omega);replace Y:=ff Y (by omega);replace S:=ff S (by omega);replace G:=ff G (by omega);replace h7:=h7.keep hk;replace h8:=h8.keep hk;obtain⟨W6,eW6,S,hb,hk,ff⟩:=S.put2 hb (by omega) (.bool s8) (.slice A8 k8 c8) rfl rfl;replace X:=ff X (by omega);replace Y:=ff Y (by omega);replace R:=ff R (by omega);replace G:=ff G (by omega);replace h7:=h7.keep hk;replace h8:=h8.keep hk;rw[eU0,eW6];clear eU0 eW6;replace cM:=aa X.k2 (aa Y.k2 (aa R.k2 (aa S.k2 G.k2)));exact bodyPost_ret (v:= .tuple #[.agg #[.bool s7,.slice A7 k7 c7],.agg #[.bool s8,.slice A8 k8 c8]]) (by simp[results,Tryz.results130,go_sem,R.k2,S.k2]) rfl ⟨_,_,rfl,h7,h8,hb⟩
  )
theorem V8 (x y:Rat) (vx vy:Value) (w:World) (hG:Glob w) (hx:RatAt w vx x) (hy:RatAt w vy y) (h1:¬(x.den=1∧y.den=1)) (K:Nat) (bx:RL K x) (bY:RL K y) (hK:10*K+20≤aF):
  Calls Tryz.prog 84 #[vx,vy] w (eV w (x*y)):=by
 obtain⟨s1,A1,k1,c1,s2,A2,k2,c2,rfl⟩:=hx.form;obtain⟨s3,A3,k3,c3,s4,A4,k4,c4,rfl⟩:=hy.form;unfold aF at hK;obtain⟨g,hg⟩:∃g,g=Nat.gcd x.num.natAbs y.den:=⟨_,rfl⟩;obtain⟨h,hh⟩:∃h,h=Nat.gcd y.num.natAbs x.den:=⟨_,rfl⟩;have HP:=Lib.hid (V6 x y g h hg hh);have⟨bx1,bx2⟩:=bx;have⟨by1,by2⟩:=bY;have hdx:=fun W h=>I4 x (.agg #[.bool s1,.slice A1 k1 c1,.bool s2,.slice A2 k2 c2]) W h (by omega);have hdy:=fun W h=>I4 y (.agg #[.bool s3,.slice A3 k3 c3,.bool s4,.slice A4 k4 c4]) W h (by omega);have hc1:=fun W u hG h1 h2 hn0=>I3 x.num y.den (.agg #[.bool s1,.slice A1 k1 c1]) u W hG h1 h2 hn0 g hg K bx1 by2 (by unfold aF;omega);have hc2:=fun W u hG h1 h2 hn0=>I3 y.num x.den (.agg #[.bool s3,.slice A3 k3 c3]) u W hG h1 h2 hn0 h hh K by1 bx2 (by unfold aF;omega);have ba1:=gB x.num g K bx1;have ba2:=gB y.num h K by1;have bb1:=gB (y.den:Int) g K by2;have bb2:=gB (x.den:Int) h K bx2;have bxd:=lO x;have byd:=lO y;have hdd1:aS x=0→aS y≠0:=fun e1 e2=>h1 ⟨dH.1 e1,dH.1 e2⟩;have hz0:x.num=0∨y.num=0→x*y=0:=fun h=>by
  rcases h with h|h
  ·rw[Rat.num_eq_zero.1 h,Rat.zero_mul]
  ·rw[Rat.num_eq_zero.1 h,Rat.mul_zero]
 have HZ:=Lib.hid hz0;clear hz0 h1 hg hh;obtain⟨W,eW,hb,X,Y,R⟩:=dK w [.bool s1,.slice A1 k1 c1,.bool s2,.slice A2 k2 c2] 83 [.bool s3,.slice A3 k3 c3,.bool s4,.slice A4 k4 c4] 83 [.bool false,.slice none 0 0,.bool false,.slice none 0 0] 83;have cM:=aa X.g4 (aa Y.g4 R.g4);go_enter Tryz.func84,Tryz.ntmps84;go_wp2_with fail;(try rw[eW]);clear eW;have hxn:=(hx.below hb).num;have hyn:=(hy.below hb).num;generalize x.num.tdiv g=a1 at *;generalize y.num.tdiv h=a2 at *;generalize (y.den:Int).tdiv g=b1 at *;generalize (x.den:Int).tdiv h=b2 at *;refine(cU x.num _ _ hxn (by omega)).mono ?_;rintro e5 w5 ⟨rfl,hb5⟩;replace X:=X.below hb5;replace Y:=Y.below hb5;replace R:=R.below hb5;replace cM:=aa X.k4 (aa Y.k4 R.g4);replace hk:=Keep.below hb5;replace hxn:=hxn.keep hk;replace hyn:=hyn.keep hk;replace hb:=aB hb hb5;by_cases hx0:x.num=0
 ·have HQ:=Lib.hid (HZ.out (.inl hx0));rw[show decide (x.num=0)=true from decide_eq_true hx0];clear hx0;go_wp2_with fail;obtain⟨W6,eW6,R,hb,hk,ff⟩:=R.put4 hb (by omega) (.bool false) (.slice none 0 0) (.bool false) (.slice none 0 0) rfl rfl;replace X:=ff X (by omega);replace Y:=ff Y (by omega);rw[eW6];clear eW6;replace cM:=aa X.k4 (aa Y.k4 R.k4);exact bodyPost_ret (v:= .agg #[.bool false,.slice none 0 0,.bool false,.slice none 0 0]) (by simp[results,Tryz.results84,go_sem,R.k4]) rfl ⟨_,rfl,RatAt.of (IntAt.zero _) (IntAt.zero _) (by rw[HQ.out];rfl) (by rw[HQ.out];rfl),hb⟩
 ·rw[show decide (x.num=0)=false from decide_eq_false hx0];go_wp2_with fail;refine(cU y.num _ _ hyn (by omega)).mono ?_;rintro e6 w6 ⟨rfl,hb6⟩;replace X:=X.below hb6;replace Y:=Y.below hb6;replace R:=R.below hb6;replace cM:=aa X.k4 (aa Y.k4 R.g4);replace hk:=Keep.below hb6;replace hxn:=hxn.keep hk;replace hyn:=hyn.keep hk;replace hb:=aB hb hb6;by_cases hy0:y.num=0
  ·have HQ:=Lib.hid (HZ.out (.inr hy0));rw[show decide (y.num=0)=true from decide_eq_true hy0];clear hx0 hy0;go_wp2_with fail;obtain⟨W6,eW6,R,hb,hk,ff⟩:=R.put4 hb (by omega) (.bool false) (.slice none 0 0) (.bool false) (.slice none 0 0) rfl rfl;replace X:=ff X (by omega);replace Y:=ff Y (by omega);rw[eW6];clear eW6;replace cM:=aa X.k4 (aa Y.k4 R.k4);exact bodyPost_ret (v:= .agg #[.bool false,.slice none 0 0,.bool false,.slice none 0 0]) (by simp[results,Tryz.results84,go_sem,R.k4]) rfl ⟨_,rfl,RatAt.of (IntAt.zero _) (IntAt.zero _) (by rw[HQ.out];rfl) (by rw[HQ.out];rfl),hb⟩
  ·rw[show decide (y.num=0)=false from decide_eq_false hy0];have HX0:Hid (x.num≠0):=hx0;have HY0:Hid (y.num≠0):=hy0;have hxd:=(hx.below hb).den;have hyd:=(hy.below hb).den;clear hx0 hy0 hxn hyn;generalize aS x=dx at *;generalize aS y=dy at *;go_upto_region 3 with fail;go_cut [25] (fun s25 wx=>s25= .bool false∧Bx wx w.heap.size [.bool s1,.slice A1 k1 c1,.bool s2,.slice A2 k2 c2] 83∧Bx wx (w.heap.size+1) [.bool s3,.slice A3 k3 c3,.bool s4,.slice A4 k4 c4] 83∧Bx wx (w.heap.size+1+1) [.bool false,.slice none 0 0,.bool false,.slice none 0 0] 83∧Below w.heap.size w wx)
   case first=>
    go_wp2_with fail;refine(cU dx _ _ hxd (by omega)).mono ?_;rintro e7 w7 ⟨rfl,hb7⟩;replace X:=X.below hb7;replace Y:=Y.below hb7;replace R:=R.below hb7;replace cM:=aa X.k4 (aa Y.k4 R.g4);replace hk:=Keep.below hb7;replace hxd:=hxd.keep hk;replace hyd:=hyd.keep hk;replace hb:=aB hb hb7;by_cases e:dx=0
    ·rw[show decide (dx=0)=true from decide_eq_true e];have hy1:=hdd1 e;clear e hdd1;go_wp2_with fail;refine(cU dy _ _ hyd (by omega)).mono ?_;rintro e8 w8 ⟨rfl,hb8⟩;replace X:=X.below hb8;replace Y:=Y.below hb8;replace R:=R.below hb8;replace cM:=aa X.k4 (aa Y.k4 R.g4);replace hk:=Keep.below hb8;replace hxd:=hxd.keep hk;replace hyd:=hyd.keep hk;replace hb:=aB hb hb8;rw[show decide (dy=0)=false from decide_eq_false hy1];clear hy1;go_wp2_with fail;go_meet;exact⟨rfl,X,Y,R,hb⟩
    ·rw[show decide (dx=0)=false from decide_eq_false e];clear e hdd1;go_wp2_with fail;go_meet;exact⟨rfl,X,Y,R,hb⟩
   case rest=>
    clear X Y R hb hxd hyd hdd1 cM;obtain⟨rfl,X,Y,R,hb⟩:=hcut;generalize wc=W7 at *;have hx7:=hx.below hb;have hy7:=hy.below hb;have hG7:=hG.below hb;have hxn:=hx7.num;have hyn:=hy7.num;have cM:=True.intro;replace cM:=aa X.k4 (aa Y.k4 R.g4);go_wp2_with fail;have X_ltW7:=X.lt;have Y_ltW7:=Y.lt;go_cut [5,6] (fun s5 s6 wx=>∃g5 g6,s5= .pointer (some ⟨g5,0,none⟩)∧s6= .pointer (some ⟨g6,0,none⟩)∧W7.heap.size≤g5∧W7.heap.size≤g6∧g5≠g6∧IntBx wx g5 (a1)∧IntBx wx g6 (b1)∧Below W7.heap.size W7 wx)
    case first=>
     go_region_held3 (fun w'=>w'.cell? ⟨w.heap.size,0,none⟩=some (.bool s1)∧w'.cell? ⟨w.heap.size,1,none⟩=some (.slice A1 k1 c1)∧w'.cell? ⟨w.heap.size+1,0,none⟩=some (.bool s3)∧w'.cell? ⟨w.heap.size+1,1,none⟩=some (.slice A3 k3 c3)∧w'.cell? ⟨w.heap.size+1,2,none⟩=some (.bool s4)∧w'.cell? ⟨w.heap.size+1,3,none⟩=some (.slice A4 k4 c4))
      (with_reducible exact⟨X.up.cell 0 rfl,X.up.cell 1 rfl,Y.up.cell 0 rfl,Y.up.cell 1 rfl,Y.up.cell 2 rfl,Y.up.cell 3 rfl⟩)
      (first
       |(go_at_call 65;(with_reducible refine(hdy _ hy7.up).mono ?_);rintro e13 w13 ⟨v13,rfl,h13,hb13⟩;have l13:=hb13.size;(try simp at l13);have:=St.mk hb13;obtain⟨s13,A13,k13,c13,rfl⟩:=h13.form)
       |(go_at_call 130;(with_reducible refine(hc1 _ _ hG7.up hxn.up h13.up HX0.out).mono ?_);rintro e14 w14 ⟨v14,u14,rfl,hpz,h14,hb14⟩;have l14:=hb14.size;(try simp at l14);have:=St.mk hb14;have TT14:=Up.out (a:=W7) (b:=w14);have ll14:=TT14.size;have h13z:=h13.up (b:=w14);(try (have D13_0:=(Bx.newAt W7 [.bool false,.slice none 0 0] 53 (W7.heap.size) rfl).up (b:=w14);obtain⟨D13_0_k,D13_0_a,D13_0_n,D13_0_m⟩:=dd D13_0));(try (have D13_1:=(Bx.newAt (W7.alloc Z0) [.bool false,.slice none 0 0] 53 (W7.heap.size+1) (World.size_alloc _ _)).up (b:=w14);obtain⟨D13_1_k,D13_1_a,D13_1_n,D13_1_m⟩:=dd D13_1));(try (have D14_0:=(Bx.newAt w13 [.bool false,.slice none 0 0] 53 (w13.heap.size) rfl).up (b:=w14);obtain⟨D14_0_k,D14_0_a,D14_0_n,D14_0_m⟩:=dd D14_0));(try (have D14_1:=(Bx.newAt (w13.alloc Z0) [.bool false,.slice none 0 0] 53 (w13.heap.size+1) (World.size_alloc _ _)).up (b:=w14);obtain⟨D14_1_k,D14_1_a,D14_1_n,D14_1_m⟩:=dd D14_1));obtain⟨sp,Ap,kp,cp,rfl⟩:=hpz.form;obtain⟨s14,A14,k14,c14,rfl⟩:=h14.form))
     all_goals (
      go_wp2_with fail;go_meet;refine⟨_,_,rfl,rfl,by omega,by omega,by omega,?_⟩
      first
       |(with_reducible exact rQ hpz h14 TT14)
       |(with_reducible exact uX hpz h14 TT14)
       |(with_reducible exact iQ hpz h14 (zb D13_0) TT14 (by omega))
       |(with_reducible exact iQ hpz h14 (zb D13_1) TT14 (by omega))
       |(with_reducible exact iQ hpz h14 (zb D14_0) TT14 (by omega))
       |(with_reducible exact iQ hpz h14 (zb D14_1) TT14 (by omega))
       |(with_reducible exact iR (zb D13_0) hpz h14 TT14 (by omega))
       |(with_reducible exact iR (zb D13_1) hpz h14 TT14 (by omega))
       |(with_reducible exact iR (zb D14_0) hpz h14 TT14 (by omega))
       |(with_reducible exact iR (zb D14_1) hpz h14 TT14 (by omega))
       |(with_reducible exact cG (zb D13_0) (zb D13_1) hpz h14 (by omega) TT14 (by omega) (by omega))
       |(with_reducible exact cG (zb D13_0) (zb D14_0) hpz h14 (by omega) TT14 (by omega) (by omega))
       |(with_reducible exact cG (zb D13_0) (zb D14_1) hpz h14 (by omega) TT14 (by omega) (by omega))
       |(with_reducible exact cG (zb D13_1) (zb D13_0) hpz h14 (by omega) TT14 (by omega) (by omega))
       |(with_reducible exact cG (zb D13_1) (zb D14_0) hpz h14 (by omega) TT14 (by omega) (by omega))
       |(with_reducible exact cG (zb D13_1) (zb D14_1) hpz h14 (by omega) TT14 (by omega) (by omega))
       |(with_reducible exact cG (zb D14_0) (zb D13_0) hpz h14 (by omega) TT14 (by omega) (by omega))
       |(with_reducible exact cG (zb D14_0) (zb D13_1) hpz h14 (by omega) TT14 (by omega) (by omega))
       |(with_reducible exact cG (zb D14_0) (zb D14_1) hpz h14 (by omega) TT14 (by omega) (by omega))
       |(with_reducible exact cG (zb D14_1) (zb D13_0) hpz h14 (by omega) TT14 (by omega) (by omega))
       |(with_reducible exact cG (zb D14_1) (zb D13_1) hpz h14 (by omega) TT14 (by omega) (by omega))
       |(with_reducible exact cG (zb D14_1) (zb D14_0) hpz h14 (by omega) TT14 (by omega) (by omega)))
    case rest=>
     obtain⟨g5,g6,rfl,rfl,hg5,hg6,hne56,I5,I6,hbc⟩:=hcut;generalize wc=W8 at *;have X8:=X.below hbc;have Y8:=Y.below hbc;have R8:=R.below hbc;have hx8:=hx7.below hbc;have hG8:=hG7.below hbc;have hyn8:=hyn.below hbc;replace hb:=aB hb hbc;have hz8:=hbc.size;have hxl:=X.lt;have hyl:=Y.lt;have hrl:=R.lt;obtain⟨s5,A5,k5,c5,P5,i5⟩:=I5;obtain⟨s6,A6,k6,c6,P6,i6⟩:=I6;clear X Y R hx7 hy7 hG7 hxn hyn hbc hc1 hdy cM;go_wp2_with fail;have Y8_ltW8:=Y8.lt;have X8_ltW8:=X8.lt;go_cut [7,8] (fun s7 s8 wx=>∃g7 g8,s7= .pointer (some ⟨g7,0,none⟩)∧s8= .pointer (some ⟨g8,0,none⟩)∧W8.heap.size≤g7∧W8.heap.size≤g8∧g7≠g8∧IntBx wx g7 (a2)∧IntBx wx g8 (b2)∧Below W8.heap.size W8 wx)
     case first=>
      go_region_held3 (fun w'=>w'.cell? ⟨w.heap.size+1,0,none⟩=some (.bool s3)∧w'.cell? ⟨w.heap.size+1,1,none⟩=some (.slice A3 k3 c3)∧w'.cell? ⟨w.heap.size,0,none⟩=some (.bool s1)∧w'.cell? ⟨w.heap.size,1,none⟩=some (.slice A1 k1 c1)∧w'.cell? ⟨w.heap.size,2,none⟩=some (.bool s2)∧w'.cell? ⟨w.heap.size,3,none⟩=some (.slice A2 k2 c2))
       (with_reducible exact⟨Y8.up.cell 0 rfl,Y8.up.cell 1 rfl,X8.up.cell 0 rfl,X8.up.cell 1 rfl,X8.up.cell 2 rfl,X8.up.cell 3 rfl⟩)
       (first
        |(go_at_call 65;(with_reducible refine(hdx _ hx8.up).mono ?_);rintro e15 w15 ⟨v15,rfl,h15,hb15⟩;have l15:=hb15.size;(try simp at l15);have:=St.mk hb15;obtain⟨s15,A15,k15,c15,rfl⟩:=h15.form)
        |(go_at_call 130;(with_reducible refine(hc2 _ _ hG8.up hyn8.up h15.up HY0.out).mono ?_);rintro e16 w16 ⟨v16,u16,rfl,hpz,h16,hb16⟩;have l16:=hb16.size;(try simp at l16);have:=St.mk hb16;have TT16:=Up.out (a:=W8) (b:=w16);have ll16:=TT16.size;have h15z:=h15.up (b:=w16);(try (have D15_0:=(Bx.newAt W8 [.bool false,.slice none 0 0] 53 (W8.heap.size) rfl).up (b:=w16);obtain⟨D15_0_k,D15_0_a,D15_0_n,D15_0_m⟩:=dd D15_0));(try (have D15_1:=(Bx.newAt (W8.alloc Z0) [.bool false,.slice none 0 0] 53 (W8.heap.size+1) (World.size_alloc _ _)).up (b:=w16);obtain⟨D15_1_k,D15_1_a,D15_1_n,D15_1_m⟩:=dd D15_1));(try (have D16_0:=(Bx.newAt w15 [.bool false,.slice none 0 0] 53 (w15.heap.size) rfl).up (b:=w16);obtain⟨D16_0_k,D16_0_a,D16_0_n,D16_0_m⟩:=dd D16_0));(try (have D16_1:=(Bx.newAt (w15.alloc Z0) [.bool false,.slice none 0 0] 53 (w15.heap.size+1) (World.size_alloc _ _)).up (b:=w16);obtain⟨D16_1_k,D16_1_a,D16_1_n,D16_1_m⟩:=dd D16_1));obtain⟨sp,Ap,kp,cp,rfl⟩:=hpz.form;obtain⟨s16,A16,k16,c16,rfl⟩:=h16.form))
      all_goals (
       go_wp2_with fail;go_meet;refine⟨_,_,rfl,rfl,by omega,by omega,by omega,?_⟩
       first
        |(with_reducible exact rQ hpz h16 TT16)
        |(with_reducible exact uX hpz h16 TT16)
        |(with_reducible exact iQ hpz h16 (zb D15_0) TT16 (by omega))
        |(with_reducible exact iQ hpz h16 (zb D15_1) TT16 (by omega))
        |(with_reducible exact iQ hpz h16 (zb D16_0) TT16 (by omega))
        |(with_reducible exact iQ hpz h16 (zb D16_1) TT16 (by omega))
        |(with_reducible exact iR (zb D15_0) hpz h16 TT16 (by omega))
        |(with_reducible exact iR (zb D15_1) hpz h16 TT16 (by omega))
        |(with_reducible exact iR (zb D16_0) hpz h16 TT16 (by omega))
        |(with_reducible exact iR (zb D16_1) hpz h16 TT16 (by omega))
        |(with_reducible exact cG (zb D15_0) (zb D15_1) hpz h16 (by omega) TT16 (by omega) (by omega))
        |(with_reducible exact cG (zb D15_0) (zb D16_0) hpz h16 (by omega) TT16 (by omega) (by omega))
        |(with_reducible exact cG (zb D15_0) (zb D16_1) hpz h16 (by omega) TT16 (by omega) (by omega))
        |(with_reducible exact cG (zb D15_1) (zb D15_0) hpz h16 (by omega) TT16 (by omega) (by omega))
        |(with_reducible exact cG (zb D15_1) (zb D16_0) hpz h16 (by omega) TT16 (by omega) (by omega))
        |(with_reducible exact cG (zb D15_1) (zb D16_1) hpz h16 (by omega) TT16 (by omega) (by omega))
        |(with_reducible exact cG (zb D16_0) (zb D15_0) hpz h16 (by omega) TT16 (by omega) (by omega))
        |(with_reducible exact cG (zb D16_0) (zb D15_1) hpz h16 (by omega) TT16 (by omega) (by omega))
        |(with_reducible exact cG (zb D16_0) (zb D16_1) hpz h16 (by omega) TT16 (by omega) (by omega))
        |(with_reducible exact cG (zb D16_1) (zb D15_0) hpz h16 (by omega) TT16 (by omega) (by omega))
        |(with_reducible exact cG (zb D16_1) (zb D15_1) hpz h16 (by omega) TT16 (by omega) (by omega))
        |(with_reducible exact cG (zb D16_1) (zb D16_0) hpz h16 (by omega) TT16 (by omega) (by omega)))
     case rest=>
      obtain⟨g7,g8,rfl,rfl,hg7,hg8,hne78,I7,I8,hbc⟩:=hcut;generalize wc=W9 at *;replace P5:=P5.below hbc;replace P6:=P6.below hbc;have R9:=R8.below hbc;replace i5:=i5.below hbc;replace i6:=i6.below hbc;have hl5:=P5.lt;replace hb:=aB hb hbc;obtain⟨s7,A7,k7,c7,P7,i7⟩:=I7;obtain⟨s8,A8,k8,c8,P8,i8⟩:=I8;clear X8 Y8 R8 hx8 hG8 hyn8 hc2 hdx hbc;have hm1:=fun W h1 h2=>f8 a1 a2 (.agg #[.bool s5,.slice A5 k5 c5]) (.agg #[.bool s7,.slice A7 k7 c7]) W h1 h2 (by omega);have hm2:=fun W h1 h2=>f8 b2 b1 (.agg #[.bool s8,.slice A8 k8 c8]) (.agg #[.bool s6,.slice A6 k6 c6]) W h1 h2 (by omega);have bmd:=bZ b2 b1 K K bb2 bb1;have hlw:=fun W u v h1 h2=>rV (x*y) (a1*a2) (b2*b1) u v W h1 h2 HP.out.1 HP.out.2 (by omega);go_wp2_with fail;have P5_ltW9:=P5.lt;have P6_ltW9:=P6.lt;have P7_ltW9:=P7.lt;have P8_ltW9:=P8.lt;have KS:=Lib.hid (show∀w',Below W9.heap.size W9 w'→(w'.cell? ⟨g5,0,none⟩=some (.bool s5)∧w'.cell? ⟨g5,1,none⟩=some (.slice A5 k5 c5)∧w'.cell? ⟨g6,0,none⟩=some (.bool s6)∧w'.cell? ⟨g6,1,none⟩=some (.slice A6 k6 c6)∧w'.cell? ⟨g7,0,none⟩=some (.bool s7)∧w'.cell? ⟨g7,1,none⟩=some (.slice A7 k7 c7)∧w'.cell? ⟨g8,0,none⟩=some (.bool s8)∧w'.cell? ⟨g8,1,none⟩=some (.slice A8 k8 c8)) from fun w' hU=>⟨(hU.cell (p:=⟨g5,0,none⟩) P5_ltW9).trans (P5.cell 0 rfl),(hU.cell (p:=⟨g5,1,none⟩) P5_ltW9).trans (P5.cell 1 rfl),(hU.cell (p:=⟨g6,0,none⟩) P6_ltW9).trans (P6.cell 0 rfl),(hU.cell (p:=⟨g6,1,none⟩) P6_ltW9).trans (P6.cell 1 rfl),(hU.cell (p:=⟨g7,0,none⟩) P7_ltW9).trans (P7.cell 0 rfl),(hU.cell (p:=⟨g7,1,none⟩) P7_ltW9).trans (P7.cell 1 rfl),(hU.cell (p:=⟨g8,0,none⟩) P8_ltW9).trans (P8.cell 0 rfl),(hU.cell (p:=⟨g8,1,none⟩) P8_ltW9).trans (P8.cell 1 rfl)⟩);have n_R9_P5:w.heap.size+1+1≠g5:=by omega
      have n_R9_P6:w.heap.size+1+1≠g6:=by omega
      have n_R9_P7:w.heap.size+1+1≠g7:=by omega
      have n_R9_P8:w.heap.size+1+1≠g8:=by omega
      have KF:=Lib.hid (show∀(w':World) (u0 u1 u2 u3:Value),Below W9.heap.size W9 w'→(((((w'.setCell ⟨w.heap.size+1+1,0,none⟩ u0).setCell ⟨w.heap.size+1+1,1,none⟩ u1).setCell ⟨w.heap.size+1+1,2,none⟩ u2).setCell ⟨w.heap.size+1+1,3,none⟩ u3).cell? ⟨g5,0,none⟩=some (.bool s5)∧((((w'.setCell ⟨w.heap.size+1+1,0,none⟩ u0).setCell ⟨w.heap.size+1+1,1,none⟩ u1).setCell ⟨w.heap.size+1+1,2,none⟩ u2).setCell ⟨w.heap.size+1+1,3,none⟩ u3).cell? ⟨g5,1,none⟩=some (.slice A5 k5 c5)∧((((w'.setCell ⟨w.heap.size+1+1,0,none⟩ u0).setCell ⟨w.heap.size+1+1,1,none⟩ u1).setCell ⟨w.heap.size+1+1,2,none⟩ u2).setCell ⟨w.heap.size+1+1,3,none⟩ u3).cell? ⟨g6,0,none⟩=some (.bool s6)∧((((w'.setCell ⟨w.heap.size+1+1,0,none⟩ u0).setCell ⟨w.heap.size+1+1,1,none⟩ u1).setCell ⟨w.heap.size+1+1,2,none⟩ u2).setCell ⟨w.heap.size+1+1,3,none⟩ u3).cell? ⟨g6,1,none⟩=some (.slice A6 k6 c6)∧((((w'.setCell ⟨w.heap.size+1+1,0,none⟩ u0).setCell ⟨w.heap.size+1+1,1,none⟩ u1).setCell ⟨w.heap.size+1+1,2,none⟩ u2).setCell ⟨w.heap.size+1+1,3,none⟩ u3).cell? ⟨g7,0,none⟩=some (.bool s7)∧((((w'.setCell ⟨w.heap.size+1+1,0,none⟩ u0).setCell ⟨w.heap.size+1+1,1,none⟩ u1).setCell ⟨w.heap.size+1+1,2,none⟩ u2).setCell ⟨w.heap.size+1+1,3,none⟩ u3).cell? ⟨g7,1,none⟩=some (.slice A7 k7 c7)∧((((w'.setCell ⟨w.heap.size+1+1,0,none⟩ u0).setCell ⟨w.heap.size+1+1,1,none⟩ u1).setCell ⟨w.heap.size+1+1,2,none⟩ u2).setCell ⟨w.heap.size+1+1,3,none⟩ u3).cell? ⟨g8,0,none⟩=some (.bool s8)∧((((w'.setCell ⟨w.heap.size+1+1,0,none⟩ u0).setCell ⟨w.heap.size+1+1,1,none⟩ u1).setCell ⟨w.heap.size+1+1,2,none⟩ u2).setCell ⟨w.heap.size+1+1,3,none⟩ u3).cell? ⟨g8,1,none⟩=some (.slice A8 k8 c8)) from fun w' u0 u1 u2 u3 hU=>⟨(aK _ _ _ _ _ _ n_R9_P5).trans ((aK _ _ _ _ _ _ n_R9_P5).trans ((aK _ _ _ _ _ _ n_R9_P5).trans ((aK _ _ _ _ _ _ n_R9_P5).trans ((hU.cell (p:=⟨g5,0,none⟩) P5_ltW9).trans (P5.cell 0 rfl))))),(aK _ _ _ _ _ _ n_R9_P5).trans ((aK _ _ _ _ _ _ n_R9_P5).trans ((aK _ _ _ _ _ _ n_R9_P5).trans ((aK _ _ _ _ _ _ n_R9_P5).trans ((hU.cell (p:=⟨g5,1,none⟩) P5_ltW9).trans (P5.cell 1 rfl))))),(aK _ _ _ _ _ _ n_R9_P6).trans ((aK _ _ _ _ _ _ n_R9_P6).trans ((aK _ _ _ _ _ _ n_R9_P6).trans ((aK _ _ _ _ _ _ n_R9_P6).trans ((hU.cell (p:=⟨g6,0,none⟩) P6_ltW9).trans (P6.cell 0 rfl))))),(aK _ _ _ _ _ _ n_R9_P6).trans ((aK _ _ _ _ _ _ n_R9_P6).trans ((aK _ _ _ _ _ _ n_R9_P6).trans ((aK _ _ _ _ _ _ n_R9_P6).trans ((hU.cell (p:=⟨g6,1,none⟩) P6_ltW9).trans (P6.cell 1 rfl))))),(aK _ _ _ _ _ _ n_R9_P7).trans ((aK _ _ _ _ _ _ n_R9_P7).trans ((aK _ _ _ _ _ _ n_R9_P7).trans ((aK _ _ _ _ _ _ n_R9_P7).trans ((hU.cell (p:=⟨g7,0,none⟩) P7_ltW9).trans (P7.cell 0 rfl))))),(aK _ _ _ _ _ _ n_R9_P7).trans ((aK _ _ _ _ _ _ n_R9_P7).trans ((aK _ _ _ _ _ _ n_R9_P7).trans ((aK _ _ _ _ _ _ n_R9_P7).trans ((hU.cell (p:=⟨g7,1,none⟩) P7_ltW9).trans (P7.cell 1 rfl))))),(aK _ _ _ _ _ _ n_R9_P8).trans ((aK _ _ _ _ _ _ n_R9_P8).trans ((aK _ _ _ _ _ _ n_R9_P8).trans ((aK _ _ _ _ _ _ n_R9_P8).trans ((hU.cell (p:=⟨g8,0,none⟩) P8_ltW9).trans (P8.cell 0 rfl))))),(aK _ _ _ _ _ _ n_R9_P8).trans ((aK _ _ _ _ _ _ n_R9_P8).trans ((aK _ _ _ _ _ _ n_R9_P8).trans ((aK _ _ _ _ _ _ n_R9_P8).trans ((hU.cell (p:=⟨g8,1,none⟩) P8_ltW9).trans (P8.cell 1 rfl)))))⟩)
      go_region_held3 (fun w'=>w'.cell? ⟨g5,0,none⟩=some (.bool s5)∧w'.cell? ⟨g5,1,none⟩=some (.slice A5 k5 c5)∧w'.cell? ⟨g6,0,none⟩=some (.bool s6)∧w'.cell? ⟨g6,1,none⟩=some (.slice A6 k6 c6)∧w'.cell? ⟨g7,0,none⟩=some (.bool s7)∧w'.cell? ⟨g7,1,none⟩=some (.slice A7 k7 c7)∧w'.cell? ⟨g8,0,none⟩=some (.bool s8)∧w'.cell? ⟨g8,1,none⟩=some (.slice A8 k8 c8))
       (first|(with_reducible exact KF.out _ _ _ _ _ (by with_reducible (repeat (first|exact Below.refl _ _|refine ua ?_|refine ud ?_|refine ut ?_ hb17|refine ut ?_ hb18|refine ut ?_ hb20|refine us ?_ (by omega)))))|(exact KS.out _ (by with_reducible (repeat (first|exact Below.refl _ _|refine ua ?_|refine ud ?_|refine ut ?_ hb17|refine ut ?_ hb18|refine ut ?_ hb20|refine us ?_ (by omega))))))
       (first
        |(go_at_call 46;(with_reducible refine(hm1 _ (i5.below (by with_reducible (repeat (first|exact Below.refl _ _|refine ua ?_|refine ud ?_|refine ut ?_ hb17|refine ut ?_ hb18|refine ut ?_ hb20|refine us ?_ (by omega))))) (i7.below (by with_reducible (repeat (first|exact Below.refl _ _|refine ua ?_|refine ud ?_|refine ut ?_ hb17|refine ut ?_ hb18|refine ut ?_ hb20|refine us ?_ (by omega)))))).mono ?_);rintro e17 w17 ⟨v17,rfl,h17,hb17⟩;have l17:=hb17.size;(try simp at l17);have TT17:Below W9.heap.size W9 w17:=(by with_reducible (repeat (first|exact Below.refl _ _|refine ua ?_|refine ud ?_|refine ut ?_ hb17|refine ut ?_ hb18|refine ut ?_ hb20|refine us ?_ (by omega))));have ll17:=TT17.size;obtain⟨s17,A17,k17,c17,rfl⟩:=h17.form)
        |(go_at_call 46;(with_reducible refine(hm2 _ (i8.below (by with_reducible (repeat (first|exact Below.refl _ _|refine ua ?_|refine ud ?_|refine ut ?_ hb17|refine ut ?_ hb18|refine ut ?_ hb20|refine us ?_ (by omega))))) (i6.below (by with_reducible (repeat (first|exact Below.refl _ _|refine ua ?_|refine ud ?_|refine ut ?_ hb17|refine ut ?_ hb18|refine ut ?_ hb20|refine us ?_ (by omega)))))).mono ?_);rintro e18 w18 ⟨v18,rfl,h18,hb18⟩;have l18:=hb18.size;(try simp at l18);have TT18:Below W9.heap.size W9 w18:=(by with_reducible (repeat (first|exact Below.refl _ _|refine ua ?_|refine ud ?_|refine ut ?_ hb17|refine ut ?_ hb18|refine ut ?_ hb20|refine us ?_ (by omega))));have ll18:=TT18.size;obtain⟨s18,A18,k18,c18,rfl⟩:=h18.form)
        |(go_at_call 113;(with_reducible refine(hlw _ _ _ (h17.below (by with_reducible (repeat (first|exact Below.refl _ _|refine ua ?_|refine ud ?_|refine ut ?_ hb17|refine ut ?_ hb18|refine ut ?_ hb20|refine us ?_ (by omega))))) (h18.below (by with_reducible (repeat (first|exact Below.refl _ _|refine ua ?_|refine ud ?_|refine ut ?_ hb17|refine ut ?_ hb18|refine ut ?_ hb20|refine us ?_ (by omega)))))).mono ?_);rintro e20 w20 ⟨v20,rfl,h20,hb20⟩;have l20:=hb20.size;(try simp at l20);have TT20:Below W9.heap.size W9 w20:=(by with_reducible (repeat (first|exact Below.refl _ _|refine ua ?_|refine ud ?_|refine ut ?_ hb17|refine ut ?_ hb18|refine ut ?_ hb20|refine us ?_ (by omega))));have ll20:=TT20.size;have hU20:Below W9.heap.size W9 w20:=(by with_reducible (repeat (first|exact Below.refl _ _|refine ua ?_|refine ud ?_|refine ut ?_ hb17|refine ut ?_ hb18|refine ut ?_ hb20|refine us ?_ (by omega))));have Z20:=R9.below hU20;have Z20_k:=Z20.g4;obtain⟨sa,Aa,ka,ca,sb,Ab,kb,cb,rfl⟩:=h20.form))
      all_goals (
       go_wp2_with fail;replace hb:=aB hb hU20;obtain⟨W6,eW6,Z20,hb,hk,ff⟩:=Z20.put4 hb (by omega) (.bool sa) (.slice Aa ka ca) (.bool sb) (.slice Ab kb cb) rfl rfl;replace h20:=h20.keep hk;rw[eW6];clear eW6;replace cM:=Z20.k4;exact bodyPost_ret (v:= .agg #[.bool sa,.slice Aa ka ca,.bool sb,.slice Ab kb cb]) (by simp[results,Tryz.results84,go_sem,Z20.k4]) rfl ⟨_,rfl,h20,hb⟩
      )
theorem V9 (x y:Rat) (vx vy:Value) (w:World) (hG:Glob w) (hx:RatAt w vx x) (hy:RatAt w vy y) (K:Nat) (bx:RL K x) (bY:RL K y) (hK:10*K+20≤aF):
  Calls Tryz.prog 84 #[vx,vy] w (eV w (x*y)):=by
 by_cases h1:x.den=1∧y.den=1
 ·have e1:x=(x.num:Rat):=Rat.ext (by simp) (by simp[h1.1]);have e2:y=(y.num:Rat):=Rat.ext (by simp) (by simp[h1.2]);have:=xX x.num y.num vx vy w (by rw[←e1];exact hx) (by rw[←e2];exact hy) (by have:=bx.1;have:=bY.1;unfold aF at hK;omega);rwa [Rat.intCast_mul,←e1,←e2] at this
 ·exact V8 x y vx vy w hG hx hy h1 K bx bY hK
theorem UT (a b:List (List UInt8)) (va vb:Value) (w:World) (hG:Glob w) (ha:StrsAt w va a) (hb':StrsAt w vb b) (hla:a.length≤1073741824) (hlb:b.length≤1073741824) (K:Nat)
  (hca:a.length≤65→∀l∈a,l.length≤1073741824) (hcb:b.length≤65→∀l∈b,l.length≤1073741824) (hKa:a.length≤65→∀q∈aE a,RL K q) (hKb:b.length≤65→∀q∈aE b,RL K q) (hK1:1≤K) (hK:2*K+1≤1073741824):
  Calls Tryz.prog 33 #[va,vb] w (RetOp w (fun x y=>x-y) a b):=by
 obtain⟨A,c,rfl,hc⟩:=ha.form;obtain⟨A',c',rfl,hc'⟩:=hb'.form;have hcm:=I0 83 (.inr rfl) (fun x y=>x-y) a b _ _ w hG ha hb' hla hlb K hca hcb hKa hKb hK1 hK (fun x y kx ky=>bV (zZ kx ky) (by omega)) (fun x y v u W hG h h' kx ky=>V5 x y v u W hG h h' K kx ky (by unfold aF;omega));go_enter Tryz.func33,Tryz.ntmps33;go_wp2_with fail;refine hcm.mono ?_;rintro e5 w5 h5;obtain⟨v5,n5,rfl,h5⟩:=h5.form;go_wp2_with fail;go_ret2;exact h5
def mO (w:World) (c:List UInt8) (a:List (List UInt8)) (e:Ending) (w':World):Prop:=
 if vl a=true∧rd c=true then dW w (aH aG ((aE a).map (·*(aR c).getD 0))) e w' else∃v',e= .returned (.tuple #[v',.int .i64 1])∧StrsAt w' v' []∧Below w.heap.size w w'
theorem UU (c:List UInt8) (a:List (List UInt8)) (va:Value) (w:World) (hG:Glob w) (ha:StrsAt w va a) (hcl:c.length≤1073741824) (hla:a.length≤1024) (hca:∀l∈a,l.length≤1073741824) (K:Nat) (hKa:∀q∈aE a,RL K q) (kc:RL K ((aR c).getD 0)) (hK:K≤1048576):
  Calls Tryz.prog 34 #[.string ⟨c.toArray⟩,va] w (mO w c a):=by
 obtain⟨A,ca,rfl,hc⟩:=ha.form;have hal:=dD a;go_enter Tryz.func34,Tryz.ntmps34;go_wp2_with fail;refine(EU c _ hG hcl).mono ?_;rintro e3 w3 ⟨v3,rfl,h3,hb3⟩;obtain⟨s3,A3,k3,c3,s4,A4,k4,c4,rfl⟩:=h3.form;have hrs:(aR c).isSome=rd c:=rfl;rw[hrs];obtain⟨w4,e4,hb4,P⟩:=bA w3 [.bool s3,.slice A3 k3 c3,.bool s4,.slice A4 k4 c4] 83;have hb:=aB hb3 hb4;replace h3:=h3.below hb4;have gP:w.heap.size≤w3.heap.size:=hb3.size;go_wp2_with fail;(try rw[e4]);clear e4;refine(yI a _ _ (hG.below hb) (ha.below hb) (by omega) (fun _=>hca)).mono ?_;rintro e5 w5 ⟨v5,rfl,h5,hb5⟩;have hpl:=P.lt;replace P:=P.below hb5;replace h3:=h3.below hb5;have hb0:=hb;replace hb:=aB hb hb5;cases hr:rd c with
 |false=>
  have HA:Hid (¬(vl a=true∧rd c=true)):=by unfold Hid;rw[hr];simp
  clear hr hrs h5;go_wp2_with fail;go_ret2;unfold mO;rw[if_neg HA.out];exact⟨_,rfl,StrsAt.nil _ _ _,hb⟩
 |true=>
  cases hva:vl a with
  |false=>
   have HA:Hid (¬(vl a=true∧rd c=true)):=by unfold Hid;rw[hva];simp
   clear hr hrs hva h5;go_wp2_with fail;go_ret2;unfold mO;rw[if_neg HA.out];exact⟨_,rfl,StrsAt.nil _ _ _,hb⟩
  |true=>
   have HA:Hid (vl a=true∧rd c=true):=⟨hva,hr⟩;obtain⟨g,rfl,hg,X⟩:=h5 hva;have l65:=(fD hva).1;have hg0:w.heap.size≤g:=Nat.le_trans hb0.size hg;have hgp:w3.heap.size≠g:=by omega
   have HZ:Hid (∀e w',dW w (aH aG ((aE a).map (·*(aR c).getD 0))) e w'→mO w c a e w'):=fun e w' h=>by unfold mO;rw[if_pos HA.out];exact h
   clear h5 hr hva hrs hb0 hpl hg;generalize (aR c).getD 0=f at *;generalize aE a=xs at *;have hzl:(xs.map (·*f)).length=a.length:=by rw[List.length_map];exact hal
   have HZG:Hid (∀j,j<a.length→(xs.map (·*f))[j]? =some (cf xs j*f)):=fun j hj=>by
    rw[List.getElem?_map,List.getElem?_eq_getElem (by omega),dO (by omega)];rfl
   have HXG:Hid (∀j,j<a.length→xs[j]? =some (cf xs j)):=fun j hj=>by rw[List.getElem?_eq_getElem (by omega),dO (by omega)]
   have HKX:Hid (∀j,j<a.length→RL K (cf xs j)):=fun j hj=>by rw[dO (by omega)];exact hKa _ (List.getElem_mem _)
   have HKZ:Hid (∀q∈xs.map (·*f),RL (2*K) q):=fun q hq=>by
    obtain⟨x,hx,rfl⟩:=List.mem_map.1 hq;exact bV (iB (hKa x hx) kc) (by omega)
   generalize xs.map (·*f)=zs at *;have HXL:=Lib.hid hal;have HZL:=Lib.hid hzl;clear hal hzl hKa;go_wp2_with fail;go_loopg [29] a.length (fun k i wr=>∃j,Hid (j+k=a.length)∧i= .int .i64 j∧OwnR wr g (zs.take j++xs.drop j)∧Bx wr w3.heap.size [.bool s3,.slice A3 k3 c3,.bool s4,.slice A4 k4 c4] 83∧RatAt wr (.agg #[.bool s3,.slice A3 k3 c3,.bool s4,.slice A4 k4 c4]) f∧Below w.heap.size w wr)
   case atStart=>exact⟨0,by unfold Hid;omega,rfl,by simpa using X,P,h3,hb⟩
   case round=>
    clear X P h3 hb;obtain⟨j,HJ,rfl,X,P,h3,hb⟩:=hrel;generalize wr=wx at *;have hj0:(0:Int)≤(j:Int):=by omega
    cases gk with
    |zero=>
     have hj:j=a.length:=HJ.out;subst hj;rw[List.take_of_length_le (by rw[HZL.out];exact Nat.le_refl _),List.drop_of_length_le (by rw[HXL.out];exact Nat.le_refl _),List.append_nil] at X;have hr:=X.rats a.length (by rw[HZL.out];exact Nat.le_refl _);rw[HZL.out] at hr;have hle:(aH aG zs).length≤65:=Nat.le_trans (cK aG zs) (by rw[HZL.out];exact l65);have HLE:=Lib.hid hle
     have hwr:Calls Tryz.prog 55 #[.slice (some ⟨g,0,none⟩) a.length a.length] wx (fun e w'=>∃v',e= .returned (.tuple #[v',.int .i64 0])∧StrsAt w' v' ((aH aG zs).map aO)∧Below wx.heap.size wx w'):=
      (xS zs _ _ (hG.below hb) hr (2*K) HKZ.out (by omega) (by rw[HZL.out];omega)).mono (fun e w' h=>by
       obtain⟨v',he,hs,hb⟩:=h;rw[if_pos hle] at he hs;exact⟨v',he,hs,hb⟩)
     clear hle hr X;go_wp2_with fail;refine hwr.mono ?_;rintro e5 w5 ⟨v5,rfl,h5,hb5⟩;go_wp2_with fail;go_ret2;refine HZ.out _ _ ?_;unfold dW;rw[if_pos HLE.out,if_pos HLE.out];exact⟨_,rfl,h5,aB hb hb5⟩
    |succ k=>
     have hjM:j<a.length:=by have:=HJ.out;omega
     have hj1:(j:Int)<(a.length:Int):=by omega
     have hlz:xs.length=zs.length:=by rw[HXL.out,HZL.out]
     have htg:=rS (ys:=zs) (xs:=xs) (j:=j) (by rw[HXL.out];exact hjM) hlz;have htl:=rT (j:=j) hlz;have hts:=rR (xs:=xs) (ys:=zs) (y:=cf xs j*f) (j:=j) (HZG.out j hjM) hlz;rw[HXG.out j hjM] at htg;have hgx:j<(zs.take j++xs.drop j).length:=by rw[htl,HXL.out];exact hjM
     obtain⟨s,B,l,d,s',B',l',d',p0,p1,p2,p3,hx⟩:=X.at_ htg;have bx:=HKX.out j hjM;have fX:=X.free;have cP:=P.k4;have HTS:=Lib.hid hts;have hGx:=hG.below hb;generalize cf xs j=x at *;have hmul:=fun v u W hG h h'=>V9 x f v u W hG h h' K bx kc (by unfold aF;omega);generalize x*f=y at *;clear htg htl hts hlz;go_wp2_with fail
     go_region_with (first
      |(go_at_call 84;(with_reducible refine(hmul _ _ _ hGx.up hx.up h3.up).mono ?_);rintro e6 w6 ⟨v6,rfl,h6,hb6⟩;obtain⟨s6,A6,k6,c6,s7,A7,k7,c7,rfl⟩:=h6.form;have:=St.mk hb6;have X6:=X.below (Up.out (a:=wx) (b:=w6));have P6:=P.up (b:=w6);have z3:=h3.up (b:=w6);have b6:=mL (b:=w6) hb;obtain⟨_,_,_,_,_,_,_,_,g0,g1,g2,g3, -⟩:=X6.at_ (List.getElem?_eq_getElem hgx);have f6:=X6.free))
     all_goals (
      go_wp2_with fail;obtain⟨zX,hst⟩:=X6.stored hgx h6;rw[HTS.out] at zX;have zP:Bx _ w3.heap.size [.bool s3,.slice A3 k3 c3,.bool s4,.slice A4 k4 c4] 83:=(hst.2.1 w3.heap.size hgp).trans P6;have zb:=dE b6 hst hg0;go_roundg k
      case rel=>exact⟨j+1,by have:=HJ.out;unfold Hid;omega,by go_num,zX,zP,z3.keep hst.1,zb⟩
      case measure=>omega)
theorem IR:aR [49]=some 1:=by
 have e:aO 1=[49]:=by
  show(if (1:Int)<0 then [45] else [])++Lib.decDigits 1++(if 1=1 then [] else _)=_
  rw[decDigits_one];rfl
 rw[←e];exact xH 1
theorem IS:aR [45,49]=some (-1):=by
 have e:aO (-1)=[45,49]:=by
  show(if (-1:Int)<0 then [45] else [])++Lib.decDigits 1++(if 1=1 then [] else _)=_
  rw[decDigits_one];rfl
 rw[←e];exact xH (-1)
theorem IT {op:Rat→Rat→Rat} (h:op 0 0=0) (a b:List Rat) (i:Nat):cf (gD op a b) i=op (cf a i) (cf b i):=by
 by_cases hi:i<max a.length b.length
 ·exact oW (H8 op a b hi)
 ·rw[aP (by rw[AC];omega),aP (l:=a) (by omega),aP (l:=b) (by omega),h]
section
variable (a b:List (List UInt8)) (hl:a.length≤64) (hl':b.length≤64) (hll:∀l∈a,l.length≤1073741824) (hll':∀l∈b,l.length≤1073741824) (hK:∀q∈aE a,RL 1 q) (hK':∀q∈aE b,RL 1 q)
include hl hl' hll hll' hK hK'
theorem AX (F:Nat) (op:Rat→Rat→Rat) (c:List UInt8) (q:Rat) (hc:aR c=some q) (hcl:c.length≤18) (h0:op 0 0=0) (ho:∀x y,op x y=x+q*y) (hF:∀W v u,Glob W→StrsAt W v a→StrsAt W u b→Calls Tryz.prog F #[v,u] W (RetOp W op a b)):
  ∃L e,L.length≤1099511627776∧(∀W v u,Glob W→StrsAt W v a→StrsAt W u b→Calls Tryz.prog F #[v,u] W (gY W L e))∧∀W v u,StrsAt W v a→StrsAt W u b→Calls Tryz.prog 32 #[v,.string ⟨c.toArray⟩,u] W (gY W L e):=by
 have kq:RL 1 q:=yE hc hcl;have hr:=fun W v u h h'=>FM a b v u W h h' (by omega) (by omega) hll hll' 1 hK hK' (by decide) (by decide) c (by omega) (by rw[hc];exact kq);have hal:=dD a;have hbl:=dD b;by_cases h:vl a=true∧vl b=true
 ·have hT:aH aG (dL (aE a) q (aE b))=aH aG (gD op (aE a) (aE b)):=iJ (fC _) (fC _) (fun i=>by rw[dS,dS,oG,IT h0,ho]);have e1:∀W,RetOp W op a b=dW W (aH aG (gD op (aE a) (aE b))):=fun W=>by funext e w';unfold RetOp;rw[if_pos h]
  have e2:∀W,jD W a c b=dW W (aH aG (gD op (aE a) (aE b))):=fun W=>by
   unfold jD;rw[if_pos ⟨h.1,h.2,by unfold rd;rw[hc];rfl⟩,hc];show dW W (aH aG (dL (aE a) q (aE b)))=_
   rw[hT]
  have htl:=cK aG (gD op (aE a) (aE b));rw[AC] at htl;simp only[e1] at hF;simp only[e2] at hr;exact⟨if (aH aG (gD op (aE a) (aE b))).length≤65 then (aH aG (gD op (aE a) (aE b))).map aO else [],_,by split<;>simp<;>omega,hF,hr⟩
 ·have e1:∀W,RetOp W op a b=gY W [] 1:=fun W=>by funext e w';unfold RetOp;rw[if_neg h];rfl
  have e2:∀W,jD W a c b=gY W [] 1:=fun W=>by unfold jD;rw[if_neg (fun h'=>h ⟨h'.1,h'.2.1⟩)]
  simp only[e1] at hF;simp only[e2] at hr;exact⟨[],1,by simp,hF,hr⟩
theorem IU:∃L e,L.length≤1099511627776∧(∀W v u,Glob W→StrsAt W v a→StrsAt W u b→Calls Tryz.prog 16 #[v,u] W (gY W L e))∧∀W v u,StrsAt W v a→StrsAt W u b→Calls Tryz.prog 35 #[v,u] W (gY W L e):=by
 have hp:=fun W v u hG h h'=>OH a b v u W hG h h' (by omega) (by omega) 1 (fun _=>hll) (fun _=>hll') (fun _=>hK) (fun _=>hK') (by decide);have hr:=fun W v u h h'=>RT a b v u W h h' (by omega) (by omega) hll hll' 1 hK hK' (by decide) (by decide);have hal:=dD a;have hbl:=dD b;by_cases h:vl a=true∧vl b=true
 ·have e1:∀W,jT W a b=dW W (aH aG (bB (aE a) (aE b))):=fun W=>by funext e w';unfold jT;rw[if_pos h]
  have htl:=cK aG (bB (aE a) (aE b));have htm:(bB (aE a) (aE b)).length≤a.length+b.length:=by unfold bB;split<;>simp;omega
  simp only[e1] at hp hr;exact⟨if (aH aG (bB (aE a) (aE b))).length≤65 then (aH aG (bB (aE a) (aE b))).map aO else [],_,by split<;>simp<;>omega,hp,hr⟩
 ·have e1:∀W,jT W a b=gY W [] 1:=fun W=>by funext e w';unfold jT;rw[if_neg h];rfl
  simp only[e1] at hp hr;exact⟨[],1,by simp,hp,hr⟩
omit hl' hll' hK' in
theorem IV (c:List UInt8) (hcl:c.length≤18):∃L e,L.length≤1099511627776∧(∀W v,Glob W→StrsAt W v a→Calls Tryz.prog 34 #[.string ⟨c.toArray⟩,v] W (gY W L e))∧∀W v,StrsAt W v a→Calls Tryz.prog 32 #[.slice none 0 0,.string ⟨c.toArray⟩,v] W (gY W L e):=by
 have kc:RL 1 ((aR c).getD 0):=by
  cases hr:aR c with
  |none=>exact eO (Nat.le_refl 1)
  |some q=>exact yE hr hcl
 have hp:=fun W v hG h=>UU c a v W hG h (by omega) (by omega) hll 1 hK kc (by decide);have hr:=fun W v h=>FM [] a (.slice none 0 0) v W (StrsAt.nil _ _ _) h (by simp) (by omega) (fun l hl=>by cases hl) hll 1 (fun q hq=>by cases hq) hK (by decide) (by decide) c (by omega) kc;have hal:=dD a;by_cases h:vl a=true∧rd c=true
 ·have hT:aH aG (dL (aE []) ((aR c).getD 0) (aE a))=aH aG ((aE a).map (·*(aR c).getD 0)):=iJ (fC _) (fC _) (fun i=>by
   rw[dS,dS,oG,nY (fun x=>x*(aR c).getD 0) (Rat.zero_mul _),show aE []=[] from rfl,bS,Rat.zero_add,Rat.mul_comm])
  have e1:∀W,mO W c a=dW W (aH aG ((aE a).map (·*(aR c).getD 0))):=fun W=>by funext e w';unfold mO;rw[if_pos h]
  have e2:∀W,jD W [] c a=dW W (aH aG ((aE a).map (·*(aR c).getD 0))):=fun W=>by unfold jD;rw[if_pos ⟨FW,h.1,h.2⟩,hT]
  have htl:=cK aG ((aE a).map (·*(aR c).getD 0));rw[List.length_map] at htl;simp only[e1] at hp;simp only[e2] at hr;exact⟨if (aH aG ((aE a).map (·*(aR c).getD 0))).length≤65 then (aH aG ((aE a).map (·*(aR c).getD 0))).map aO else [],_,by split<;>simp<;>omega,hp,hr⟩
 ·have e1:∀W,mO W c a=gY W [] 1:=fun W=>by funext e w';unfold mO;rw[if_neg h];rfl
  have e2:∀W,jD W [] c a=gY W [] 1:=fun W=>by unfold jD;rw[if_neg (fun h'=>h ⟨h'.2.1,h'.2.2⟩)]
  simp only[e1] at hp;simp only[e2] at hr;exact⟨[],1,by simp,hp,hr⟩
end
theorem IW {a b:List (List UInt8)} {Q R Q' R':List Rat} {n n':Int} {K:Nat} (h1:¬(vl a=true∧vl b=true)→n=1∧Q=[]∧R=[]) (h2:vl a=true→vl b=true→b=[]→n=5∧Q=[]∧R=[]) (h3:vl a=true→vl b=true→b≠[]→n=0∧DivRes (aE a) (aE b) Q R K)
  (k1:¬(vl a=true∧vl b=true)→n'=1∧Q'=[]∧R'=[]) (k2:vl a=true→vl b=true→b=[]→n'=5∧Q'=[]∧R'=[]) (k3:vl a=true→vl b=true→b≠[]→n'=0∧DivQ (aE a) (aE b) Q' R'):n'=n∧Q'=Q∧R'=R∧Q.length≤a.length∧R.length≤b.length:=by
 by_cases h:vl a=true∧vl b=true
 ·by_cases hb:b=[]
  ·obtain⟨rfl,rfl,rfl⟩:=h2 h.1 h.2 hb;obtain⟨rfl,rfl,rfl⟩:=k2 h.1 h.2 hb;exact⟨rfl,rfl,rfl,Nat.zero_le _,Nat.zero_le _⟩
  ·obtain⟨rfl,hD⟩:=h3 h.1 h.2 hb;obtain⟨rfl,hD'⟩:=k3 h.1 h.2 hb;have hbl:=dD b;have h0:b.length≠0:=fun e=>hb (List.eq_nil_of_length_eq_zero e);have hne:aE b≠[]:=fun e=>h0 (by rw[←hbl,e];rfl);obtain⟨rfl,rfl⟩:=hD'.unique hD.divQ ((cZ hne).1 (fD h.2).2.2) (by omega);exact⟨rfl,rfl,rfl,by rw[←dD a];exact hD.q_len,by rw[←hbl];exact Nat.le_of_lt hD.r_lt⟩
 ·obtain⟨rfl,rfl,rfl⟩:=h1 h;obtain⟨rfl,rfl,rfl⟩:=k1 h;exact⟨rfl,rfl,rfl,Nat.zero_le _,Nat.zero_le _⟩
theorem IX (a b:List (List UInt8)) (x:List UInt8) (va vb:Value) (w:World) (hG:Glob w) (ha:StrsAt w va a) (hb':StrsAt w vb b) (hca:∀l∈a,l.length≤9223372036854775807) (hcb:∀l∈b,l.length≤9223372036854775807) (hcx:x.length≤9223372036854775807):
  Calls Tryz.prog 7 #[va,vb,.string ⟨x.toArray⟩] w fun e w'=>e= .returned (.bool true)∧Below w.heap.size w w':=by
 obtain⟨A,c,rfl,hc⟩:=ha.form;obtain⟨A',c',rfl,hc'⟩:=hb'.form;have hp:=FK ha hb' 22;have hxz:(⟨x.toArray⟩:ByteArray).size=x.length:=by simp[ByteArray.size]
 have hb:Below w.heap.size w (w.alloc (.cells #[.slice A a.length c,.slice A' b.length c'] 22)):=(Below.refl _ _).alloc (Nat.le_refl _) _
 have hsm:=fun W v (hp:uD W v [a,b])=>show Calls Tryz.prog 8 #[.int .i64 40,.int .i64 8,v] W fun e w'=>e= .returned (.bool (iN 40 8 [a,b]))∧W=w' from FI 40 8 [a,b] v W hp (by decide) (by decide) (by show 2≤1073741824;decide) (fun p hp=>by
  simp only[List.mem_cons,List.not_mem_nil,or_false] at hp;rcases hp with rfl|rfl
  ·exact hca
  ·exact hcb)
 clear hca hcb;go_enter Tryz.func7,Tryz.ntmps7;go_wp2_with fail;replace ha:=ha.below hb;replace hb':=hb'.below hb;generalize w.alloc (.cells #[.slice A a.length c,.slice A' b.length c'] 22)=W at *;refine(hsm _ _ hp).mono ?_;rintro e1 w1 ⟨rfl,rfl⟩;clear hsm hp;cases hs:iN 40 8 [a,b] with
 |false=>
  clear hs;go_wp2_with fail;refine(mP _ (hG.below hb)).mono ?_;rintro e9 w9 ⟨rfl,hb9⟩;go_wp2_with fail;go_ret;exact⟨rfl,aB hb hb9⟩
 |true=>
  by_cases hx6:x.length≤12
  ·have r0:¬(12:Int)<(x.length:Int):=by omega
   obtain⟨la,sa⟩:=uE hs (p:=a) (by simp);obtain⟨lb,sb⟩:=uE hs (p:=b) (by simp);have hll:∀l∈a,l.length≤1073741824:=fun l hl=>Nat.le_trans (sa l hl) (by decide);have hll':∀l∈b,l.length≤1073741824:=fun l hl=>Nat.le_trans (sb l hl) (by decide);have hK:∀q∈aE a,RL 1 q:=fU (fun l hl=>Nat.le_trans (sa l hl) (by decide));have hK':∀q∈aE b,RL 1 q:=fU (fun l hl=>Nat.le_trans (sb l hl) (by decide));obtain⟨L1,c1,l1,p1,r1⟩:=AX a b (by omega) (by omega) hll hll' hK hK' 31 (fun x y=>x+y) [49] 1 IR (by decide) (by grind) (fun x y=>by grind) (fun W v u hG h h'=>UV a b v u W hG h h' (by omega) (by omega) 1 (fun _=>hll) (fun _=>hll') (fun _=>hK) (fun _=>hK') (by decide) (by decide));obtain⟨L2,c2,l2,p2,r2⟩:=AX a b (by omega) (by omega) hll hll' hK hK' 33 (fun x y=>x-y) [45,49] (-1) IS (by decide) (by grind) (fun x y=>by grind) (fun W v u hG h h'=>UT a b v u W hG h h' (by omega) (by omega) 1 (fun _=>hll) (fun _=>hll') (fun _=>hK) (fun _=>hK') (by decide) (by decide));obtain⟨L3,c3,l3,p3,r3⟩:=IV a (by omega) hll hK x (by omega);obtain⟨L4,c4,l4,p4,r4⟩:=IU a b (by omega) (by omega) hll hll' hK hK';have p5:=fun (hA:a.length≤12) (hB:b.length≤12) W v u hG h h'=>FE a b v u W hG h h' (by omega) (by omega) 1 (fun _=>hll) (fun _=>hll') (fun _=>hK) (fun _=>hK') 12 300 400 (fun _=>hA) (fun _=>hB) (by decide) (by decide) (by decide) (by decide);have r5:=fun (hA:a.length≤12) W v u h h'=>RV a b v u W h h' (by omega) (by omega) hll hll' 1 hK hK' (by decide) (by decide) (by omega) (by decide);clear hs sa sb hll hll' hK hK' hx6;go_wp2_with fail;refine(p1 _ _ _ (hG.below hb) ha hb').mono ?_;rintro e2 w2 ⟨v2,rfl,h2,hb2⟩;replace ha:=ha.below hb2;replace hb':=hb'.below hb2;replace hb:=aB hb hb2;go_wp2_with fail;refine(r1 _ _ _ ha hb').mono ?_;rintro e3 w3 ⟨v3,rfl,h3,hb3⟩;replace ha:=ha.below hb3;replace hb':=hb'.below hb3;replace h2:=h2.below hb3;replace hb:=aB hb hb3;go_wp2_with fail;refine(p2 _ _ _ (hG.below hb) ha hb').mono ?_;rintro e4 w4 ⟨v4,rfl,h4,hb4⟩;replace ha:=ha.below hb4;replace hb':=hb'.below hb4;replace h2:=h2.below hb4;replace h3:=h3.below hb4;replace hb:=aB hb hb4;go_wp2_with fail;refine(r2 _ _ _ ha hb').mono ?_;rintro e5 w5 ⟨v5,rfl,h5,hb5⟩;replace ha:=ha.below hb5;replace hb':=hb'.below hb5;replace h2:=h2.below hb5;replace h3:=h3.below hb5;replace h4:=h4.below hb5;replace hb:=aB hb hb5;go_wp2_with fail;refine(p3 _ _ (hG.below hb) ha).mono ?_;rintro e6 w6 ⟨v6,rfl,h6,hb6⟩;replace ha:=ha.below hb6;replace hb':=hb'.below hb6;replace h2:=h2.below hb6;replace h3:=h3.below hb6;replace h4:=h4.below hb6;replace h5:=h5.below hb6;replace hb:=aB hb hb6;go_wp2_with fail;refine(r3 _ _ ha).mono ?_;rintro e7 w7 ⟨v7,rfl,h7,hb7⟩;replace ha:=ha.below hb7;replace hb':=hb'.below hb7;replace h2:=h2.below hb7;replace h3:=h3.below hb7;replace h4:=h4.below hb7;replace h5:=h5.below hb7;replace h6:=h6.below hb7;replace hb:=aB hb hb7;clear p1 r1 p2 r2 p3 r3;go_wp2_with fail;refine(fW L1 _ _ _ h2 h3 l1).mono ?_;rintro e8 w8 ⟨rfl,hb8⟩;replace ha:=ha.below hb8;replace hb':=hb'.below hb8;replace h4:=h4.below hb8;replace h5:=h5.below hb8;replace h6:=h6.below hb8;replace h7:=h7.below hb8;replace hb:=aB hb hb8;go_wp2_with fail;refine(fW L2 _ _ _ h4 h5 l2).mono ?_;rintro e9 w9 ⟨rfl,hb9⟩;replace ha:=ha.below hb9;replace hb':=hb'.below hb9;replace h6:=h6.below hb9;replace h7:=h7.below hb9;replace hb:=aB hb hb9;go_wp2_with fail;refine(fW L3 _ _ _ h6 h7 l3).mono ?_;rintro e10 w10 ⟨rfl,hb10⟩;replace ha:=ha.below hb10;replace hb':=hb'.below hb10;replace hb:=aB hb hb10;go_wp2_with fail;refine(p4 _ _ _ (hG.below hb) ha hb').mono ?_;rintro e11 w11 ⟨v11,rfl,h11,hb11⟩;replace ha:=ha.below hb11;replace hb':=hb'.below hb11;replace hb:=aB hb hb11;go_wp2_with fail;refine(r4 _ _ _ ha hb').mono ?_;rintro e12 w12 ⟨v12,rfl,h12,hb12⟩;replace ha:=ha.below hb12;replace hb':=hb'.below hb12;replace h11:=h11.below hb12;replace hb:=aB hb hb12;clear p4 r4;go_wp2_with fail;refine(fW L4 _ _ _ h11 h12 l4).mono ?_;rintro e13 w13 ⟨rfl,hb13⟩;replace ha:=ha.below hb13;replace hb':=hb'.below hb13;replace hb:=aB hb hb13;by_cases hA:a.length≤12
   ·have q0:¬(12:Int)<(a.length:Int):=by omega
    by_cases hB:b.length≤12
    ·have q1:¬(12:Int)<(b.length:Int):=by omega
     replace p5:=p5 hA hB;replace r5:=r5 hA;clear hA hB;go_wp2_with fail;refine(p5 _ _ _ (hG.below hb) ha hb').mono ?_;rintro e14 w14 ⟨v14,u14,n14,Q,R,rfl,h14,i14,hb14,t1,t2,t3⟩;replace ha:=ha.below hb14;replace hb':=hb'.below hb14;replace hb:=aB hb hb14;clear p5;have HT:Hid (_∧_∧_):=⟨t1,t2,t3⟩;clear t1 t2 t3;go_wp2_with fail;refine(r5 _ _ _ ha hb').mono ?_;rintro e15 w15 ⟨v15,u15,n15,Q',R',rfl,h15,i15,hb15,s1,s2,s3⟩;obtain⟨rfl,rfl,rfl,lq,lr⟩:=IW HT.out.1 HT.out.2.1 HT.out.2.2 s1 s2 s3;replace h14:=h14.below hb15;replace i14:=i14.below hb15;replace hb:=aB hb hb15;have lq':(Q'.map aO).length≤1099511627776:=by rw[List.length_map];omega
     have lr':(R'.map aO).length≤1099511627776:=by rw[List.length_map];omega
     clear r5 s1 s2 s3 HT ha hb' hb15;generalize Q'.map aO=L5 at *;generalize R'.map aO=L6 at *;go_wp2_with fail;refine(fW L5 _ _ _ h14 h15 lq').mono ?_;rintro e16 w16 ⟨rfl,hb16⟩;replace i14:=i14.below hb16;replace i15:=i15.below hb16;replace hb:=aB hb hb16;go_wp2_with fail;refine(fW L6 _ _ _ i14 i15 lr').mono ?_;rintro e17 w17 ⟨rfl,hb17⟩;replace hb:=aB hb hb17;go_wp2_with fail;refine(mP _ (hG.below hb)).mono ?_;rintro e9 w9 ⟨rfl,hb9⟩;go_wp2_with fail;go_ret;exact⟨rfl,aB hb hb9⟩
    ·have q1:(12:Int)<(b.length:Int):=by omega
     clear p5 r5 hA hB;go_wp2_with fail;refine(mP _ (hG.below hb)).mono ?_;rintro e9 w9 ⟨rfl,hb9⟩;go_wp2_with fail;go_ret;exact⟨rfl,aB hb hb9⟩
   ·have q0:(12:Int)<(a.length:Int):=by omega
    clear p5 r5 hA;go_wp2_with fail;refine(mP _ (hG.below hb)).mono ?_;rintro e9 w9 ⟨rfl,hb9⟩;go_wp2_with fail;go_ret;exact⟨rfl,aB hb hb9⟩
  ·have r0:(12:Int)<(x.length:Int):=by omega
   clear hs hx6;go_wp2_with fail;refine(mP _ (hG.below hb)).mono ?_;rintro e9 w9 ⟨rfl,hb9⟩;go_wp2_with fail;go_ret;exact⟨rfl,aB hb hb9⟩
end Go.Proofs.YtlojjipfnejbnaaGreatDoor
