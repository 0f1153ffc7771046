/-
  Contracts of functions that the statement reaches, and plain laws: SubA.
-/
import Derived.Test.YtlojjipfnejbnaaGreatDoorA19
import Derived.Test.YtlojjipfnejbnaaGreatDoorA29
import Derived.Test.YtlojjipfnejbnaaGreatDoorB30
set_option linter.unusedVariables false
set_option linter.unusedSimpArgs false
set_option maxHeartbeats 8000000
set_option maxRecDepth 100000
namespace Go.Proofs.YtlojjipfnejbnaaGreatDoor
open Go.RowKit Sos
theorem nl_small {x:Int} (h:x.natAbs<BN):nl x.natAbs≤1:=nl_le (by rw[Nat.pow_one];exact h)
theorem NatAt.unique {w:World} {u:Value} {a b:Nat} (ha:NatAt w u a) (hb:NatAt w u b):a=b:=by
 obtain⟨A,c,rfl,_,hr,_⟩:=ha
 obtain⟨A',c',e,_,hr',_⟩:=hb
 simp only[Value.slice.injEq] at e
 obtain⟨rfl,el,_⟩:=e
 have hd:dg a=dg b:=by
  refine List.ext_getElem? (fun i=> ?_)
  by_cases hi:i<nl a
  ·have hi':i<nl b:=by omega
   rcases hr with h|⟨g,off,rfl,_,hc⟩
   ·rw[←dg_len,h] at hi;simp at hi
   ·rcases hr' with h|⟨g',off',e',_,hc'⟩
    ·rw[←dg_len,h] at hi';simp at hi'
    ·simp only[Option.some.injEq,Addr.mk.injEq] at e'
     obtain⟨rfl,rfl,_⟩:=e'
     have h1:=hc i (by rw[dg_len];exact hi)
     have h2:=hc' i (by rw[dg_len];exact hi')
     rw[h1] at h2
     simp only[Option.some.injEq,Value.int.injEq,true_and] at h2
     rw[List.getElem?_eq_getElem (by rw[dg_len];exact hi),List.getElem?_eq_getElem (by rw[dg_len];exact hi')]
     rw[List.getD_eq_getElem?_getD,List.getD_eq_getElem?_getD,List.getElem?_eq_getElem (by rw[dg_len];exact hi),List.getElem?_eq_getElem (by rw[dg_len];exact hi')] at h2
     exact congrArg some h2
  ·rw[List.getElem?_eq_none (by rw[dg_len];omega),List.getElem?_eq_none (by rw[dg_len];omega)]
 have h1:=val_dg a
 have h2:=val_dg b
 rw[hd,h2] at h1
 omega
theorem IntAt.unique {w:World} {v:Value} {x y:Int} (hx:IntAt w v x) (hy:IntAt w v y):x=y:=by
 obtain⟨u,rfl,h1⟩:=hx
 obtain⟨u',e,h2⟩:=hy
 simp at e
 obtain⟨e1,rfl⟩:=e
 have:=h1.unique h2
 omega
theorem WholeAt.off {w:World} {A:Option Addr} {l c g:Nat} {x m:Int} {ns:List Int} (h:WholeAt w (.slice A l c) (x :: ns)) (hG:IntBx w g m) (hne:x≠m):∀b,A=some ⟨b,0,none⟩→b≠g:=fun b e eb=>by
 subst eb
 obtain⟨b',s,B,l',d,e',_,g0,g1,hi⟩:=h.at_ (i:=0) (n:=x) rfl
 rw[e] at e'
 simp only[Option.some.injEq,Addr.mk.injEq] at e'
 obtain⟨rfl,_⟩:=e'
 obtain⟨s',A',k',c',C,hi'⟩:=hG
 have h0:=C.cell 0 rfl
 have h1:=C.cell 1 rfl
 rw[Nat.zero_mul] at g0 g1
 rw[g0] at h0
 rw[g1] at h1
 injection h0 with h0
 injection h1 with h1
 rw[h0,h1] at hi
 exact hne (hi.unique hi')
theorem qop_any (g h:Int) (n:Nat) (vg vh:Value) (w:World) (hg:IntAt w vg g) (hh:IntAt w vh h) (h0:h≠0) (hn:n<BN) (hlim:20*(n*(nl g.natAbs+nl h.natAbs)+nl g.natAbs+nl h.natAbs+4)≤LIM):
  Calls Tryz.prog 168 #[vg,vh,.int .u64 n] w (RetInt w (if n=0 then h else (g^n).tdiv (h^(n-1)))):=by
 unfold LIM at hlim
 obtain⟨sg,Ag,kg,cg,rfl⟩:=hg.form
 obtain⟨sh,Ah,kh,ch,rfl⟩:=hh.form
 have X:Bx (((w.alloc (.cells #[.bool sg,.slice Ag kg cg] 53)).alloc (.cells #[.bool sh,.slice Ah kh ch] 53)).alloc (.cells #[.bool false,.slice none 0 0] 53)) (w.heap.size) [.bool sg,.slice Ag kg cg] 53:=((Bx.newAt w [.bool sg,.slice Ag kg cg] 53 (w.heap.size) (by simp)).alloc (.cells #[.bool sh,.slice Ah kh ch] 53)).alloc (.cells #[.bool false,.slice none 0 0] 53)
 have Y:Bx (((w.alloc (.cells #[.bool sg,.slice Ag kg cg] 53)).alloc (.cells #[.bool sh,.slice Ah kh ch] 53)).alloc (.cells #[.bool false,.slice none 0 0] 53)) (w.heap.size+1) [.bool sh,.slice Ah kh ch] 53:=(Bx.newAt (w.alloc (.cells #[.bool sg,.slice Ag kg cg] 53)) [.bool sh,.slice Ah kh ch] 53 (w.heap.size+1) (by simp)).alloc (.cells #[.bool false,.slice none 0 0] 53)
 have R:Bx (((w.alloc (.cells #[.bool sg,.slice Ag kg cg] 53)).alloc (.cells #[.bool sh,.slice Ah kh ch] 53)).alloc (.cells #[.bool false,.slice none 0 0] 53)) (w.heap.size+1+1) [.bool false,.slice none 0 0] 53:=Bx.newAt ((w.alloc (.cells #[.bool sg,.slice Ag kg cg] 53)).alloc (.cells #[.bool sh,.slice Ah kh ch] 53)) [.bool false,.slice none 0 0] 53 (w.heap.size+1+1) (by simp)
 have hb:Below w.heap.size w (((w.alloc (.cells #[.bool sg,.slice Ag kg cg] 53)).alloc (.cells #[.bool sh,.slice Ah kh ch] 53)).alloc (.cells #[.bool false,.slice none 0 0] 53)):=(((Below.refl _ _).alloc (by simp) _).alloc (by simp<;>omega) _).alloc (by simp<;>omega) _
 by_cases hn0:n=0
 ·subst hn0
  rw[if_pos rfl]
  go_enter Tryz.func168,Tryz.ntmps168
  go_wp2_with fail
  have hbR:=(((Below.refl w.heap.size w).alloc (Nat.le_refl _) (.cells #[.bool sg,.slice Ag kg cg] 53)).alloc (by simp) (.cells #[.bool sh,.slice Ah kh ch] 53)).alloc (by simp;omega) (.cells #[.bool sh,.slice Ah kh ch] 53)
  exact bodyPost_ret (v:= .agg #[.bool sh,.slice Ah kh ch]) (by simp[results,Tryz.results168,go_sem]) rfl ⟨_,rfl,hh.below hbR,hbR⟩
 ·have q0:((n:Int)==0)=false:=by rw[beq_eq_false_iff_ne];omega
  rw[if_neg hn0]
  obtain⟨m,hm⟩:∃m,n=m+1:=⟨n-1,by omega⟩
  have hmw:IntKind.u64.wrap ((n:Int)-1)=(m:Int):=by unfold BN at hn;rw[IntKind.wrap_u64];omega
  have e1:n-1=m:=by omega
  rw[e1]
  have b1:=nl_pow g.natAbs n
  have b2:=nl_pow h.natAbs m
  have b3:m*nl h.natAbs≤n*nl h.natAbs:=Nat.mul_le_mul_right _ (by omega)
  rw[Nat.mul_add n] at hlim
  have hpg:=fun W h1=>pow_any g n (.agg #[.bool sg,.slice Ag kg cg]) W h1 hn (by unfold LIM;omega)
  have hph:=fun W h1=>pow_any h m (.agg #[.bool sh,.slice Ah kh ch]) W h1 (by omega) (by unfold LIM;omega)
  have hqu:=fun W v u h1 h2=>quo_any (g^n) (h^m) v u W h1 h2 (Int.pow_ne_zero h0) (by rw[Int.natAbs_pow,Int.natAbs_pow];omega)
  clear b1 b2 b3 e1 hm hlim
  generalize g^n=G at *
  generalize h^m=H at *
  generalize G.tdiv H=Z at *
  replace hg:=hg.below hb
  replace hh:=hh.below hb
  go_enter Tryz.func168,Tryz.ntmps168
  go_wp2_with fail
  generalize ((w.alloc (.cells #[.bool sg,.slice Ag kg cg] 53)).alloc (.cells #[.bool sh,.slice Ah kh ch] 53)).alloc (.cells #[.bool false,.slice none 0 0] 53)=W at *
  replace hg:=hg.drew
  replace hh:=hh.drew
  replace X:=X.drew
  replace Y:=Y.drew
  replace R:=R.drew
  replace hb:=hb.drew
  replace cM:=aa X.k2 (aa Y.k2 R.g2)
  have n_R_X:w.heap.size+1+1≠w.heap.size:=by omega
  have n_R_Y:w.heap.size+1+1≠w.heap.size+1:=by omega
  go_region_held3 (fun w'=>C2 w' w.heap.size (.bool sg) (.slice Ag kg cg)∧C2 w' (w.heap.size+1) (.bool sh) (.slice Ah kh ch))
   (first|(with_reducible exact⟨X.k2,Y.k2⟩)|(refine⟨?_,?_⟩<;>(repeat (first|with_reducible exact X.k2|with_reducible exact Y.k2|with_reducible refine kf2 n_R_X ?_|with_reducible refine kf2 n_R_Y ?_))))
   (first
    |(go_at_call 66;(with_reducible refine(hpg _ hg).mono ?_);rintro e1 w1 ⟨v1,rfl,h1,hb1⟩;obtain⟨s1,A1,k1,c1,rfl⟩:=h1.form;replace X:=X.below hb1;replace Y:=Y.below hb1;replace R:=R.below hb1;replace cM:=aa X.k2 (aa Y.k2 R.g2);replace hk:=Keep.below hb1;replace hg:=hg.keep hk;replace hh:=hh.keep hk;(try replace h2:=h2.keep hk);(try replace h3:=h3.keep hk);replace hb:=hb.trans (hb1.mono hb.size))
    |(go_at_call 66;(with_reducible refine(hph _ hh).mono ?_);rintro e2 w2 ⟨v2,rfl,h2,hb2⟩;obtain⟨s2,A2,k2,c2,rfl⟩:=h2.form;replace X:=X.below hb2;replace Y:=Y.below hb2;replace R:=R.below hb2;replace cM:=aa X.k2 (aa Y.k2 R.g2);replace hk:=Keep.below hb2;replace hg:=hg.keep hk;replace hh:=hh.keep hk;(try replace h1:=h1.keep hk);(try replace h3:=h3.keep hk);replace hb:=hb.trans (hb2.mono hb.size))
    |(go_at_call 112;(with_reducible refine(hqu _ _ _ h1 h2).mono ?_);rintro e3 w3 ⟨v3,rfl,h3,hb3⟩;obtain⟨s3,A3,k3,c3,rfl⟩:=h3.form;replace X:=X.below hb3;replace Y:=Y.below hb3;replace R:=R.below hb3;replace cM:=aa X.k2 (aa Y.k2 R.g2);replace hk:=Keep.below hb3;replace hg:=hg.keep hk;replace hh:=hh.keep hk;(try replace h1:=h1.keep hk);(try replace h2:=h2.keep hk);replace hb:=hb.trans (hb3.mono hb.size)))
  go_wp2_with fail
  obtain⟨W6,eW6,R,hb,hk,ff⟩:=R.put2 hb (by omega) (.bool s3) (.slice A3 k3 c3) rfl rfl
  replace X:=ff X (by omega)
  replace Y:=ff Y (by omega)
  replace h3:=h3.keep hk
  rw[eW6];clear eW6
  replace cM:=aa X.k2 (aa Y.k2 R.k2)
  exact bodyPost_ret (v:= .agg #[.bool s3,.slice A3 k3 c3]) (by simp[results,Tryz.results168,go_sem,R.k2]) rfl ⟨_,rfl,h3,hb⟩
theorem pq_ex1_b (K:Nat) (hK:1≤K):(∀n∈([-1,1]:List Int),nl n.natAbs≤K)∧(∀n∈([-3,1]:List Int),nl n.natAbs≤K)∧(∀n∈([2]:List Int),nl n.natAbs≤K):=by
 refine⟨fun n hn=> ?_,fun n hn=> ?_,fun n hn=> ?_⟩
 all_goals
  refine Nat.le_trans (nl_small ?_) hK
  simp at hn
  first
   |(rcases hn with rfl|rfl<;>decide)
   |(subst hn;decide)
def SubSt (k:Nat) (a b:List Int) (ng:Bool) (gI hI:Int):Prop:=
 (k=1∧a=[-1,1]∧b=[-3,1]∧ng=false∧gI=1∧hI=1)∨(k=0∧a=[-3,1]∧b=[2]∧ng=true∧gI=1∧hI=1)
theorem subres_ex (va vb:Value) (w:World) (ha:WholeAt w va [-1,1]) (hb':WholeAt w vb [-3,1]):
  Calls Tryz.prog 133 #[va,vb] w (RetInt w (-2)):=by
 obtain⟨A,c,rfl,hc⟩:=ha.form
 obtain⟨A',c',rfl,hc'⟩:=hb'.form
 obtain⟨ka,kb,k2'⟩:=pq_ex1_b 1 (Nat.le_refl _)
 obtain⟨W,eW,hb,R⟩:=box1 w [.bool false,.slice none 0 0] 53
 have cM:=R.g2
 go_enter Tryz.func133,Tryz.ntmps133
 go_wp2_with fail
 (try rw[eW]);clear eW
 with_reducible refine(new_any 1 _ (by decide) (by decide)).mono ?_
 rintro e1 w1 ⟨v1,rfl,h1,hb1⟩
 obtain⟨s1,A1,k1,c1,rfl⟩:=h1.form
 replace R:=R.below hb1
 replace cM:=R.g2
 replace hb:=hb.trans (hb1.mono hb.size)
 go_wp2_with fail
 with_reducible refine(new_any 1 _ (by decide) (by decide)).mono ?_
 rintro e2 w2 ⟨v2,rfl,h2,hb2⟩
 obtain⟨s2,A2,k2,c2,rfl⟩:=h2.form
 replace R:=R.below hb2
 replace cM:=R.g2
 replace hk:=Keep.below hb2
 replace h1:=h1.keep hk
 replace hb:=hb.trans (hb2.mono hb.size)
 go_wp2_with fail
 have R_l:=R.lt
 have hsz_:=hb.size
 obtain⟨W2,eW2,hA,G,H⟩:=box2 w2 [.bool s1,.slice A1 k1 c1] 53 [.bool s2,.slice A2 k2 c2] 53
 replace R:=R.below hA
 replace hk:=Keep.below hA
 replace hb:=hb.trans (hA.mono hb.size)
 replace h1:=h1.keep hk
 replace h2:=h2.keep hk
 rw[eW2];clear eW2
 replace cM:=aa R.k2 (aa G.k2 H.k2)
 have hG0:IntBx W2 w2.heap.size 1:=⟨_,_,_,_,G,h1⟩
 have hH0:IntBx W2 (w2.heap.size+1) 1:=⟨_,_,_,_,H,h2⟩
 have hg6:w.heap.size<w2.heap.size:=by have:=R_l;omega
 clear G H h1 h2 hk cM
 generalize w2.heap.size=g6 at *
 have ha0:=ha.below hb
 have hb0:=hb'.below hb
 clear ha hb'
 go_loopg [0,1,5] 1 (fun k va vb vn wr=>∃a b ng gI hI A c A' c',va= .slice A a.length c∧vb= .slice A' b.length c'∧vn= .bool ng∧WholeAt wr (.slice A a.length c) a∧WholeAt wr (.slice A' b.length c') b∧IntBx wr g6 gI∧IntBx wr (g6+1) hI∧Bx wr w.heap.size [.bool false,.slice none 0 0] 53∧Hid (SubSt k a b ng gI hI)∧Below w.heap.size w wr)
 case atStart=>exact⟨[-1,1],[-3,1],false,1,1,A,c,A',c',rfl,rfl,rfl,ha0,hb0,hG0,hH0,R,.inl ⟨rfl,rfl,rfl,rfl,rfl,rfl⟩,hb⟩
 case round=>
  clear ha0 hb0 hG0 hH0 R hb hc hc'
  obtain⟨a,b,ng,gI,hI,A,c,A',c',rfl,rfl,rfl,ha,hbb,hG,hH,R,HS,hb⟩:=hrel
  generalize wr=wy at *
  rcases HS.out with ⟨e0,e1,e2,e3,e4,e5⟩|⟨e0,e1,e2,e3,e4,e5⟩
  ·subst e0;subst e1;subst e2;subst e3;subst e4;subst e5
   have hdg:∀(B:Option Addr) (d:Nat) (W:World),Calls Tryz.prog 41 #[.slice B 2 d] W fun e w'=>e= .returned (.int .i64 1)∧W=w':=fun B d W=>(degree_any 2 d B W (by decide)).mono (fun e w' h=>⟨h.1,h.2.symm⟩)
   have hpq:=fun W h1 h2=>pqr_whole [-1,1] [-3,1] (.slice A 2 c) (.slice A' 2 c') W h1 h2 (by decide) (trimmed_by rfl) (trimmed_by rfl) 1 10 ka kb (by decide) (by decide) (by decide) (by decide) (by decide)
   unfold RetPQR at hpq
   go_wp2_with (go_at_call 41;(with_reducible refine(hdg _ _ _).mono ?_);rintro e w ⟨rfl,rfl⟩)
   with_reducible refine(hpq _ ha hbb).mono ?_
   rintro e5 w5 ⟨vq,vr,vm,q,r,m,rfl,hq,hr,hm,hres,hb5⟩
   obtain⟨rfl,rfl⟩:=pq_ex1 hres
   obtain⟨Aq,cq,rfl,hcq⟩:=hq.form
   obtain⟨Ar,cr,rfl,hcr⟩:=hr.form
   obtain⟨sm,Am,km,cm,rfl⟩:=hm.form
   have hbX:Below w5.heap.size w5 (w5.alloc (.cells #[.bool sm,.slice Am km cm] 53)):=(Below.refl _ _).alloc (Nat.le_refl _) _
   have M:=Bx.new w5 [.bool sm,.slice Am km cm] 53
   replace hbb:=(hbb.below hb5).below hbX
   replace hr:=hr.below hbX
   replace hm:=hm.below hbX
   replace hG:=(hG.below hb5).below hbX
   replace hH:=(hH.below hb5).below hbX
   replace R:=(R.below hb5).below hbX
   replace hb:=hb.trans (hb5.mono hb.size)
   replace hb:=hb.trans (hbX.mono hb.size)
   clear hpq hres hdg hq ha hb5
   go_upto_region 11 with fail
   clear hbX
   generalize w5.heap.size=gm at *
   generalize w5.alloc (.cells #[.bool sm,.slice Am km cm] 53)=w6 at *
   have hle:∀W,WholeAt W (.slice A' 2 c') [-3,1]→Calls Tryz.prog 75 #[.slice A' 2 c'] W (RetInt W 1):=fun W h=>lead_whole [-3,1] (.slice A' 2 c') W h (by decide) (by decide)
   have hw1:IntKind.u64.wrap 1=1:=by decide
   have n1:nl (1:Int).natAbs≤1:=nl_small (by decide)
   have hpw:∀W v,IntAt W v 1→Calls Tryz.prog 66 #[v,.int .u64 1] W (RetInt W 1):=fun W v h=>pow_any 1 1 v W h (by decide) (by unfold LIM;omega)
   have hqu:∀W v u,IntAt W v 1→IntAt W u 1→Calls Tryz.prog 112 #[v,u] W (RetInt W 1):=fun W v u h1 h2=>quo_any 1 1 v u W h1 h2 (by decide) (by omega)
   have M_ltw6:=M.lt
   go_cut [12] (fun s12 wx=>∃g12,s12= .pointer (some ⟨g12,0,none⟩)∧w6.heap.size≤g12∧IntBx wx g12 (1)∧Below w6.heap.size w6 wx)
   case first=>
    go_region_held3 (fun w'=>w'.cell? ⟨gm,0,none⟩=some (.bool sm)∧w'.cell? ⟨gm,1,none⟩=some (.slice Am km cm))
     (with_reducible exact⟨M.up.cell 0 rfl,M.up.cell 1 rfl⟩)
     (first
      |(go_at_call 75;(with_reducible refine(hle _ hbb.up).mono ?_);rintro e7 w7 ⟨v7,rfl,h7,hb7⟩;have l7:=hb7.size;(try simp at l7);have:=St.mk hb7;obtain⟨s7,A7,k7,c7,rfl⟩:=h7.form)
      |(go_at_call 66;(with_reducible refine(hpw _ _ h7.up).mono ?_);rintro e8 w8 ⟨v8,rfl,h8,hb8⟩;have l8:=hb8.size;(try simp at l8);have:=St.mk hb8;obtain⟨s8,A8,k8,c8,rfl⟩:=h8.form)
      |(go_at_call 112;(with_reducible refine(hqu _ _ _ h8.up hm.up).mono ?_);rintro e9 w9 ⟨v9,rfl,h9,hb9⟩;have l9:=hb9.size;(try simp at l9);have:=St.mk hb9;have TT9:=Up.out (a:=w6) (b:=w9);have ll9:=TT9.size;have h7z:=h7.up (b:=w9);have h8z:=h8.up (b:=w9);(try (have D7_0:=(Bx.newAt w6 [.bool false,.slice none 0 0] 53 (w6.heap.size) rfl).up (b:=w9);have D7_0_k:=Bx.g2 D7_0));(try (have D8_0:=(Bx.newAt w7 [.bool false,.slice none 0 0] 53 (w7.heap.size) rfl).up (b:=w9);have D8_0_k:=Bx.g2 D8_0));(try (have D9_0:=(Bx.newAt w8 [.bool false,.slice none 0 0] 53 (w8.heap.size) rfl).up (b:=w9);have D9_0_k:=Bx.g2 D9_0));obtain⟨s9,A9,k9,c9,rfl⟩:=h9.form))
    all_goals (
     go_wp2_with fail
     go_meet
     refine⟨_,rfl,by omega,?_⟩
     first|(with_reducible exact late1 h9 TT9)|(with_reducible exact early1 (zb D7_0) h9 TT9 (by omega))|(with_reducible exact early1 (zb D8_0) h9 TT9 (by omega))|(with_reducible exact early1 (zb D9_0) h9 TT9 (by omega)))
   case rest=>
    obtain⟨gf,rfl,hgf,hF,hbf⟩:=hcut
    have hMl:=M.lt
    replace hbb:=hbb.below hbf
    replace hr:=hr.below hbf
    replace hG:=hG.below hbf
    replace hH:=hH.below hbf
    replace R:=R.below hbf
    replace hb:=hb.trans (hbf.mono hb.size)
    clear hle hpw hqu M hm hbf
    have hsc:∀W u,WholeAt W (.slice Ar 1 cr) [2]→IntAt W u 1→Calls Tryz.prog 77 #[.slice Ar 1 cr,u] W fun e w'=>∃v',e= .returned v'∧WholeAt w' v' [2]∧Below W.heap.size W w':=fun W u h1 h2=>scale_whole [2] 1 (.slice Ar 1 cr) u W h1 h2 1 k2' n1 (by decide) (by decide)
    have hp0:∀W v,IntAt W v 1→Calls Tryz.prog 66 #[v,.int .u64 0] W (RetInt W 1):=fun W v h=>pow_any 1 0 v W h (by decide) (by unfold LIM;omega)
    have hmu:∀W v u,IntAt W v 1→IntAt W u 1→Calls Tryz.prog 46 #[v,u] W (RetInt W 1):=fun W v u h1 h2=>mul_any 1 1 v u W h1 h2 (by omega)
    have hdi:∀W v u,WholeAt W v [2]→IntAt W u 1→Calls Tryz.prog 126 #[v,u] W fun e w'=>∃v',e= .returned v'∧WholeAt w' v' [2]∧Below W.heap.size W w':=fun W v u h1 h2=>divide_whole [2] 1 v u W h1 h2 (fun _=>by decide) 1 k2' n1 (by unfold LIM;decide) (by decide)
    obtain⟨sf,Af,kf,cf',F,hFv⟩:=hF
    obtain⟨sg,Ag,kg,cg,G,hGv⟩:=id hG
    obtain⟨sh,Ah,kh,ch,H,hHv⟩:=id hH
    replace hr:=hr.drew
    replace hFv:=hFv.drew
    replace hGv:=hGv.drew
    replace hHv:=hHv.drew
    replace hbb:=hbb.drew
    replace hG:=hG.below (Below.refl _ _).drew
    replace hH:=hH.below (Below.refl _ _).drew
    replace R:=R.drew
    replace F:=F.drew
    replace G:=G.drew
    replace H:=H.drew
    replace hb:=hb.drew
    replace cM:=aa F.k2 (aa G.k2 H.k2)
    go_upto_region 12 with fail
    go_region_held3 (fun w'=>w'.cell? ⟨gf,0,none⟩=some (.bool sf)∧w'.cell? ⟨gf,1,none⟩=some (.slice Af kf cf')∧w'.cell? ⟨g6,0,none⟩=some (.bool sg)∧w'.cell? ⟨g6,1,none⟩=some (.slice Ag kg cg)∧w'.cell? ⟨g6+1,0,none⟩=some (.bool sh)∧w'.cell? ⟨g6+1,1,none⟩=some (.slice Ah kh ch))
     (with_reducible exact⟨F.cell 0 rfl,F.cell 1 rfl,G.cell 0 rfl,G.cell 1 rfl,H.cell 0 rfl,H.cell 1 rfl⟩)
     (first
      |(go_at_call 77;(with_reducible refine(hsc _ _ hr hFv).mono ?_);rintro eA wA ⟨vA,rfl,hA,hbA⟩;replace F:=F.below hbA;replace G:=G.below hbA;replace H:=H.below hbA;(try replace hGv:=hGv.below hbA);(try replace hHv:=hHv.below hbA);(try replace hbb:=hbb.below hbA);(try replace hG:=hG.below hbA);(try replace hH:=hH.below hbA);(try replace R:=R.below hbA);(try replace hB:=hB.below hbA);(try replace hC:=hC.below hbA);replace hb:=hb.trans (hbA.mono hb.size))
      |(go_at_call 66;(with_reducible refine(hp0 _ _ hHv).mono ?_);rintro eB wB ⟨vB,rfl,hB,hbB⟩;replace F:=F.below hbB;replace G:=G.below hbB;replace H:=H.below hbB;(try replace hGv:=hGv.below hbB);(try replace hr:=hr.below hbB);(try replace hFv:=hFv.below hbB);(try replace hbb:=hbb.below hbB);(try replace hG:=hG.below hbB);(try replace hH:=hH.below hbB);(try replace R:=R.below hbB);(try replace hA:=hA.below hbB);replace hb:=hb.trans (hbB.mono hb.size))
      |(go_at_call 46;(with_reducible refine(hmu _ _ _ hGv hB).mono ?_);rintro eC wC ⟨vC,rfl,hC,hbC⟩;replace F:=F.below hbC;replace G:=G.below hbC;replace H:=H.below hbC;(try replace hr:=hr.below hbC);(try replace hFv:=hFv.below hbC);(try replace hbb:=hbb.below hbC);(try replace hG:=hG.below hbC);(try replace hH:=hH.below hbC);(try replace R:=R.below hbC);(try replace hA:=hA.below hbC);replace hb:=hb.trans (hbC.mono hb.size))
      |(go_at_call 126;(with_reducible refine(hdi _ _ _ hA hC).mono ?_);rintro eE wE ⟨vE,rfl,hE,hbE⟩;replace F:=F.below hbE;replace G:=G.below hbE;replace H:=H.below hbE;(try replace hbb:=hbb.below hbE);(try replace hG:=hG.below hbE);(try replace hH:=hH.below hbE);(try replace R:=R.below hbE);replace hb:=hb.trans (hbE.mono hb.size)))
    obtain⟨AE,cE,rfl,hcE⟩:=hE.form
    obtain⟨sg',Ag',kg',cg',G',hGv'⟩:=id hG
    have G_0':=G'.cell 0 rfl
    have G_1':=G'.cell 1 rfl
    have hle:∀W,WholeAt W (.slice A' 2 c') [-3,1]→Calls Tryz.prog 75 #[.slice A' 2 c'] W (RetInt W 1):=fun W h=>lead_whole [-3,1] (.slice A' 2 c') W h (by decide) (by decide)
    clear F G H cM hsc hp0 hmu hdi hA hC hB
    go_wp2_with fail
    with_reducible refine(hle _ hbb).mono ?_
    rintro eL wL ⟨vL,rfl,hL,hbL⟩
    obtain⟨sL,AL,kL,cL,rfl⟩:=hL.form
    replace hbb:=hbb.below hbL
    replace hE:=hE.below hbL
    replace hG:=hG.below hbL
    replace hH:=hH.below hbL
    replace R:=R.below hbL
    replace G':=G'.below hbL
    replace hb:=hb.trans (hbL.mono hb.size)
    have G_0:=G'.cell 0 rfl
    have G_1:=G'.cell 1 rfl
    have G_f0:=G'.free 0
    have G_f1:=G'.free 1
    obtain⟨hG2,hst⟩:=IntBx.stored (m:=1) ⟨_,_,_,_,G',hGv'.below hbL⟩ hL
    have hH2:=hH.step hst (by omega)
    have R2:Bx _ w.heap.size [.bool false,.slice none 0 0] 53:=(hst.2.1 w.heap.size (by omega)).trans R
    have hbb2:=hbb.step hst (hbb.off hG (by decide))
    have hE2:=hE.step hst (hE.off hG (by decide))
    have hb2:=below_step hb hst (by omega)
    clear hst hH R hbb hE hb hG
    go_upto_region 14 with fail
    clear G' G_0 G_1 G_0' G_1' G_f0 G_f1 hGv' hL hle hbL
    generalize (wL.setCell ⟨g6,0,none⟩ (.bool sL)).setCell ⟨g6,1,none⟩ (.slice AL kL cL)=wS at *
    obtain⟨sg2,Ag2,kg2,cg2,G2,hGv2⟩:=id hG2
    obtain⟨sh2,Ah2,kh2,ch2,H2,hHv2⟩:=id hH2
    have G2_0:=G2.cell 0 rfl
    have G2_1:=G2.cell 1 rfl
    have H2_0:=H2.cell 0 rfl
    have H2_1:=H2.cell 1 rfl
    have hq0:∀W v u,IntAt W v 1→IntAt W u 1→Calls Tryz.prog 168 #[v,u,.int .u64 0] W (RetInt W 1):=fun W v u h1 h2=>qop_any 1 1 0 v u W h1 h2 (by decide) (by decide) (by unfold LIM;omega)
    go_wp2_with fail
    with_reducible refine(hq0 _ _ _ hGv2 hHv2).mono ?_
    rintro eP wP ⟨vP,rfl,hP,hbP⟩
    obtain⟨sP,AP,kP,cP,rfl⟩:=hP.form
    replace hbb2:=hbb2.below hbP
    replace hE2:=hE2.below hbP
    replace hG2:=hG2.below hbP
    replace hH2:=hH2.below hbP
    replace R2:=R2.below hbP
    replace H2:=H2.below hbP
    replace hb2:=hb2.trans (hbP.mono hb2.size)
    replace H2_0:=H2.cell 0 rfl
    replace H2_1:=H2.cell 1 rfl
    have H2_f0:=H2.free 0
    have H2_f1:=H2.free 1
    obtain⟨hH3,hst⟩:=IntBx.stored (m:=1) ⟨_,_,_,_,H2,hHv2.below hbP⟩ hP
    have hG3:=hG2.step hst (by omega)
    have R3:Bx _ w.heap.size [.bool false,.slice none 0 0] 53:=(hst.2.1 w.heap.size (by omega)).trans R2
    have hbb3:=hbb2.step hst (hbb2.off hH2 (by decide))
    have hE3:=hE2.step hst (hE2.off hH2 (by decide))
    have hb3:=below_step hb2 hst (by omega)
    clear hst hH2 hG2 R2 hbb2 hE2 hb2 hq0
    go_wp2_with fail
    go_roundg 0
    case rel=>exact⟨[-3,1],[2],true,1,1,A',c',AE,cE,rfl,rfl,rfl,hbb3,hE3,hG3,hH3,R3,.inr ⟨rfl,rfl,rfl,rfl,rfl,rfl⟩,hb3⟩
    case measure=>omega
  ·subst e0;subst e1;subst e2;subst e3;subst e4;subst e5
   have hdg:∀(B:Option Addr) (d:Nat) (W:World),Calls Tryz.prog 41 #[.slice B 1 d] W fun e w'=>e= .returned (.int .i64 0)∧W=w':=fun B d W=>(degree_any 1 d B W (by decide)).mono (fun e w' h=>⟨h.1,h.2.symm⟩)
   have hdg2:∀(B:Option Addr) (d:Nat) (W:World),Calls Tryz.prog 41 #[.slice B 2 d] W fun e w'=>e= .returned (.int .i64 1)∧W=w':=fun B d W=>(degree_any 2 d B W (by decide)).mono (fun e w' h=>⟨h.1,h.2.symm⟩)
   have n1:nl (1:Int).natAbs≤1:=nl_small (by decide)
   have n2:nl (2:Int).natAbs≤1:=nl_small (by decide)
   have hw1:IntKind.u64.wrap 1=1:=by decide
   have hle:∀W,WholeAt W (.slice A' 1 c') [2]→Calls Tryz.prog 75 #[.slice A' 1 c'] W (RetInt W 2):=fun W h=>lead_whole [2] (.slice A' 1 c') W h (by decide) (by decide)
   have hqo:∀W v u,IntAt W v 2→IntAt W u 1→Calls Tryz.prog 168 #[v,u,.int .u64 1] W (RetInt W 2):=fun W v u h1 h2=>qop_any 2 1 1 v u W h1 h2 (by decide) (by decide) (by unfold LIM;omega)
   obtain⟨sh,Ah,kh,ch,H,hHv⟩:=id hH
   go_upto_region 17 with (go_at_call 41;(with_reducible refine(hdg _ _ _).mono ?_);rintro eD wD ⟨rfl,rfl⟩)
   have H_ltwy:=H.lt
   go_cut [13] (fun s13 wx=>∃g13,s13= .pointer (some ⟨g13,0,none⟩)∧wy.heap.size≤g13∧IntBx wx g13 (2)∧Below wy.heap.size wy wx)
   case first=>
    go_region_held3 (fun w'=>w'.cell? ⟨g6+1,0,none⟩=some (.bool sh)∧w'.cell? ⟨g6+1,1,none⟩=some (.slice Ah kh ch))
     (with_reducible exact⟨H.up.cell 0 rfl,H.up.cell 1 rfl⟩)
     (first
      |(go_at_call 75;(with_reducible refine(hle _ hbb.up).mono ?_);rintro e7 w7 ⟨v7,rfl,h7,hb7⟩;have l7:=hb7.size;(try simp at l7);have:=St.mk hb7;obtain⟨s7,A7,k7,c7,rfl⟩:=h7.form)
      |(go_at_call 168;(with_reducible refine(hqo _ _ _ h7.up hHv.up).mono ?_);rintro e8 w8 ⟨v8,rfl,h8,hb8⟩;have l8:=hb8.size;(try simp at l8);have:=St.mk hb8;have TT8:=Up.out (a:=wy) (b:=w8);have ll8:=TT8.size;have h7z:=h7.up (b:=w8);(try (have D7_0:=(Bx.newAt wy [.bool false,.slice none 0 0] 53 (wy.heap.size) rfl).up (b:=w8);have D7_0_k:=Bx.g2 D7_0));(try (have D8_0:=(Bx.newAt w7 [.bool false,.slice none 0 0] 53 (w7.heap.size) rfl).up (b:=w8);have D8_0_k:=Bx.g2 D8_0));obtain⟨s8,A8,k8,c8,rfl⟩:=h8.form)
      |(go_at_call 41;(with_reducible refine(hdg2 _ _ _).mono ?_);rintro eD wD ⟨rfl,rfl⟩))
    all_goals (
     go_wp2_with fail
     go_meet
     refine⟨_,rfl,by omega,?_⟩
     first|(with_reducible exact late1 h8 TT8)|(with_reducible exact early1 (zb D7_0) h8 TT8 (by omega))|(with_reducible exact early1 (zb D8_0) h8 TT8 (by omega)))
   case rest=>
    obtain⟨gf,rfl,hgf,hF,hbf⟩:=hcut
    replace R:=R.below hbf
    replace hb:=hb.trans (hbf.mono hb.size)
    obtain⟨sf,Af,kf,cf',F,hFv⟩:=hF
    have F_0:=F.cell 0 rfl
    have F_1:=F.cell 1 rfl
    clear hle hqo H hHv hbf ha hbb hG hH hdg hdg2
    go_wp2_with fail
    with_reducible refine(neg_any 2 _ _ hFv (by omega)).mono ?_
    rintro eN wN ⟨vN,rfl,hN,hbN⟩
    obtain⟨sN,AN,kN,cN,rfl⟩:=hN.form
    replace R:=R.below hbN
    replace hb:=hb.trans (hbN.mono hb.size)
    replace cM:=R.g2
    go_wp2_with fail
    obtain⟨W6,eW6,R,hb,hk,ff⟩:=R.put2 hb (by omega) (.bool sN) (.slice AN kN cN) rfl rfl
    replace hN:=hN.keep hk
    rw[eW6];clear eW6
    replace cM:=R.k2
    exact bodyPost_ret (v:= .agg #[.bool sN,.slice AN kN cN]) (by simp[results,Tryz.results133,go_sem,R.k2]) rfl ⟨_,rfl,hN,hb⟩
end Go.Proofs.YtlojjipfnejbnaaGreatDoor
