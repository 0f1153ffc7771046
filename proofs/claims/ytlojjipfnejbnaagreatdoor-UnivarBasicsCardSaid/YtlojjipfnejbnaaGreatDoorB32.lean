/-
  Contracts of functions that the statement reaches, and plain laws: SubB.
-/
import Derived.Test.YtlojjipfnejbnaaGreatDoorA19
import Derived.Test.YtlojjipfnejbnaaGreatDoorA29
import Derived.Test.YtlojjipfnejbnaaGreatDoorB31
set_option linter.unusedVariables false
set_option linter.unusedSimpArgs false
set_option maxHeartbeats 8000000
set_option maxRecDepth 100000
namespace Go.Proofs.YtlojjipfnejbnaaGreatDoor
open Go.RowKit Sos
theorem gcd_one_ex {D:Int} (hD:0<D) (x:Int):(gcdAll [x*D,D]:Int)=D:=by
 rw[gcdAll_cons,gcdAll_cons,gcdAll_nil,Nat.gcd_zero_left,Int.natAbs_mul,Nat.gcd_comm,Nat.gcd_mul_left_left]
 omega
theorem div_ex {D:Int} (hD:0<D) (x:Int):divL [x*D,D] D=[x,1]:=by
 unfold divL
 show[(x*D).tdiv D,D.tdiv D]=[x,1]
 rw[Int.mul_tdiv_cancel _ (by omega),Int.tdiv_self (by omega)]
theorem frac_self {D:Int} (hD:0<D):(D:Rat)/(D:Rat)=((1:Int):Rat):=by
 have h:(D:Rat)≠0:=fun e=>(show D≠0 by omega) (Rat.intCast_inj.1 e)
 rw[Rat.div_def,Rat.mul_inv_cancel _ h]
 rfl
theorem resultant_ex (D E:Int) (hD0:0<D) (hE0:0<E) (hDk:nl D.natAbs≤1000) (hEk:nl E.natAbs≤1000) (va vb vd ve:Value) (w:World) (hG:Glob w) (ha:WholeAt w va [-1*D,D]) (hb':WholeAt w vb [-3*E,E]) (hd:IntAt w vd D) (he:IntAt w ve E):
  Calls Tryz.prog 87 #[va,vb,vd,ve] w (RetRat w ((-2:Int):Rat)):=by
 obtain⟨A,c,rfl,hc⟩:=ha.form
 obtain⟨A',c',rfl,hc'⟩:=hb'.form
 replace ha:WholeAt w (.slice A 2 c) [-1*D,D]:=ha
 replace hb':WholeAt w (.slice A' 2 c') [-3*E,E]:=hb'
 obtain⟨sd,Ad,kd,cd,rfl⟩:=hd.form
 obtain⟨se,Ae,ke,ce,rfl⟩:=he.form
 have n1:nl (1:Int).natAbs≤1:=nl_small (by decide)
 have n2:nl (-2:Int).natAbs≤1:=nl_small (by decide)
 have n3:nl (-1:Int).natAbs≤1:=nl_small (by decide)
 have n4:nl (-3:Int).natAbs≤1:=nl_small (by decide)
 have kA:∀n∈[-1*D,D],nl n.natAbs≤1001:=fun n hn=>by
  simp only[List.mem_cons,List.not_mem_nil,or_false] at hn
  rcases hn with rfl|rfl
  ·exact Nat.le_trans (nl_mul_int _ _ _ _ n3 hDk) (by decide)
  ·omega
 have kB:∀n∈[-3*E,E],nl n.natAbs≤1001:=fun n hn=>by
  simp only[List.mem_cons,List.not_mem_nil,or_false] at hn
  rcases hn with rfl|rfl
  ·exact Nat.le_trans (nl_mul_int _ _ _ _ n4 hEk) (by decide)
  ·omega
 have hcA:∀W,Glob W→WholeAt W (.slice A 2 c) [-1*D,D]→Calls Tryz.prog 125 #[.slice A 2 c] W (RetInt W D):=fun W h1 h2=>by
  have:=content_whole [-1*D,D] (.slice A 2 c) W h1 h2 1001 kA (by unfold LIM;decide) (by show 2≤1099511627776;decide)
  rw[gcd_one_ex hD0] at this
  exact this
 have hcB:∀W,Glob W→WholeAt W (.slice A' 2 c') [-3*E,E]→Calls Tryz.prog 125 #[.slice A' 2 c'] W (RetInt W E):=fun W h1 h2=>by
  have:=content_whole [-3*E,E] (.slice A' 2 c') W h1 h2 1001 kB (by unfold LIM;decide) (by show 2≤1099511627776;decide)
  rw[gcd_one_ex hE0] at this
  exact this
 have hdA:∀W u,WholeAt W (.slice A 2 c) [-1*D,D]→IntAt W u D→Calls Tryz.prog 126 #[.slice A 2 c,u] W fun e w'=>∃v',e= .returned v'∧WholeAt w' v' [-1,1]∧Below W.heap.size W w':=fun W u h1 h2=>by
  have:=divide_whole [-1*D,D] D (.slice A 2 c) u W h1 h2 (fun _=>by omega) 1001 kA (by omega) (by unfold LIM;decide) (by show 2≤1099511627776;decide)
  rw[div_ex hD0] at this
  exact this
 have hdB:∀W u,WholeAt W (.slice A' 2 c') [-3*E,E]→IntAt W u E→Calls Tryz.prog 126 #[.slice A' 2 c',u] W fun e w'=>∃v',e= .returned v'∧WholeAt w' v' [-3,1]∧Below W.heap.size W w':=fun W u h1 h2=>by
  have:=divide_whole [-3*E,E] E (.slice A' 2 c') u W h1 h2 (fun _=>by omega) 1001 kB (by omega) (by unfold LIM;decide) (by show 2≤1099511627776;decide)
  rw[div_ex hE0] at this
  exact this
 have hfD:∀W v u,Glob W→IntAt W v D→IntAt W u D→Calls Tryz.prog 67 #[v,u] W (RetRat W ((1:Int):Rat)):=fun W v u hG h1 h2=>by
  have:=fraction_any D D v u W hG h1 h2 1000 hDk hDk (by unfold LIM;decide)
  rw[frac_self hD0] at this
  exact this
 have hfE:∀W v u,Glob W→IntAt W v E→IntAt W u E→Calls Tryz.prog 67 #[v,u] W (RetRat W ((1:Int):Rat)):=fun W v u hG h1 h2=>by
  have:=fraction_any E E v u W hG h1 h2 1000 hEk hEk (by unfold LIM;decide)
  rw[frac_self hE0] at this
  exact this
 have hpo:∀W v,RatAt W v ((1:Int):Rat)→Calls Tryz.prog 132 #[v,.int .u64 1] W (RetRat W ((1:Int):Rat)):=fun W v h=>ratPow_int 1 1 v W h (by decide) (by unfold LIM;omega)
 have hm1:∀W v u,RatAt W v ((1:Int):Rat)→RatAt W u ((1:Int):Rat)→Calls Tryz.prog 84 #[v,u] W (RetRat W ((1:Int):Rat)):=fun W v u h1 h2=>ratMul_int 1 1 v u W h1 h2 (by omega)
 have hm2:∀W v u,RatAt W v ((1:Int):Rat)→RatAt W u ((-2:Int):Rat)→Calls Tryz.prog 84 #[v,u] W (RetRat W ((-2:Int):Rat)):=fun W v u h1 h2=>ratMul_int 1 (-2) v u W h1 h2 (by omega)
 have hdg:∀(B:Option Addr) (d:Nat) (W:World),Calls Tryz.prog 41 #[.slice B 2 d] W fun e w'=>e= .returned (.int .i64 1)∧W=w':=fun B d W=>(degree_any 2 d B W (by decide)).mono (fun e w' h=>⟨h.1,h.2.symm⟩)
 have hdgB:∀(B:Option Addr) (d:Nat) (W:World),Calls Tryz.prog 41 #[.slice B 2 d] W fun e w'=>e= .returned (.int .i64 1)∧Below W.heap.size W w':=fun B d W=>(degree_any 2 d B W (by decide)).mono (fun e w' h=>⟨h.1,by rw[h.2];exact Below.refl _ _⟩)
 have hw1:IntKind.u64.wrap 1=1:=by decide
 obtain⟨W,eW,hb,B1,B2,R⟩:=box3 w [.bool sd,.slice Ad kd cd] 53 [.bool se,.slice Ae ke ce] 53 [.bool false,.slice none 0 0,.bool false,.slice none 0 0] 83
 have cM:=aa B1.g2 (aa B2.g2 R.g4)
 go_enter Tryz.func87,Tryz.ntmps87
 go_wp2_with fail
 (try rw[eW]);clear eW
 replace hd:=hd.below hb
 replace he:=he.below hb
 with_reducible refine(hcA _ (hG.below hb) (ha.below hb)).mono ?_
 rintro e1 w1 ⟨v1,rfl,h1,hb1⟩
 obtain⟨s1,A1,k1,c1,rfl⟩:=h1.form
 replace B1:=B1.below hb1
 replace B2:=B2.below hb1
 replace R:=R.below hb1
 replace cM:=aa B1.k2 (aa B2.k2 R.g4)
 replace hk:=Keep.below hb1
 replace hd:=hd.keep hk
 replace he:=he.keep hk
 replace hb:=hb.trans (hb1.mono hb.size)
 go_wp2_with fail
 with_reducible refine(hcB _ (hG.below hb) (hb'.below hb)).mono ?_
 rintro e2 w2 ⟨v2,rfl,h2,hb2⟩
 obtain⟨s2,A2,k2,c2,rfl⟩:=h2.form
 replace B1:=B1.below hb2
 replace B2:=B2.below hb2
 replace R:=R.below hb2
 replace cM:=aa B1.k2 (aa B2.k2 R.g4)
 replace hk:=Keep.below hb2
 replace hd:=hd.keep hk
 replace he:=he.keep hk
 replace h1:=h1.keep hk
 replace hb:=hb.trans (hb2.mono hb.size)
 have B1_c20:∀o0 o1:Obj,((w2.alloc o0).alloc o1).cell? ⟨w.heap.size,0,none⟩=some (.bool sd):=fun o0 o1=>((B1.alloc o0).alloc o1).cell 0 rfl
 have B1_g20:∀o0 o1:Obj,((w2.alloc o0).alloc o1).frozen? ⟨w.heap.size,0,none⟩=false:=fun o0 o1=>((B1.alloc o0).alloc o1).free 0
 have B1_c21:∀o0 o1:Obj,((w2.alloc o0).alloc o1).cell? ⟨w.heap.size,1,none⟩=some (.slice Ad kd cd):=fun o0 o1=>((B1.alloc o0).alloc o1).cell 1 rfl
 have B1_g21:∀o0 o1:Obj,((w2.alloc o0).alloc o1).frozen? ⟨w.heap.size,1,none⟩=false:=fun o0 o1=>((B1.alloc o0).alloc o1).free 1
 go_wp2_with fail
 have B1_l:=B1.lt
 have B2_l:=B2.lt
 have R_l:=R.lt
 have hsz_:=hb.size
 obtain⟨w3,ew3,hA,C1,C2⟩:=box2 w2 [.bool s1,.slice A1 k1 c1] 53 [.bool s2,.slice A2 k2 c2] 53
 replace B1:=B1.below hA
 replace B2:=B2.below hA
 replace R:=R.below hA
 replace hk:=Keep.below hA
 replace hb:=hb.trans (hA.mono hb.size)
 replace hd:=hd.keep hk
 replace he:=he.keep hk
 replace h1:=h1.keep hk
 replace h2:=h2.keep hk
 rw[ew3];clear ew3
 replace cM:=aa B1.k2 (aa B2.k2 (aa R.g4 (aa C1.k2 C2.k2)))
 clear B1_c20 B1_c21 B1_g20 B1_g21
 with_reducible refine(hfD _ _ _ (hG.below hb) h1 hd).mono ?_
 rintro e4 w4 ⟨v4,rfl,h4,hb4⟩
 replace B1:=B1.below hb4
 replace B2:=B2.below hb4
 replace R:=R.below hb4
 replace C1:=C1.below hb4
 replace C2:=C2.below hb4
 replace cM:=aa B1.k2 (aa B2.k2 (aa R.g4 (aa C1.k2 C2.k2)))
 replace hk:=Keep.below hb4
 replace hd:=hd.keep hk
 replace he:=he.keep hk
 replace h1:=h1.keep hk
 replace h2:=h2.keep hk
 replace hb:=hb.trans (hb4.mono hb.size)
 go_wp2_with (go_at_call 41;(with_reducible refine(hdg _ _ _).mono ?_);rintro eD wD ⟨rfl,rfl⟩)
 with_reducible refine(hpo _ _ h4).mono ?_
 rintro e5 w5 ⟨v5,rfl,h5,hb5⟩
 replace B1:=B1.below hb5
 replace B2:=B2.below hb5
 replace R:=R.below hb5
 replace C1:=C1.below hb5
 replace C2:=C2.below hb5
 replace cM:=aa B1.k2 (aa B2.k2 (aa R.g4 (aa C1.k2 C2.k2)))
 replace hk:=Keep.below hb5
 replace hd:=hd.keep hk
 replace he:=he.keep hk
 replace h1:=h1.keep hk
 replace h2:=h2.keep hk
 replace hb:=hb.trans (hb5.mono hb.size)
 obtain⟨s5,A5,k5,c5,t5,E5,l5,d5,rfl⟩:=h5.form
 go_upto_region 5 with fail
 have B1_l:=B1.lt
 have B2_l:=B2.lt
 have R_l:=R.lt
 have C1_l:=C1.lt
 have C2_l:=C2.lt
 have hsz_:=hb.size
 obtain⟨w6,ew6,hA,Fc⟩:=box1 w5 [.bool s5,.slice A5 k5 c5,.bool t5,.slice E5 l5 d5] 83
 replace B1:=B1.below hA
 replace B2:=B2.below hA
 replace R:=R.below hA
 replace C1:=C1.below hA
 replace C2:=C2.below hA
 replace hk:=Keep.below hA
 replace hb:=hb.trans (hA.mono hb.size)
 replace hd:=hd.keep hk
 replace he:=he.keep hk
 replace h1:=h1.keep hk
 replace h2:=h2.keep hk
 replace h5:=h5.keep hk
 rw[ew6];clear ew6
 replace cM:=aa B1.k2 (aa B2.k2 (aa R.g4 (aa C1.k2 (aa C2.k2 Fc.g4))))
 go_cut [] (fun wx=>∃s A k c t E' l d,Bx wx w5.heap.size [.bool s,.slice A k c,.bool t,.slice E' l d] 83∧RatAt wx (.agg #[.bool s,.slice A k c,.bool t,.slice E' l d]) ((1:Int):Rat)∧Bx wx w2.heap.size [.bool s1,.slice A1 k1 c1] 53∧Bx wx (w2.heap.size+1) [.bool s2,.slice A2 k2 c2] 53∧
  Bx wx (w.heap.size+1+1) [.bool false,.slice none 0 0,.bool false,.slice none 0 0] 83∧IntAt wx (.agg #[.bool s1,.slice A1 k1 c1]) D∧IntAt wx (.agg #[.bool s2,.slice A2 k2 c2]) E∧Below w.heap.size w wx)
 case first=>
  replace hd:=hd.drew
  replace he:=he.drew
  replace h1:=h1.drew
  replace h2:=h2.drew
  replace h5:=h5.drew
  replace B1:=B1.drew
  replace B2:=B2.drew
  replace R:=R.drew
  replace C1:=C1.drew
  replace C2:=C2.drew
  replace Fc:=Fc.drew
  replace hb:=hb.drew
  have n_Fc_C2:w5.heap.size≠w2.heap.size+1:=by omega
  have n_Fc_B2:w5.heap.size≠w.heap.size+1:=by omega
  go_region_with (first
    |(go_at_call 67;(with_reducible refine(hfE _ _ _ (hG.below hb) h2 he).mono ?_);rintro e7 w7 ⟨v7,rfl,h7,hb7⟩;replace B1:=B1.below hb7;replace B2:=B2.below hb7;replace R:=R.below hb7;replace C1:=C1.below hb7;replace C2:=C2.below hb7;replace Fc:=Fc.below hb7;replace cM:=aa B1.k2 (aa B2.k2 (aa R.g4 (aa C1.k2 (aa C2.k2 Fc.g4))));replace hk:=Keep.below hb7;replace hd:=hd.keep hk;replace he:=he.keep hk;replace h1:=h1.keep hk;replace h2:=h2.keep hk;replace h5:=h5.keep hk;(try replace h8:=h8.keep hk);(try replace h9:=h9.keep hk);(try replace h0:=h0.keep hk);replace hb:=hb.trans (hb7.mono hb.size))
    |(go_at_call 41;(with_reducible refine(hdgB _ _ _).mono ?_);rintro e8 w8 ⟨rfl,hb8⟩;replace B1:=B1.below hb8;replace B2:=B2.below hb8;replace R:=R.below hb8;replace C1:=C1.below hb8;replace C2:=C2.below hb8;replace Fc:=Fc.below hb8;replace cM:=aa B1.k2 (aa B2.k2 (aa R.g4 (aa C1.k2 (aa C2.k2 Fc.g4))));replace hk:=Keep.below hb8;replace hd:=hd.keep hk;replace he:=he.keep hk;replace h1:=h1.keep hk;replace h2:=h2.keep hk;replace h5:=h5.keep hk;(try replace h7:=h7.keep hk);(try replace h9:=h9.keep hk);(try replace h0:=h0.keep hk);replace hb:=hb.trans (hb8.mono hb.size))
    |(go_at_call 132;(with_reducible refine(hpo _ _ h7).mono ?_);rintro e9 w9 ⟨v9,rfl,h9,hb9⟩;replace B1:=B1.below hb9;replace B2:=B2.below hb9;replace R:=R.below hb9;replace C1:=C1.below hb9;replace C2:=C2.below hb9;replace Fc:=Fc.below hb9;replace cM:=aa B1.k2 (aa B2.k2 (aa R.g4 (aa C1.k2 (aa C2.k2 Fc.g4))));replace hk:=Keep.below hb9;replace hd:=hd.keep hk;replace he:=he.keep hk;replace h1:=h1.keep hk;replace h2:=h2.keep hk;replace h5:=h5.keep hk;(try replace h7:=h7.keep hk);(try replace h8:=h8.keep hk);(try replace h0:=h0.keep hk);replace hb:=hb.trans (hb9.mono hb.size))
    |(go_at_call 84;(with_reducible refine(hm1 _ _ _ h5 h9).mono ?_);rintro e0 w0 ⟨v0,rfl,h0,hb0⟩;obtain⟨s0,A0,k0,c0,t0,E0,l0,d0,rfl⟩:=h0.form;replace B1:=B1.below hb0;replace B2:=B2.below hb0;replace R:=R.below hb0;replace C1:=C1.below hb0;replace C2:=C2.below hb0;replace Fc:=Fc.below hb0;replace cM:=aa B1.k2 (aa B2.k2 (aa R.g4 (aa C1.k2 (aa C2.k2 Fc.g4))));replace hk:=Keep.below hb0;replace hd:=hd.keep hk;replace he:=he.keep hk;replace h1:=h1.keep hk;replace h2:=h2.keep hk;replace h5:=h5.keep hk;(try replace h7:=h7.keep hk);(try replace h8:=h8.keep hk);(try replace h9:=h9.keep hk);replace hb:=hb.trans (hb0.mono hb.size)))
  all_goals (
   go_wp2_with fail
   have B1_l:=B1.lt
   have B2_l:=B2.lt
   have R_l:=R.lt
   have C1_l:=C1.lt
   have C2_l:=C2.lt
   have Fc_l:=Fc.lt
   have hsz_:=hb.size
   obtain⟨W6,eW6,Fc,hb,hk,ff⟩:=Fc.put4 hb (by omega) (.bool s0) (.slice A0 k0 c0) (.bool t0) (.slice E0 l0 d0) rfl rfl
   replace B1:=ff B1 (by omega)
   replace B2:=ff B2 (by omega)
   replace R:=ff R (by omega)
   replace C1:=ff C1 (by omega)
   replace C2:=ff C2 (by omega)
   replace h1:=h1.keep hk
   replace h2:=h2.keep hk
   replace h0:=h0.keep hk
   rw[eW6];clear eW6
   replace cM:=aa B1.k2 (aa B2.k2 (aa R.k4 (aa C1.k2 (aa C2.k2 Fc.k4))))
   go_meet
   exact⟨s0,A0,k0,c0,t0,E0,l0,d0,Fc,h0,C1,C2,R,h1,h2,hb⟩)
 case rest=>
  clear hd he h1 h2 h5 B1 B2 R C1 C2 Fc hb hk hfD hfE hpo hm1 hdg hdgB
  obtain⟨s0,A0,k0,c0,t0,E0,l0,d0,Fc,h0,C1,C2,R,h1,h2,hb⟩:=hcut
  have haW:=ha.below hb
  have hbW:=hb'.below hb
  have hsu:=fun W v u h1 h2=>subres_ex v u W h1 h2
  clear ha hb'
  go_upto_region 6 with fail
  have C1_ltwc:=C1.lt
  have C2_ltwc:=C2.lt
  go_cut [12] (fun s12 wx=>∃g12,s12= .pointer (some ⟨g12,0,none⟩)∧wc.heap.size≤g12∧IntBx wx g12 (-2)∧Below wc.heap.size wc wx)
  case first=>
   go_region_held3 (fun w'=>w'.cell? ⟨w2.heap.size,0,none⟩=some (.bool s1)∧w'.cell? ⟨w2.heap.size,1,none⟩=some (.slice A1 k1 c1)∧w'.cell? ⟨w2.heap.size+1,0,none⟩=some (.bool s2)∧w'.cell? ⟨w2.heap.size+1,1,none⟩=some (.slice A2 k2 c2))
    (with_reducible exact⟨C1.up.cell 0 rfl,C1.up.cell 1 rfl,C2.up.cell 0 rfl,C2.up.cell 1 rfl⟩)
    (first
     |(go_at_call 126;(with_reducible refine(hdA _ _ haW.up h1.up).mono ?_);rintro e4 w4 ⟨v4,rfl,h4,hb4⟩;have l4:=hb4.size;(try simp at l4);have:=St.mk hb4;skip)
     |(go_at_call 126;(with_reducible refine(hdB _ _ hbW.up h2.up).mono ?_);rintro e7 w7 ⟨v7,rfl,h7,hb7⟩;have l7:=hb7.size;(try simp at l7);have:=St.mk hb7;skip)
     |(go_at_call 133;(with_reducible refine(hsu _ _ _ h4.up h7.up).mono ?_);rintro e8 w8 ⟨v8,rfl,h8,hb8⟩;have l8:=hb8.size;(try simp at l8);have:=St.mk hb8;have TT8:=Up.out (a:=wc) (b:=w8);have ll8:=TT8.size;have h4z:=h4.up (b:=w8);have h7z:=h7.up (b:=w8);(try (have D4_0:=(Bx.newAt wc [.bool false,.slice none 0 0] 53 (wc.heap.size) rfl).up (b:=w8);have D4_0_k:=Bx.g2 D4_0));(try (have D7_0:=(Bx.newAt w4 [.bool false,.slice none 0 0] 53 (w4.heap.size) rfl).up (b:=w8);have D7_0_k:=Bx.g2 D7_0));(try (have D8_0:=(Bx.newAt w7 [.bool false,.slice none 0 0] 53 (w7.heap.size) rfl).up (b:=w8);have D8_0_k:=Bx.g2 D8_0));obtain⟨s8,A8,k8,c8,rfl⟩:=h8.form))
   all_goals (
    go_wp2_with fail
    go_meet
    refine⟨_,rfl,by omega,?_⟩
    first|(with_reducible exact late1 h8 TT8)|(with_reducible exact early1 (zb D4_0) h8 TT8 (by omega))|(with_reducible exact early1 (zb D7_0) h8 TT8 (by omega))|(with_reducible exact early1 (zb D8_0) h8 TT8 (by omega)))
  case rest=>
   obtain⟨gd,rfl,hgd,⟨sT,AT,kT,cT,T,hT⟩,hbT⟩:=hcut
   have hFl:=Fc.lt
   have hRl:=R.lt
   replace Fc:=Fc.below hbT
   replace R:=R.below hbT
   replace h0:=h0.below hbT
   replace hb:=hb.trans (hbT.mono hb.size)
   have hwh:=fun W v h=>ratWhole_any (-2) v W h
   clear hbT haW hbW h1 h2 C1 C2 hdA hdB hsu
   have hRF:w.heap.size+1+1<w5.heap.size:=R_l
   go_upto_region 7 with fail
   replace hT:=hT.drew
   replace h0:=h0.drew
   replace Fc:=Fc.drew
   replace T:=T.drew
   replace R:=R.drew
   replace hb:=hb.drew
   replace cM:=aa Fc.k4 (aa T.k2 R.g4)
   have n_R_Fc:w.heap.size+1+1≠w5.heap.size:=by omega
   have n_R_T:w.heap.size+1+1≠gd:=by omega
   go_region_held3 (fun w'=>C4 w' w5.heap.size (.bool s0) (.slice A0 k0 c0) (.bool t0) (.slice E0 l0 d0)∧C2 w' gd (.bool sT) (.slice AT kT cT))
    (first|(with_reducible exact⟨Fc.k4,T.k2⟩)|(refine⟨?_,?_⟩<;>(repeat (first|with_reducible exact Fc.k4|with_reducible exact T.k2|with_reducible refine kf4 n_R_Fc ?_|with_reducible refine kf2 n_R_T ?_))))
    (first
     |(go_at_call 134;(with_reducible refine(hwh _ _ hT).mono ?_);rintro e6 w6 ⟨v6,rfl,h6,hb6⟩;replace Fc:=Fc.below hb6;replace T:=T.below hb6;replace R:=R.below hb6;replace cM:=aa Fc.k4 (aa T.k2 R.g4);replace hk:=Keep.below hb6;replace hT:=hT.keep hk;replace h0:=h0.keep hk;(try replace h9:=h9.keep hk);replace hb:=hb.trans (hb6.mono hb.size))
     |(go_at_call 84;(with_reducible refine(hm2 _ _ _ h0 h6).mono ?_);rintro e9 w9 ⟨v9,rfl,h9,hb9⟩;obtain⟨s9,A9,k9,c9,t9,E9,l9,d9,rfl⟩:=h9.form;replace Fc:=Fc.below hb9;replace T:=T.below hb9;replace R:=R.below hb9;replace cM:=aa Fc.k4 (aa T.k2 R.g4);replace hk:=Keep.below hb9;replace hT:=hT.keep hk;replace h0:=h0.keep hk;(try replace h6:=h6.keep hk);replace hb:=hb.trans (hb9.mono hb.size)))
   all_goals (
    go_wp2_with fail
    have Fc_l:=Fc.lt
    have T_l:=T.lt
    have R_l:=R.lt
    have hsz_:=hb.size
    obtain⟨W6,eW6,R,hb,hk,ff⟩:=R.put4 hb (by omega) (.bool s9) (.slice A9 k9 c9) (.bool t9) (.slice E9 l9 d9) rfl rfl
    replace Fc:=ff Fc (by omega)
    replace T:=ff T (by omega)
    replace h9:=h9.keep hk
    rw[eW6];clear eW6
    replace cM:=aa Fc.k4 (aa T.k2 R.k4)
    exact bodyPost_ret (v:= .agg #[.bool s9,.slice A9 k9 c9,.bool t9,.slice E9 l9 d9]) (by simp[results,Tryz.results87,go_sem,R.k4]) rfl ⟨_,rfl,h9,hb⟩
    )
end Go.Proofs.YtlojjipfnejbnaaGreatDoor
