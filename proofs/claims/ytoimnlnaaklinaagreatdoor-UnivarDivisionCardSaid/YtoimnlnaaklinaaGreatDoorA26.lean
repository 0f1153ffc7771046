/-
  Contracts of functions that the statement reaches, and plain laws: AwkR, AwkA, KeepB, RatQ, LawA, UniG, RowK, RatR, RatS, RatT, UniH, LawD.
-/
import Derived.Test.YtoimnlnaaklinaaGreatDoorA19
import Derived.Test.YtoimnlnaaklinaaGreatDoorA22
import Derived.Test.YtoimnlnaaklinaaGreatDoorA23
import Derived.Test.YtoimnlnaaklinaaGreatDoorA24
import Derived.Test.YtoimnlnaaklinaaGreatDoorA25
set_option linter.unusedVariables false
set_option linter.unusedSimpArgs false
set_option maxHeartbeats 8000000
namespace Go.Proofs.YtoimnlnaaklinaaGreatDoor
open Go.RowKit Sos
set_option maxRecDepth 100000 in
theorem resultant_poly_ex (va vb : Value) (w : World) (hG : Glob w) (ha : StrsAt w va [[45, 49], [49]]) (hb' : StrsAt w vb [[45, 51], [49]]) :
  Calls Tryz.prog 22 #[va, vb] w fun e w' => e = .returned (.tuple #[.string ⟨#[45, 50]⟩, .int .i64 0]) ∧ Below w.heap.size w w' := by
 obtain ⟨A, c, rfl, hc⟩ := ha.form
 obtain ⟨A', c', rfl, hc'⟩ := hb'.form
 replace ha : StrsAt w (.slice A 2 c) [[45, 49], [49]] := ha
 replace hb' : StrsAt w (.slice A' 2 c') [[45, 51], [49]] := hb'
 go_enter Tryz.func22, Tryz.ntmps22
 go_wp2_with fail
 ((with_reducible refine (uniRead_any [[45, 49], [49]] _ _ hG ha (by decide) (fun _ => by decide) 1 66 (fun _ => by rw [rats_3]; exact RL_3) (by decide) (by unfold LIM; decide)).mono ?_))
 rintro e1 w1 ⟨v1, vd1, xs, D, rfl, hx, hD, hvx, hb⟩
 obtain ⟨rfl, hcx⟩ := hvx vl_3
 rw [rats_3] at hx hcx
 have ex : numsL [-1, 1] D = [-1 * D, D] := nums_ex D (-1)
 rw [ex] at hx
 obtain ⟨A1, c1, rfl, hc1⟩ := hx.form
 replace hx : WholeAt w1 (.slice A1 2 c1) [-1 * D, D] := hx
 obtain ⟨s1, B1, k1, d1, rfl⟩ := hD.form
 rw [vl_3]
 clear hvx ex
 go_wp2_with fail
 have hbX : Below w1.heap.size w1 (w1.alloc (.cells #[.bool s1, .slice B1 k1 d1] 49)) := (Below.refl _ _).alloc (Nat.le_refl _) _
 have X := Bx.new w1 [.bool s1, .slice B1 k1 d1] 49
 replace hx := hx.below hbX
 replace hD := hD.below hbX
 replace hb := hb.trans (hbX.mono hb.size)
 clear hbX
 generalize w1.heap.size = gx at *
 generalize w1.alloc (.cells #[.bool s1, .slice B1 k1 d1] 49) = w2 at *
 ((with_reducible refine (uniRead_any [[45, 51], [49]] _ _ (hG.below hb) (hb'.below hb) (by decide) (fun _ => by decide) 1 66 (fun _ => by rw [rats_4]; exact RL_4) (by decide) (by unfold LIM; decide)).mono ?_))
 rintro e3 w3 ⟨v3, vd3, ys, E, rfl, hy, hE, hvy, hb3⟩
 obtain ⟨rfl, hcy⟩ := hvy vl_4
 rw [rats_4] at hy hcy
 have ey : numsL [-3, 1] E = [-3 * E, E] := nums_ex E (-3)
 rw [ey] at hy
 obtain ⟨A3, c3, rfl, hc3⟩ := hy.form
 replace hy : WholeAt w3 (.slice A3 2 c3) [-3 * E, E] := hy
 obtain ⟨s3, B3, k3, d3, rfl⟩ := hE.form
 rw [vl_4]
 clear hvy ey
 replace X := X.below hb3
 replace hx := hx.below hb3
 replace hD := hD.below hb3
 replace hb := hb.trans (hb3.mono hb.size)
 have X_c : ∀ o0 : Obj, (w3.alloc o0).cell? ⟨gx, 0, none⟩ = some (.bool s1) := fun o0 => (X.alloc o0).cell 0 rfl
 have X_d : ∀ o0 : Obj, (w3.alloc o0).cell? ⟨gx, 1, none⟩ = some (.slice B1 k1 d1) := fun o0 => (X.alloc o0).cell 1 rfl
 have hrs := fun W v u x y hG h1 h2 h3 h4 => resultant_ex D E hcx.pos hcy.pos (Nat.le_trans hcx.nl_ (by decide)) (Nat.le_trans hcy.nl_ (by decide)) v u x y W hG h1 h2 h3 h4
 unfold RetRat at hrs
 clear hcx hcy
 go_wp2_with fail
 have hbY : Below w3.heap.size w3 (w3.alloc (.cells #[.bool s3, .slice B3 k3 d3] 49)) := (Below.refl _ _).alloc (Nat.le_refl _) _
 replace hx := hx.below hbY
 replace hy := hy.below hbY
 replace hD := hD.below hbY
 replace hE := hE.below hbY
 replace hb := hb.trans (hbY.mono hb.size)
 clear hbY X X_c X_d
 generalize w3.alloc (.cells #[.bool s3, .slice B3 k3 d3] 49) = w4 at *
 refine (hrs _ _ _ _ _ (hG.below hb) hx hy hD hE).mono ?_
 rintro e5 w5 ⟨v5, rfl, h5, hb5⟩
 replace hb := hb.trans (hb5.mono hb.size)
 have hst := ratString_any _ _ _ (hG.below hb) h5 1 (RL_int (by decide)) (by decide)
 rw [show ratTxt ((-2 : Int) : Rat) = [45, 50] from txt_read rd_m2] at hst
 go_wp2_with fail
 refine hst.mono ?_
 rintro e6 w6 ⟨rfl, hb6⟩
 replace hb := hb.trans (hb6.mono hb.size)
 go_wp2_with fail
 exact bodyPost_ret (v := .tuple #[.string ⟨#[45, 50]⟩, .int .i64 0]) (by simp [results, Tryz.results22, go_sem]) rfl ⟨rfl, hb⟩
theorem StrsAt.built (w : World) (ls : List (List UInt8)) (t : TypeId) : StrsAt (w.alloc (.cells (ls.map (fun l => Value.string ⟨l.toArray⟩)).toArray t)) (.slice (some ⟨w.heap.size, 0, none⟩) ls.length ls.length) ls := by
 refine ⟨_, _, rfl, Nat.le_refl _, .inr ⟨w.heap.size, 0, rfl, by simp, fun i l hi => ?_⟩⟩
 have B := Bx.new w (ls.map (fun l => Value.string ⟨l.toArray⟩)) t
 rw [Nat.zero_add]
 exact B.cell i (by rw [List.getElem?_map, hi]; rfl)
theorem keepSame (a : List (List UInt8)) (va vb : Value) (w : World) (ha : StrsAt w va a) (hb : StrsAt w vb a) (hla : a.length ≤ 1099511627776) :
  Calls Tryz.prog 13 #[va, vb] w fun e w' => e = .returned (.bool true) ∧ Below w.heap.size w w' :=
 (keepStrings_any a a va vb w ha hb hla hla).mono (fun e w' h => ⟨by rw [h.1, decide_eq_true rfl], h.2⟩)
theorem sq_fit : GcdFit 100 1000000 [0, 0, -1, 1] [0, -2, 3] := ⟨trimmed_by rfl, trimmed_by rfl, small_all (by decide) (by decide), small_all (by decide) (by decide), by decide, by decide, by decide, by decide⟩
theorem sq_nums {D : Int} (hD : nl D.natAbs ≤ 66) : ∀ n ∈ [0, 0, -2 * D, 2 * D], nl n.natAbs ≤ 100 := fun n hn => by
 simp only [List.mem_cons, List.not_mem_nil, or_false] at hn
 have n2 : nl (2 : Int).natAbs ≤ 1 := nl_le (by decide)
 have n3 : nl (-2 : Int).natAbs ≤ 1 := nl_le (by decide)
 have n0 : nl (0 : Int).natAbs ≤ 1 := nl_le (by decide)
 rcases hn with rfl | rfl | rfl | rfl
 ·omega
 ·omega
 ·exact Nat.le_trans (nl_mul_int _ _ _ _ n3 hD) (by decide)
 ·exact Nat.le_trans (nl_mul_int _ _ _ _ n2 hD) (by decide)
theorem squarefree_ex (va : Value) (w : World) (hG : Glob w) (ha : StrsAt w va [[48], [48], [45, 50], [50]]) :
  Calls Tryz.prog 10 #[va] w fun e w' => ∃ v, e = .returned (.tuple #[v, .int .i64 0]) ∧ TsAt w' w.heap.size 22 v [monicT [-1, 1], [[48], [49]]] ∧ Below w.heap.size w w' := by
 refine (squarefree_poly [[48], [48], [45, 50], [50]] va w hG ha (by decide) 1 (fun _ => by decide) (fun _ => by rw [rats_5]; exact RL_5) (by decide) vl_5 (by decide) 100 1000000 (by decide) (by decide) (by unfold LIM; decide) InvEx invEx ?_ ?_).mono ?_
 ·intro D hD
  rw [rats_5] at hD ⊢
  rw [nums_ex5, prim_ex5' hD.pos, derive_ex]
  refine ⟨sq_nums (Nat.le_trans hD.nl_ (by decide)), sq_fit, fun g hg => ?_⟩
  rw [gcd_ex1 hg]
  exact ⟨[0, 1, -1], 2, ⟨trimmed_by rfl, by decide, trimmed_by rfl, quo_by (n := 6) (by decide) (by decide) (by decide)⟩, small_all (by decide) (by decide), small_all (by decide) (by decide), by decide, by decide, .inl ⟨rfl, rfl, rfl⟩⟩
 ·intro D Q g l hD hg hQ hS
  rw [rats_5] at hD hg hQ
  rw [nums_ex5, prim_ex5' hD.pos] at hg hQ
  rw [derive_ex] at hg
  rw [sqf_ex hg hQ hS]
  refine ⟨by decide, fun f hf => ?_⟩
  simp only [List.mem_cons, List.not_mem_nil, or_false] at hf
  rcases hf with rfl | rfl
  ·exact ⟨by decide, by decide, small_all (by decide) (by decide)⟩
  ·exact ⟨by decide, by decide, small_all (by decide) (by decide)⟩
 ·rintro e w' ⟨D, hD, v, g, Q, l, rfl, h3, hg, hQ, hS, hb⟩
  rw [rats_5] at hD hg hQ
  rw [nums_ex5, prim_ex5' hD.pos] at hg hQ
  rw [derive_ex] at hg
  rw [sqf_ex hg hQ hS] at h3
  refine ⟨v, rfl, ?_, hb⟩
  rw [← monic_ex]
  exact h3
set_option maxRecDepth 100000 in
theorem awake_any (w : World) (hG : Glob w) : Calls Tryz.prog 8 #[] w fun e w' => e = .returned (.bool true) ∧ Below w.heap.size w w' := by
 go_enter Tryz.func8, Tryz.ntmps8
 go_wp2_with fail
 have b1 : Below w.heap.size w (w.alloc (.cells #[.string ⟨#[48]⟩, .string ⟨#[48]⟩, .string ⟨#[49]⟩] 9)) := (Below.refl _ _).alloc (Nat.le_refl _) _
 have b2 : Below w.heap.size w ((w.alloc (.cells #[.string ⟨#[48]⟩, .string ⟨#[48]⟩, .string ⟨#[49]⟩] 9)).alloc (.cells #[.string ⟨#[49]⟩, .string ⟨#[50]⟩] 9)) := b1.alloc (by simp) _
 have x1 : StrsAt ((w.alloc (.cells #[.string ⟨#[48]⟩, .string ⟨#[48]⟩, .string ⟨#[49]⟩] 9)).alloc (.cells #[.string ⟨#[49]⟩, .string ⟨#[50]⟩] 9)) (.slice (some ⟨w.heap.size, 0, none⟩) 3 3) [[48], [48], [49]] := (StrsAt.built w [[48], [48], [49]] 9).below ((Below.refl _ _).alloc (Nat.le_refl _) _)
 have x2 : StrsAt ((w.alloc (.cells #[.string ⟨#[48]⟩, .string ⟨#[48]⟩, .string ⟨#[49]⟩] 9)).alloc (.cells #[.string ⟨#[49]⟩, .string ⟨#[50]⟩] 9)) (.slice (some ⟨w.heap.size + 1, 0, none⟩) 2 2) [[49], [50]] := by
  have := StrsAt.built (w.alloc (.cells #[.string ⟨#[48]⟩, .string ⟨#[48]⟩, .string ⟨#[49]⟩] 9)) [[49], [50]] 9
  rw [World.size_alloc] at this
  exact this
 have hb := b2
 clear b1 b2
 generalize (w.alloc (.cells #[.string ⟨#[48]⟩, .string ⟨#[48]⟩, .string ⟨#[49]⟩] 9)).alloc (.cells #[.string ⟨#[49]⟩, .string ⟨#[50]⟩] 9) = W at *
 ((with_reducible refine (quoRem_poly [[48], [48], [49]] [[49], [50]] _ _ _ (hG.below hb) x1 x2 (by decide) (by decide) 1 (fun _ => by decide) (fun _ => by decide) (fun _ => by rw [rats_1]; exact RL_1) (fun _ => by rw [rats_2]; exact RL_2) (by decide)).mono ?_))
 rintro e1 w1 ⟨v, u, n, Q, R, rfl, hv, hu, hb1, -, -, hdo⟩
 obtain ⟨rfl, hdr⟩ := hdo vl_1 vl_2 (by decide)
 rw [rats_1, rats_2] at hdr
 obtain ⟨rfl, rfl⟩ := div_ex1 hdr
 have hv' : StrsAt w1 v [[45, 49, 47, 52], [49, 47, 50]] := by
  have e : List.map ratTxt [mkRat (-1) 4, mkRat 1 2] = [[45, 49, 47, 52], [49, 47, 50]] := by
   show [ratTxt (mkRat (-1) 4), ratTxt (mkRat 1 2)] = _
   rw [txt_read rd_m14, txt_read rd_12]
  rw [e] at hv; exact hv
 have hu' : StrsAt w1 u [[49, 47, 52]] := by
  have e : List.map ratTxt [mkRat 1 4] = [[49, 47, 52]] := by
   show [ratTxt (mkRat 1 4)] = _
   rw [txt_read rd_14]
  rw [e] at hu; exact hu
 obtain ⟨Av, cv, rfl, -⟩ := hv'.form
 obtain ⟨Au, cu, rfl, -⟩ := hu'.form
 replace hv' : StrsAt w1 (.slice Av 2 cv) [[45, 49, 47, 52], [49, 47, 50]] := hv'
 replace hu' : StrsAt w1 (.slice Au 1 cu) [[49, 47, 52]] := hu'
 replace hb := hb.trans (hb1.mono hb.size)
 clear x1 x2 hv hu hdo hdr hb1
 go_wp2_with fail
 have b1 : Below w1.heap.size w1 (w1.alloc (.cells #[.string ⟨#[45, 49]⟩, .string ⟨#[49]⟩] 9)) := (Below.refl _ _).alloc (Nat.le_refl _) _
 have b2 : Below w1.heap.size w1 ((w1.alloc (.cells #[.string ⟨#[45, 49]⟩, .string ⟨#[49]⟩] 9)).alloc (.cells #[.string ⟨#[45, 51]⟩, .string ⟨#[49]⟩] 9)) := b1.alloc (by simp) _
 have x1 : StrsAt ((w1.alloc (.cells #[.string ⟨#[45, 49]⟩, .string ⟨#[49]⟩] 9)).alloc (.cells #[.string ⟨#[45, 51]⟩, .string ⟨#[49]⟩] 9)) (.slice (some ⟨w1.heap.size, 0, none⟩) 2 2) [[45, 49], [49]] := (StrsAt.built w1 [[45, 49], [49]] 9).below ((Below.refl _ _).alloc (Nat.le_refl _) _)
 have x2 : StrsAt ((w1.alloc (.cells #[.string ⟨#[45, 49]⟩, .string ⟨#[49]⟩] 9)).alloc (.cells #[.string ⟨#[45, 51]⟩, .string ⟨#[49]⟩] 9)) (.slice (some ⟨w1.heap.size + 1, 0, none⟩) 2 2) [[45, 51], [49]] := by
  have := StrsAt.built (w1.alloc (.cells #[.string ⟨#[45, 49]⟩, .string ⟨#[49]⟩] 9)) [[45, 51], [49]] 9
  rw [World.size_alloc] at this
  exact this
 replace hv' := hv'.below b2
 replace hu' := hu'.below b2
 replace hb := hb.trans (b2.mono hb.size)
 clear b1 b2
 generalize (w1.alloc (.cells #[.string ⟨#[45, 49]⟩, .string ⟨#[49]⟩] 9)).alloc (.cells #[.string ⟨#[45, 51]⟩, .string ⟨#[49]⟩] 9) = W at *
 ((with_reducible refine (resultant_poly_ex _ _ _ (hG.below hb) x1 x2).mono ?_))
 rintro e2 w2 ⟨rfl, hb2⟩
 replace hv' := hv'.below hb2
 replace hu' := hu'.below hb2
 replace hb := hb.trans (hb2.mono hb.size)
 clear x1 x2 hb2
 go_wp2_with fail
 have b1 : Below w2.heap.size w2 (w2.alloc (.cells #[.string ⟨#[48]⟩, .string ⟨#[48]⟩, .string ⟨#[45, 50]⟩, .string ⟨#[50]⟩] 9)) := (Below.refl _ _).alloc (Nat.le_refl _) _
 have x1 : StrsAt (w2.alloc (.cells #[.string ⟨#[48]⟩, .string ⟨#[48]⟩, .string ⟨#[45, 50]⟩, .string ⟨#[50]⟩] 9)) (.slice (some ⟨w2.heap.size, 0, none⟩) 4 4) [[48], [48], [45, 50], [50]] := StrsAt.built w2 [[48], [48], [45, 50], [50]] 9
 replace hv' := hv'.below b1
 replace hu' := hu'.below b1
 replace hb := hb.trans (b1.mono hb.size)
 clear b1
 generalize w2.alloc (.cells #[.string ⟨#[48]⟩, .string ⟨#[48]⟩, .string ⟨#[45, 50]⟩, .string ⟨#[50]⟩] 9) = W at *
 ((with_reducible refine (squarefree_ex _ _ (hG.below hb) x1).mono ?_))
 rintro e3 w3 ⟨v3, rfl, h3, hb3⟩
 obtain ⟨A3, c3, rfl, -⟩ := h3.form
 replace h3 : TsAt w3 W.heap.size 22 (.slice A3 2 c3) [monicT [-1, 1], [[48], [49]]] := h3
 replace hv' := hv'.below hb3
 replace hu' := hu'.below hb3
 replace hb := hb.trans (hb3.mono hb.size)
 clear x1 hb3
 go_wp2_with fail
 have b1 : Below w3.heap.size w3 (w3.alloc (.cells #[.string ⟨#[45, 49, 47, 52]⟩, .string ⟨#[49, 47, 50]⟩] 9)) := (Below.refl _ _).alloc (Nat.le_refl _) _
 have x1 : StrsAt (w3.alloc (.cells #[.string ⟨#[45, 49, 47, 52]⟩, .string ⟨#[49, 47, 50]⟩] 9)) (.slice (some ⟨w3.heap.size, 0, none⟩) 2 2) [[45, 49, 47, 52], [49, 47, 50]] := StrsAt.built w3 [[45, 49, 47, 52], [49, 47, 50]] 9
 (try replace hv' := hv'.below b1)
 (try replace hu' := hu'.below b1)
 (try replace h3 := h3.below b1)
 (try replace h4 := h4.below b1)
 replace hb := hb.trans (b1.mono hb.size)
 clear b1
 generalize w3.alloc (.cells #[.string ⟨#[45, 49, 47, 52]⟩, .string ⟨#[49, 47, 50]⟩] 9) = W5 at *
 ((with_reducible refine (keepSame _ _ _ _ hv' x1 (by decide)).mono ?_))
 rintro e5 w5 ⟨rfl, hb5⟩
 (try replace hv' := hv'.below hb5)
 (try replace hu' := hu'.below hb5)
 (try replace h3 := h3.below hb5)
 replace hb := hb.trans (hb5.mono hb.size)
 clear x1 hb5
 go_wp2_with fail
 have b1 : Below w5.heap.size w5 (w5.alloc (.cells #[.string ⟨#[49, 47, 52]⟩] 9)) := (Below.refl _ _).alloc (Nat.le_refl _) _
 have x1 : StrsAt (w5.alloc (.cells #[.string ⟨#[49, 47, 52]⟩] 9)) (.slice (some ⟨w5.heap.size, 0, none⟩) 1 1) [[49, 47, 52]] := StrsAt.built w5 [[49, 47, 52]] 9
 (try replace hv' := hv'.below b1)
 (try replace hu' := hu'.below b1)
 (try replace h3 := h3.below b1)
 (try replace h4 := h4.below b1)
 replace hb := hb.trans (b1.mono hb.size)
 clear b1
 generalize w5.alloc (.cells #[.string ⟨#[49, 47, 52]⟩] 9) = W6 at *
 ((with_reducible refine (keepSame _ _ _ _ hu' x1 (by decide)).mono ?_))
 rintro e6 w6 ⟨rfl, hb6⟩
 (try replace hv' := hv'.below hb6)
 (try replace hu' := hu'.below hb6)
 (try replace h3 := h3.below hb6)
 replace hb := hb.trans (hb6.mono hb.size)
 clear x1 hb6
 obtain ⟨b, u4, rfl, hbl, hc4, h4⟩ := h3.at_ (i := 1) (l := [[48], [49]]) rfl
 obtain ⟨A4, c4, rfl, -⟩ := h4.form
 replace h4 : StrsAt w6 (.slice A4 2 c4) [[48], [49]] := h4
 go_wp2_with fail
 have b1 : Below w6.heap.size w6 (w6.alloc (.cells #[.string ⟨#[48]⟩, .string ⟨#[49]⟩] 9)) := (Below.refl _ _).alloc (Nat.le_refl _) _
 have x1 : StrsAt (w6.alloc (.cells #[.string ⟨#[48]⟩, .string ⟨#[49]⟩] 9)) (.slice (some ⟨w6.heap.size, 0, none⟩) 2 2) [[48], [49]] := StrsAt.built w6 [[48], [49]] 9
 (try replace hv' := hv'.below b1)
 (try replace hu' := hu'.below b1)
 (try replace h3 := h3.below b1)
 (try replace h4 := h4.below b1)
 replace hb := hb.trans (b1.mono hb.size)
 clear b1
 generalize w6.alloc (.cells #[.string ⟨#[48]⟩, .string ⟨#[49]⟩] 9) = W7 at *
 ((with_reducible refine (keepSame _ _ _ _ h4 x1 (by decide)).mono ?_))
 rintro e7 w7 ⟨rfl, hb7⟩
 (try replace hv' := hv'.below hb7)
 (try replace hu' := hu'.below hb7)
 (try replace h3 := h3.below hb7)
 replace hb := hb.trans (hb7.mono hb.size)
 clear x1 hb7
 go_wp2_with fail
 go_ret
 exact ⟨rfl, hb⟩
def shortB (n : Nat) (ls : List (List UInt8)) : Bool := ls.all (fun l => decide (l.length ≤ n))
set_option maxRecDepth 100000 in
theorem keepShort_any (n : Nat) (ls : List (List UInt8)) (v : Value) (w : World) (hv : StrsAt w v ls) (hn : n ≤ 1073741824) (hl : ls.length ≤ 1073741824) (hll : ∀ l ∈ ls, l.length ≤ 9223372036854775807) :
  Calls Tryz.prog 21 #[.int .i64 n, v] w fun e w' => e = .returned (.bool (shortB n ls)) ∧ w = w' := by
 obtain ⟨A, c, rfl, hc⟩ := hv.form
 go_enter Tryz.func21, Tryz.ntmps21
 go_wp2_with fail
 go_loopg [5] ls.length (fun k i wr => ∃ j, Hid (j + k = ls.length) ∧ i = .int .i64 j ∧ Hid (shortB n (ls.take j) = true) ∧ w = wr)
 case atStart => exact ⟨0, by unfold Hid; omega, rfl, rfl, rfl⟩
 case round =>
  obtain ⟨j, HJ, rfl, HT, rfl⟩ := hrel
  have hj0 : (0 : Int) ≤ (j : Int) := by omega
  cases gk with
  | zero =>
   have hj : j = ls.length := HJ.out
   have HD : Hid (shortB n ls = true) := by
    have := HT.out
    rwa [hj, List.take_length] at this
   subst hj
   go_wp2_with fail
   go_ret
   rw [HD.out]
   exact ⟨rfl, rfl⟩
  | succ k =>
   have hja : j < ls.length := by have := HJ.out; omega
   have hj1 : (j : Int) < (ls.length : Int) := by omega
   obtain ⟨t, ht⟩ : ∃ t, ls[j]? = some t := ⟨_, List.getElem?_eq_getElem hja⟩
   have hst : shortB n (ls.take (j + 1)) = decide (t.length ≤ n) := by
    unfold shortB
    rw [List.take_add_one, ht, Option.toList_some, List.all_append]
    have := HT.out
    unfold shortB at this
    rw [this]; simp
   have hno : ¬ t.length ≤ n → shortB n ls = false := fun h => by
    unfold shortB
    rw [List.all_eq_false]
    exact ⟨t, List.mem_of_getElem? ht, by simpa using h⟩
   have HST := Lib.hid hst
   have HNO := Lib.hid hno
   have htl := hll t (List.mem_of_getElem? ht)
   obtain ⟨b, off, rfl, hbl, hcl⟩ := hv.at_ ht
   have hsz : (⟨t.toArray⟩ : ByteArray).size = t.length := by simp [ByteArray.size]
   clear hst hno ht HT
   by_cases hx : t.length ≤ n
   ·have hx' : ¬ (n : Int) < (t.length : Int) := by omega
    go_wp2_with fail
    go_roundg k
    case rel => exact ⟨j + 1, by have := HJ.out; unfold Hid; omega, by go_num, by unfold Hid; rw [HST.out]; exact decide_eq_true hx, rfl⟩
    case measure => omega
   ·have hx' : (n : Int) < (t.length : Int) := by omega
    go_wp2_with fail
    go_ret
    rw [HNO.out hx]
    exact ⟨rfl, rfl⟩
def PolysAt (w : World) (v : Value) (ps : List (List (List UInt8))) : Prop :=
 ∃ g c, v = .slice (some ⟨g, 0, none⟩) ps.length c ∧ ∀ (i : Nat) (p : List (List UInt8)), ps[i]? = some p → ∃ A d, w.cell? ⟨g, i, none⟩ = some (.slice A p.length d) ∧ StrsAt w (.slice A p.length d) p
def smallB (n d : Nat) (ps : List (List (List UInt8))) : Bool := ps.all (fun p => decide (p.length ≤ n) && shortB d p)
set_option maxRecDepth 100000 in
theorem small_any (n d : Nat) (ps : List (List (List UInt8))) (v : Value) (w : World) (hv : PolysAt w v ps) (hn : n ≤ 1073741824) (hd : d ≤ 1073741824) (hl : ps.length ≤ 1073741824) (hll : ∀ p ∈ ps, ∀ l ∈ p, l.length ≤ 9223372036854775807) :
  Calls Tryz.prog 7 #[.int .i64 n, .int .i64 d, v] w fun e w' => e = .returned (.bool (smallB n d ps)) ∧ w = w' := by
 obtain ⟨g, c, rfl, hv⟩ := hv
 go_enter Tryz.func7, Tryz.ntmps7
 go_wp2_with fail
 go_loopg [7] ps.length (fun k i wr => ∃ j, Hid (j + k = ps.length) ∧ i = .int .i64 j ∧ Hid (smallB n d (ps.take j) = true) ∧ w = wr)
 case atStart => exact ⟨0, by unfold Hid; omega, rfl, rfl, rfl⟩
 case round =>
  obtain ⟨j, HJ, rfl, HT, rfl⟩ := hrel
  have hj0 : (0 : Int) ≤ (j : Int) := by omega
  cases gk with
  | zero =>
   have hj : j = ps.length := HJ.out
   have HD : Hid (smallB n d ps = true) := by
    have := HT.out
    rwa [hj, List.take_length] at this
   subst hj
   go_wp2_with fail
   go_ret
   rw [HD.out]
   exact ⟨rfl, rfl⟩
  | succ k =>
   have hja : j < ps.length := by have := HJ.out; omega
   have hj1 : (j : Int) < (ps.length : Int) := by omega
   obtain ⟨p, ht⟩ : ∃ p, ps[j]? = some p := ⟨_, List.getElem?_eq_getElem hja⟩
   have hst : smallB n d (ps.take (j + 1)) = (decide (p.length ≤ n) && shortB d p) := by
    unfold smallB
    rw [List.take_add_one, ht, Option.toList_some, List.all_append]
    have := HT.out
    unfold smallB at this
    rw [this]; simp
   have hno : (decide (p.length ≤ n) && shortB d p) = false → smallB n d ps = false := fun h => by
    unfold smallB
    rw [List.all_eq_false]
    exact ⟨p, List.mem_of_getElem? ht, by rw [h]; simp⟩
   have HST := Lib.hid hst
   have HNO := Lib.hid hno
   have hpl := hll p (List.mem_of_getElem? ht)
   obtain ⟨A, dd, hcl, hsp⟩ := hv j p ht
   clear hst hno ht HT
   by_cases hx : p.length ≤ n
   ·have hx' : ¬ (n : Int) < (p.length : Int) := by omega
    have hdx : decide (p.length ≤ n) = true := decide_eq_true hx
    rw [hdx] at HST HNO
    clear hdx
    go_wp2_with fail
    ((with_reducible refine (keepShort_any d p _ _ hsp hd (by omega) hpl).mono ?_))
    rintro e1 w1 ⟨rfl, rfl⟩
    cases hs : shortB d p with
    | true =>
     rw [hs] at HST
     clear HNO
     go_wp2_with fail
     go_roundg k
     case rel => exact ⟨j + 1, by have := HJ.out; unfold Hid; omega, by go_num, by unfold Hid; rw [HST.out]; rfl, rfl⟩
     case measure => omega
    | false =>
     rw [hs] at HNO
     go_wp2_with fail
     go_ret
     rw [HNO.out rfl]
     exact ⟨rfl, rfl⟩
   ·have hx' : (n : Int) < (p.length : Int) := by omega
    have hdx : decide (p.length ≤ n) = false := decide_eq_false hx
    rw [hdx] at HNO
    clear hdx
    go_wp2_with fail
    go_ret
    rw [HNO.out rfl]
    exact ⟨rfl, rfl⟩
theorem small_parts {n d : Nat} {ps : List (List (List UInt8))} (h : smallB n d ps = true) {p : List (List UInt8)} (hp : p ∈ ps) : p.length ≤ n ∧ ∀ l ∈ p, l.length ≤ d := by
 have h1 := List.all_eq_true.1 h p hp
 rw [Bool.and_eq_true, decide_eq_true_iff] at h1
 exact ⟨h1.1, fun l hl => of_decide_eq_true (List.all_eq_true.1 h1.2 l hl)⟩
end Go.Proofs.YtoimnlnaaklinaaGreatDoor
namespace Go.Proofs.YtoimnlnaaklinaaGreatDoor
open Sos
theorem rat_add_coprime (x y : Rat) (h : Nat.gcd x.den y.den = 1) : (x + y).num = x.num * y.den + y.num * x.den ∧ (x + y).den = x.den * y.den := by
 show (Rat.add x y).num = _ ∧ (Rat.add x y).den = _
 unfold Rat.add
 simp [h]
theorem rat_add_gcd (x y : Rat) (g : Nat) (hg : Nat.gcd x.den y.den = g) (h1 : g ≠ 1) (n : Int) (hn : n = x.num * ((y.den / g : Nat) : Int) + y.num * ((x.den / g : Nat) : Int)) :
  (x + y).num = n / ((Nat.gcd n.natAbs g : Nat) : Int) ∧ (x + y).den = x.den / g * y.den / Nat.gcd n.natAbs g := by
 subst hg; subst hn
 show (Rat.add x y).num = _ ∧ (Rat.add x y).den = _
 unfold Rat.add
 simp [h1]
theorem tdiv_nat (a b : Nat) : (a : Int).tdiv (b : Int) = ((a / b : Nat) : Int) := by
 rw [Int.tdiv_eq_ediv_of_nonneg (by omega)]; exact (Int.natCast_ediv a b).symm
theorem add_parts (x y : Rat) (g r : Nat) (l t n : Int) (hg : g = Nat.gcd x.den y.den) (hl : l = (y.den : Int).tdiv g) (ht : t = (x.den : Int).tdiv g) (hn : n = x.num * l + y.num * t) (hr : r = Nat.gcd n.natAbs g) :
  (x + y).num = n.tdiv r ∧ (((x + y).den : Nat) : Int) = t * (y.den : Int).tdiv r := by
 have hx0 := x.den_nz
 have hy0 := y.den_nz
 have hrg : r ∣ g := hr ▸ Nat.gcd_dvd_right _ _
 have hgy : g ∣ y.den := hg ▸ Nat.gcd_dvd_right _ _
 have hrn : (r : Int) ∣ n := Int.ofNat_dvd_left.2 (hr ▸ Nat.gcd_dvd_left _ _)
 have hry : r ∣ y.den := Nat.dvd_trans hrg hgy
 rw [tdiv_nat] at hl ht
 rw [tdiv_nat]
 by_cases h1 : g = 1
 ·obtain ⟨e1, e2⟩ := rat_add_coprime x y (hg ▸ h1)
  have hr1 : r = 1 := by rw [hr, h1]; simp
  rw [h1] at hl ht
  simp only [Nat.div_one] at hl ht
  rw [e1, e2, hr1, hn, hl, ht]
  simp
 ·obtain ⟨e1, e2⟩ := rat_add_gcd x y g hg.symm h1 n (by rw [hn, hl, ht])
  rw [← hr] at e1 e2
  rw [e1, e2, ht, Int.tdiv_eq_ediv_of_dvd hrn]
  refine ⟨rfl, ?_⟩
  rw [Nat.mul_div_assoc _ hry]
  simp
theorem add_zero_of {x y : Rat} {g : Nat} {l t n : Int} (hg : g = Nat.gcd x.den y.den) (hl : l = (y.den : Int).tdiv g) (ht : t = (x.den : Int).tdiv g) (hn : n = x.num * l + y.num * t) (h0 : n = 0) : x + y = 0 := by
 have := (add_parts x y g _ l t n hg hl ht hn rfl).1
 rw [h0] at this
 exact Rat.num_eq_zero.1 (by rw [this]; simp)
theorem add_left {x y : Rat} (h : x.den = 1) : (x + y).num = x.num * y.den + y.num ∧ (x + y).den = y.den := by
 obtain ⟨e1, e2⟩ := rat_add_coprime x y (by rw [h]; simp)
 rw [e1, e2, h]; simp
theorem add_right {x y : Rat} (h : y.den = 1) : (x + y).num = y.num * x.den + x.num ∧ (x + y).den = x.den := by
 obtain ⟨e1, e2⟩ := rat_add_coprime x y (by rw [h]; simp)
 rw [e1, e2, h]; simp; omega
theorem add_RL {x y : Rat} {K : Nat} (hx : RL K x) (hy : RL K y) : RL (2 * K + 1) (x + y) := by
 obtain ⟨e1, e2⟩ := add_parts x y _ _ _ _ _ rfl rfl rfl rfl rfl
 obtain ⟨x1, x2⟩ := hx
 obtain ⟨y1, y2⟩ := hy
 have l1 := natAbs_tdiv_le (y.den : Int) (Nat.gcd x.den y.den : Int) K y2
 have l2 := natAbs_tdiv_le (x.den : Int) (Nat.gcd x.den y.den : Int) K x2
 have l3 := nl_add_int _ _ _ (nl_mul_int _ _ _ _ x1 l1) (nl_mul_int _ _ _ _ y1 l2)
 refine ⟨?_, ?_⟩
 ·rw [e1]
  exact natAbs_tdiv_le _ _ _ (Nat.le_trans l3 (by omega))
 ·have h : nl (((x + y).den : Nat) : Int).natAbs ≤ K + K := by
   rw [e2]
   exact nl_mul_int _ _ _ _ l2 (natAbs_tdiv_le _ _ _ y2)
  exact Nat.le_trans h (by omega)
end Go.Proofs.YtoimnlnaaklinaaGreatDoor
namespace Go.Proofs.YtoimnlnaaklinaaGreatDoor
open Sos Lib
theorem RL_zero {K : Nat} (h : 1 ≤ K) : RL K 0 := ⟨by show nl 0 ≤ K; rw [nl_zero]; omega, by show nl 1 ≤ K; exact Nat.le_trans (nl_le (by decide)) h⟩
theorem RL_neg {K : Nat} {q : Rat} (h : RL K q) : RL K (-q) := ⟨by rw [show (-q).num = -q.num from rfl, Int.natAbs_neg]; exact h.1, h.2⟩
theorem RL_mono {K L : Nat} {q : Rat} (h : RL K q) (hl : K ≤ L) : RL L q := ⟨Nat.le_trans h.1 hl, Nat.le_trans h.2 hl⟩
theorem dig_small {n k : Nat} (h : (decDigits n).length ≤ k) (hk : k ≤ 18) : nl n ≤ 1 := by
 refine nl_le ?_
 have h1 := decVal_lt (decDigits_digs n)
 rw [decDigits_val] at h1
 have h2 : 10 ^ (decDigits n).length ≤ 10 ^ 18 := Nat.pow_le_pow_right (by decide) (by omega)
 have h3 : 10 ^ 18 < BN ^ 1 := by decide
 omega
theorem RL_text {t : List UInt8} {q : Rat} (h : readL t = some q) (hl : t.length ≤ 18) : RL 1 q := by
 have e := txt_read h
 have hlen : (ratTxt q).length ≤ 18 := by rw [e]; exact hl
 unfold ratTxt at hlen
 rw [List.length_append, List.length_append] at hlen
 refine ⟨dig_small (k := 18) (by omega) (by decide), ?_⟩
 by_cases h1 : q.den = 1
 ·rw [h1]; exact nl_le (by decide)
 ·rw [if_neg h1, List.length_cons] at hlen
  exact dig_small (k := 18) (by omega) (by decide)
theorem RL_short {ls : List (List UInt8)} (h : ∀ l ∈ ls, l.length ≤ 18) : ∀ q ∈ ratsOf ls, RL 1 q := fun q hq => by
 obtain ⟨l, hl, rfl⟩ := List.mem_map.1 hq
 cases hr : readL l with
 | none => exact RL_zero (Nat.le_refl 1)
 | some q => exact RL_text hr (h l hl)
theorem txt_len {q : Rat} {K : Nat} (h : RL K q) : (ratTxt q).length ≤ 40 * K + 4 := by
 have h1 := digits_len q.num.natAbs K h.1
 have h2 := digits_len q.den K h.2
 unfold ratTxt
 rw [List.length_append, List.length_append]
 have h3 : (if q.num < 0 then [(45 : UInt8)] else []).length ≤ 1 := by split <;> simp
 have h4 : (if q.den = 1 then [] else (47 : UInt8) :: decDigits q.den).length ≤ (decDigits q.den).length + 1 := by split <;> simp
 omega
theorem rats_txt (Q : List Rat) : ratsOf (Q.map ratTxt) = Q := by
 unfold ratsOf
 rw [List.map_map]
 have : ((fun l => (readL l).getD 0) ∘ ratTxt) = id := funext (fun q => by show (readL (ratTxt q)).getD 0 = q; rw [read_txt]; rfl)
 rw [this, List.map_id]
theorem all_txt (Q : List Rat) : (Q.map ratTxt).all rd = true := by
 rw [List.all_eq_true]
 intro l hl
 obtain ⟨q, _, rfl⟩ := List.mem_map.1 hl
 unfold rd; rw [read_txt]; rfl
theorem vl_txt {Q : List Rat} (h : Q.length ≤ 65) (ht : Trimmed Q) : vl (Q.map ratTxt) = true := by
 unfold vl
 rw [decide_eq_true_iff, rats_txt, List.length_map]
 exact ⟨h, all_txt Q, (trimmed_iff Q).1 ht⟩
theorem txt_rats {ls : List (List UInt8)} (h : ls.all rd = true) : (ratsOf ls).map ratTxt = ls := by
 unfold ratsOf
 rw [List.map_map]
 refine (List.map_congr_left (g := id) (fun l hl => ?_)).trans (List.map_id _)
 have hr : rd l = true := List.all_eq_true.1 h l hl
 obtain ⟨q, hq⟩ := Option.isSome_iff_exists.1 hr
 show ratTxt ((readL l).getD 0) = l
 rw [hq]
 exact txt_read hq
end Go.Proofs.YtoimnlnaaklinaaGreatDoor
namespace Go.Proofs.YtoimnlnaaklinaaGreatDoor
open Go.RowKit Sos
theorem rd_zero : readL [48] = some 0 := by decide
theorem txt_zero : ratTxt 0 = [48] := txt_read rd_zero
theorem rats_last {ls : List (List UInt8)} {t : List UInt8} (h : ls.getLast? = some t) : (ratsOf ls).getLast? = some ((readL t).getD 0) := by
 unfold ratsOf
 rw [List.getLast?_map, h]; rfl
theorem vl_long {ls : List (List UInt8)} (h : ¬ ls.length ≤ 65) : vl ls = false := by unfold vl; rw [decide_eq_false_iff_not]; exact fun h' => h h'.1
theorem vl_zero {ls : List (List UInt8)} (h : ls.getLast? = some [48]) : vl ls = false := by
 unfold vl; rw [decide_eq_false_iff_not, rats_last h, rd_zero]; exact fun h' => h'.2.2 rfl
theorem vl_other {ls : List (List UInt8)} {t : List UInt8} (h65 : ls.length ≤ 65) (h : ls.getLast? = some t) (ht : t ≠ [48]) : vl ls = ls.all rd := by
 unfold vl
 rw [Bool.eq_iff_iff, decide_eq_true_iff, rats_last h]
 refine ⟨fun h' => h'.2.1, fun h' => ⟨h65, h', fun e => ht ?_⟩⟩
 injection e with e
 have hr : rd t = true := List.all_eq_true.1 h' t (List.mem_of_getLast? h)
 obtain ⟨q, hq⟩ := Option.isSome_iff_exists.1 hr
 rw [hq] at e
 have e : q = 0 := e
 rw [← txt_read hq, e, txt_zero]
theorem vl_nil : vl [] = true := by decide
theorem rats_len (ls : List (List UInt8)) : (ratsOf ls).length = ls.length := List.length_map _
def RetRs (w : World) (ls : List (List UInt8)) (e : Ending) (w' : World) : Prop :=
 ∃ v', e = .returned (.tuple #[v', .bool (vl ls)]) ∧ (vl ls = true → ∃ g, v' = .slice (some ⟨g, 0, none⟩) ls.length ls.length ∧ w.heap.size ≤ g ∧ OwnR w' g (ratsOf ls)) ∧ Below w.heap.size w w'
set_option maxRecDepth 100000 in
theorem readRatios_any (ls : List (List UInt8)) (v : Value) (w : World) (hG : Glob w) (hv : StrsAt w v ls) (hl : ls.length ≤ 1073741824) (hll : ls.length ≤ 65 → ∀ l ∈ ls, l.length ≤ 1073741824) :
  Calls Tryz.prog 33 #[v] w (RetRs w ls) := by
 obtain ⟨A, c, rfl, hc⟩ := hv.form
 go_enter Tryz.func33, Tryz.ntmps33
 go_wp2_with fail
 ((with_reducible refine (fits_any ls.length c A _ hl).mono ?_))
 rintro e3 w3 ⟨rfl, rfl⟩
 by_cases h65 : ls.length ≤ 65
 ·have hd : decide (ls.length ≤ 65) = true := decide_eq_true h65
  rw [hd]
  clear hd
  have hra := readAll_own ls (.slice A ls.length c) w3 hG hv hl (hll h65)
  by_cases h0 : ls.length = 0
  ·have hn : ls = [] := List.eq_nil_of_length_eq_zero h0
   have HV : Hid (vl ls = ls.all rd) := by unfold Hid; rw [hn, vl_nil]; rfl
   have h0' : ¬ 0 < ls.length := by omega
   clear hn h0
   go_wp2_with fail
   ((with_reducible refine hra.mono ?_))
   rintro e4 w4 ⟨v4, rfl, h4, hb4⟩
   go_wp2_with fail
   go_ret2
   unfold RetRs
   rw [HV.out]
   exact ⟨_, rfl, h4, hb4⟩
  ·obtain ⟨m, hm⟩ : ∃ m, ls.length = m + 1 := ⟨ls.length - 1, by omega⟩
   have h0' : 0 < ls.length := by omega
   have e1 : (ls.length : Int) - 1 = (m : Int) := by omega
   have i0 : (0 : Int) ≤ (m : Int) := by omega
   have i1 : (m : Int) < (ls.length : Int) := by omega
   obtain ⟨t, ht⟩ : ∃ t, ls[m]? = some t := ⟨_, List.getElem?_eq_getElem (by omega)⟩
   obtain ⟨b, off, rfl, hbl, g0⟩ := hv.at_ ht
   have hla : ls.getLast? = some t := by rw [List.getLast?_eq_getElem?, hm]; exact ht
   by_cases hz : t = [48]
   ·have HV : Hid (vl ls = false) := vl_zero (by rw [hla, hz])
    subst hz
    clear hra hla ht hm h0
    go_wp2_with fail
    go_ret2
    unfold RetRs
    rw [HV.out]
    exact ⟨_, rfl, (fun h => by cases h), Below.refl _ _⟩
   ·have HV : Hid (vl ls = ls.all rd) := vl_other h65 hla hz
    have hne : (t == [48]) = false := beq_eq_false_iff_ne.2 hz
    clear hla ht hm h0 hz
    go_wp2_with fail
    ((with_reducible refine hra.mono ?_))
    rintro e4 w4 ⟨v4, rfl, h4, hb4⟩
    go_wp2_with fail
    go_ret2
    unfold RetRs
    rw [HV.out]
    exact ⟨_, rfl, h4, hb4⟩
 ·have hd : decide (ls.length ≤ 65) = false := decide_eq_false h65
  have HV : Hid (vl ls = false) := vl_long h65
  rw [hd]
  clear hd
  go_wp2_with fail
  go_ret2
  unfold RetRs
  rw [HV.out]
  exact ⟨_, rfl, (fun h => by cases h), Below.refl _ _⟩
set_option maxRecDepth 100000 in
theorem valid_any (ls : List (List UInt8)) (v : Value) (w : World) (hG : Glob w) (hv : StrsAt w v ls) (hl : ls.length ≤ 1073741824) (hll : ls.length ≤ 65 → ∀ l ∈ ls, l.length ≤ 1073741824) :
  Calls Tryz.prog 14 #[v] w fun e w' => e = .returned (.bool (vl ls)) ∧ Below w.heap.size w w' := by
 obtain ⟨A, c, rfl, hc⟩ := hv.form
 go_enter Tryz.func14, Tryz.ntmps14
 go_wp2_with fail
 ((with_reducible refine (readRatios_any ls _ _ hG hv hl hll).mono ?_))
 rintro e3 w3 ⟨v3, rfl, -, hb3⟩
 go_wp2_with fail
 go_ret
 exact ⟨rfl, hb3⟩
section
variable {P : Program} {ops : Array Oper} {rest : List Oper} {o : Oper} {a : Act} {Q : Exit → Act → World → Prop} {w : World}
theorem run_append_make_none (t ut ty e : TypeId) (i : TypeInfo) (ht : P.underlying t = some (.slice e)) (hu : P.underlying ut = some (.int .i64)) (hi : P.info? e = some i) (g n : Nat) :
  (Builtin.append_ #[t, ut] ty #[.slice (some ⟨g, 0, none⟩) n n, .int .i64 0]).run P w = .ok (.slice (some ⟨g, 0, none⟩) n n) w := by
 have hw : IntKind.i64.wrap 0 = 0 := IntWalk.i64_in _ (by omega)
 simp [Builtin.append_, run_underlying ht, run_underlying hu, sizeOf, typeInfo, hi, asInt, asIntOf, hw, storeCells]
theorem run_append_make (t ut ty e : TypeId) (i : TypeInfo) (z : Value) (ht : P.underlying t = some (.slice e)) (hu : P.underlying ut = some (.int .i64)) (hi : P.info? e = some i) (hz : i.zero = some z) (hzs : z.cells.size = i.size) (hs0 : 0 < i.size)
  (g n k : Nat) (olds : List Value) (hlo : olds.length = n * i.size) (holds : ∀ j v, olds[j]? = some v → w.cell? ((⟨g, 0, none⟩ : Addr).add j) = some v)
  (hk : 0 < k) (hm : n + k ≤ 1073741824) (hby : i.bytes ≤ 64) :
  (Builtin.append_ #[t, ut] ty #[.slice (some ⟨g, 0, none⟩) n n, .int .i64 (k : Int)]).run P w =
   .ok (.slice (some ⟨w.heap.size, 0, none⟩) (n + k) (grownCap w (n + k) n e)) (w.drew.alloc (.cells (olds.toArray ++ Builtin.zeroCells z.cells k ++ Builtin.zeroCells z.cells (grownCap w (n + k) n e - (n + k))) e)) := by
 have hw : IntKind.i64.wrap (k : Int) = (k : Int) := IntWalk.i64_in _ (by omega)
 have hn : ¬ (n + k ≤ n) := by omega
 have h0 : ¬ ((k : Int) < 0) := by omega
 have h1 : ¬ (281474976710656 < (k : Int) * (i.bytes : Int)) := by
  have h : k * i.bytes ≤ 1073741824 * 64 := Nat.mul_le_mul (by omega) hby
  have h' : ((k * i.bytes : Nat) : Int) ≤ 281474976710656 := by omega
  rw [Int.natCast_mul] at h'
  omega
 have h63' : ¬ (9223372036854775807 < ((n : Int) + (k : Int))) := by omega
 have h48' : ¬ (281474976710656 < Builtin.nextslicecap (n + k) n * i.bytes) := by
  have := growslice_fits (need := n + k) (old := n) (bytes := i.bytes) (by omega) (by
   have : (n + k) * i.bytes ≤ 1073741824 * 64 := Nat.mul_le_mul hm hby
   omega)
  omega
 have hks : ¬ (k * i.size = 0) := by
  have := Nat.mul_pos hk hs0
  omega
 have hfo := run_firstCells_some (P := P) w.drew i.size n ⟨g, 0, none⟩ n n olds hlo (by simpa using holds)
 simp [Builtin.append_, run_underlying ht, run_underlying hu, sizeOf, typeInfo, zeroValue, hi, hz, asInt, asIntOf, hw, hn, h0, h1, h63', h48', Question.forced, hfo, newRow, grownCap]
 exact fun h => absurd h hks
theorem wpList_appendR (hgd : o.guard = none) {s x : Operand} {t ut : TypeId} (ho : o.op = .call { callee := .builtin .append, args := #[s, x], argTypes := #[t, ut] })
  (e : TypeId) (z : Value) (size bytes : Nat) (ht : P.underlying t = some (.slice e)) (hu : P.underlying ut = some (.int .i64)) (hi : (P.info? e).map (fun i => (i.zero, i.size, i.bytes)) = some (some z, size, bytes)) (hzs : z.cells.size = size) (hz0 : 0 < size) (hby : bytes ≤ 64)
  (g n k : Nat) (hs : a.eval s = .slice (some ⟨g, 0, none⟩) n n) {K : Int} (hx : a.eval x = .int .i64 K) (hK : K = (k : Int)) (hm : n + k ≤ 1073741824) (rows : List (List Value)) (hr : Rw w g size rows e) (hn : n ≤ rows.length)
  (h : ∀ g' cap w' rows', (g' = g ∧ w' = w ∨ w.heap.size ≤ g') → Rw w' g' size (rows.take n ++ List.replicate k z.cells.toList ++ rows') e → Below w.heap.size w w' → n + k ≤ cap →
   wpList P ops Q rest (a.put o.dst (.slice (some ⟨g', 0, none⟩) (n + k) cap)) w') : wpList P ops Q (o :: rest) a w := by
 obtain ⟨i, hi0, hz, hs1, hby1⟩ := info_parts hi
 subst hK
 refine wpList_plain hgd fun C hC => ?_
 unfold Oper.wp
 rcases Nat.eq_zero_or_pos k with hk | hk
 ·subst hk
  have hrun := run_append_make_none (P := P) (w := w) t ut o.type e i ht hu hi0 g n
  simp only [execOp, ho, resolve, invoke, builtin, Sem.run_bind, Sem.run_pure, Result.andThen_ok, List.map_toArray, List.map_cons, List.map_nil, hs, hx, Int.natCast_zero, hrun]
  refine hC _ _ (h g n w (rows.drop n) (.inl ⟨rfl, rfl⟩) ?_ (Below.refl _ _) (Nat.le_refl _))
  rw [List.replicate_zero, List.append_nil, List.take_append_drop]
  exact hr
 ·have hzl : ∀ m, (Builtin.zeroCells z.cells m).toList = (List.replicate m z.cells.toList).flatten := fun m => made_flat z.cells m (by omega)
  have hk1 : ∀ r ∈ rows.take n, r.length = size := fun r h => hr.2 r (List.mem_of_mem_take h)
  have hrun := run_append_make (P := P) (w := w) t ut o.type e i z ht hu hi0 hz (by rw [hzs, hs1]) (by omega) g n k (rows.take n).flatten (by rw [flat_len hk1, List.length_take, hs1]; congr 1; omega) (fun j v hv => by
   have hadd : (⟨g, 0, none⟩ : Addr).add j = ⟨g, j, none⟩ := by unfold Addr.add; split <;> simp_all
   rw [hadd]
   refine hr.1.cell j ?_
   have : rows.flatten = (rows.take n).flatten ++ (rows.drop n).flatten := by rw [← List.flatten_append, List.take_append_drop]
   rw [this, List.getElem?_append_left ((List.getElem?_eq_some_iff.1 hv).1)]
   exact hv) hk hm (by omega)
  simp only [execOp, ho, resolve, invoke, builtin, Sem.run_bind, Sem.run_pure, Result.andThen_ok, List.map_toArray, List.map_cons, List.map_nil, hs, hx, hrun]
  refine hC _ _ (h w.heap.size _ _ (List.replicate (grownCap w (n + k) n e - (n + k)) z.cells.toList) (.inr (Nat.le_refl _)) ?_ ((Below.refl w.heap.size w).drew.alloc (Nat.le_refl _) _) (grownCap_ge _ _ _ _))
  refine ⟨?_, fun r hr' => ?_⟩
  ·unfold Bx
   rw [show w.heap.size = w.drew.heap.size from rfl, heap_alloc_new w.drew _]
   congr 2
   apply Array.ext'
   simp only [Array.toList_append, List.flatten_append, hzl]
  ·rcases List.mem_append.1 hr' with h1 | h1
   ·rcases List.mem_append.1 h1 with h2 | h2
    ·exact hk1 r h2
    ·rw [List.eq_of_mem_replicate h2]; simpa using hzs
   ·rw [List.eq_of_mem_replicate h1]; simpa using hzs
end
theorem OwnR.zeros {w w' : World} {g n k : Nat} {rows rows' : List (List Value)} {qs : List Rat} (hr : RRow w rows qs) (hq : qs.length = n) (hn : n ≤ rows.length) (hk : Keep w w')
  (h : Rw w' g 4 (rows.take n ++ List.replicate k [.bool false, .slice none 0 0, .bool false, .slice none 0 0] ++ rows') 71) : OwnR w' g (qs ++ List.replicate k 0) := by
 refine ⟨_, h, by simp; omega, fun i q hi => ?_⟩
 have hlt : (rows.take n).length = n := by rw [List.length_take]; omega
 rcases Nat.lt_or_ge i n with h1 | h1
 ·rw [List.getElem?_append_left (by omega)] at hi
  obtain ⟨s, A, l, c, s', A', l', c', e1, e2⟩ := hr i q hi
  refine ⟨s, A, l, c, s', A', l', c', ?_, e2.keep hk⟩
  rw [List.append_assoc, List.getElem?_append_left (by omega), List.getElem?_take, if_pos h1]
  exact e1
 ·rw [List.getElem?_append_right (by omega)] at hi
  have hlt2 := (List.getElem?_eq_some_iff.1 hi).1
  rw [List.length_replicate] at hlt2
  rw [List.getElem?_replicate, if_pos hlt2] at hi
  injection hi with hi
  subst hi
  refine ⟨false, none, 0, 0, false, none, 0, 0, ?_, RatAt.zero _⟩
  rw [List.append_assoc, List.getElem?_append_right (by omega), List.getElem?_append_left (by rw [List.length_replicate, hlt]; omega), List.getElem?_replicate, if_pos (by rw [hlt]; omega)]
theorem RatAt.denN {w : World} {s s' : Bool} {u u' : Value} {q : Rat} (h : RatAt w (.agg #[.bool s, u, .bool s', u']) q) (h1 : q.den ≠ 1) : IntAt w (.agg #[.bool s', u']) (q.den : Int) := by
 have := h.den
 rwa [denI_ne h1] at this
theorem ratAdd_ii (x y : Rat) (vx vy : Value) (w : World) (hx : RatAt w vx x) (hy : RatAt w vy y) (hx1 : x.den = 1) (hy1 : y.den = 1) (K : Nat) (bx : RL K x) (bY : RL K y) (hK : 10 * K + 40 ≤ LIM) :
  Calls Tryz.prog 37 #[vx, vy] w (RetRat w (x + y)) := by
 obtain ⟨s, A, k, c, s', A', k', c', rfl⟩ := hx.form
 obtain ⟨t, C, l, e, t', C', l', e', rfl⟩ := hy.form
 unfold LIM at hK
 have ⟨bx1, bx2⟩ := bx
 have ⟨by1, by2⟩ := bY
 obtain ⟨e1, e2⟩ := add_left (y := y) hx1
 rw [hy1] at e1 e2
 have HE : Hid ((x + y).num = x.num + y.num ∧ denI (x + y) = 0) := ⟨by rw [e1]; simp, denI_one.2 e2⟩
 have dx : denI x = 0 := denI_one.2 hx1
 have dy : denI y = 0 := denI_one.2 hy1
 clear e1 e2
 have X : Bx (((w.alloc (.cells #[.bool s, .slice A k c, .bool s', .slice A' k' c'] 71)).alloc (.cells #[.bool t, .slice C l e, .bool t', .slice C' l' e'] 71)).alloc (.cells #[.bool false, .slice none 0 0, .bool false, .slice none 0 0] 71)) (w.heap.size) [.bool s, .slice A k c, .bool s', .slice A' k' c'] 71 := ((Bx.newAt w [.bool s, .slice A k c, .bool s', .slice A' k' c'] 71 (w.heap.size) (by simp)).alloc (.cells #[.bool t, .slice C l e, .bool t', .slice C' l' e'] 71)).alloc (.cells #[.bool false, .slice none 0 0, .bool false, .slice none 0 0] 71)
 have Y : Bx (((w.alloc (.cells #[.bool s, .slice A k c, .bool s', .slice A' k' c'] 71)).alloc (.cells #[.bool t, .slice C l e, .bool t', .slice C' l' e'] 71)).alloc (.cells #[.bool false, .slice none 0 0, .bool false, .slice none 0 0] 71)) (w.heap.size + 1) [.bool t, .slice C l e, .bool t', .slice C' l' e'] 71 := (Bx.newAt (w.alloc (.cells #[.bool s, .slice A k c, .bool s', .slice A' k' c'] 71)) [.bool t, .slice C l e, .bool t', .slice C' l' e'] 71 (w.heap.size + 1) (by simp)).alloc (.cells #[.bool false, .slice none 0 0, .bool false, .slice none 0 0] 71)
 have R : Bx (((w.alloc (.cells #[.bool s, .slice A k c, .bool s', .slice A' k' c'] 71)).alloc (.cells #[.bool t, .slice C l e, .bool t', .slice C' l' e'] 71)).alloc (.cells #[.bool false, .slice none 0 0, .bool false, .slice none 0 0] 71)) (w.heap.size + 1 + 1) [.bool false, .slice none 0 0, .bool false, .slice none 0 0] 71 := Bx.newAt ((w.alloc (.cells #[.bool s, .slice A k c, .bool s', .slice A' k' c'] 71)).alloc (.cells #[.bool t, .slice C l e, .bool t', .slice C' l' e'] 71)) [.bool false, .slice none 0 0, .bool false, .slice none 0 0] 71 (w.heap.size + 1 + 1) (by simp)
 have hb : Below w.heap.size w (((w.alloc (.cells #[.bool s, .slice A k c, .bool s', .slice A' k' c'] 71)).alloc (.cells #[.bool t, .slice C l e, .bool t', .slice C' l' e'] 71)).alloc (.cells #[.bool false, .slice none 0 0, .bool false, .slice none 0 0] 71)) := (((Below.refl _ _).alloc (by simp) _).alloc (by simp <;> omega) _).alloc (by simp <;> omega) _
 go_enter Tryz.func37, Tryz.ntmps37
 go_wp2_with fail
 generalize ((w.alloc (.cells #[.bool s, .slice A k c, .bool s', .slice A' k' c'] 71)).alloc (.cells #[.bool t, .slice C l e, .bool t', .slice C' l' e'] 71)).alloc (.cells #[.bool false, .slice none 0 0, .bool false, .slice none 0 0] 71) = W at *
 have hxn : IntAt W (.agg #[.bool s, .slice A k c]) x.num := (hx.below hb).num
 have hxd : IntAt W (.agg #[.bool s', .slice A' k' c']) 0 := by have := (hx.below hb).den; rwa [dx] at this
 have hyn : IntAt W (.agg #[.bool t, .slice C l e]) y.num := (hy.below hb).num
 have hyd : IntAt W (.agg #[.bool t', .slice C' l' e']) 0 := by have := (hy.below hb).den; rwa [dy] at this
 clear dx dy hx1 hy1
 generalize x.num = xn at *
 generalize y.num = yn at *
 ((with_reducible refine (isZero_any 0 _ _ hxd nl_int0).mono ?_))
 rintro e1 w1 ⟨rfl, hb1⟩
 replace X := X.below hb1
 replace X_0 := X.cell 0 rfl
 replace X_1 := X.cell 1 rfl
 replace X_2 := X.cell 2 rfl
 replace X_3 := X.cell 3 rfl
 replace Y := Y.below hb1
 replace Y_0 := Y.cell 0 rfl
 replace Y_1 := Y.cell 1 rfl
 replace Y_2 := Y.cell 2 rfl
 replace Y_3 := Y.cell 3 rfl
 replace R := R.below hb1
 replace R_0 := R.cell 0 rfl
 replace R_f0 := R.free 0
 replace R_1 := R.cell 1 rfl
 replace R_f1 := R.free 1
 replace R_2 := R.cell 2 rfl
 replace R_f2 := R.free 2
 replace R_3 := R.cell 3 rfl
 replace R_f3 := R.free 3
 replace hk := Keep.below hb1
 replace hxn := hxn.keep hk
 replace hxd := hxd.keep hk
 replace hyn := hyn.keep hk
 replace hyd := hyd.keep hk
 replace hb := hb.trans (hb1.mono hb.size)
 have hdd : decide ((0 : Int) = 0) = true := rfl
 rw [hdd]
 clear hdd
 go_wp2_with fail
 ((with_reducible refine (isZero_any 0 _ _ hyd nl_int0).mono ?_))
 rintro e2 w2 ⟨rfl, hb2⟩
 replace X := X.below hb2
 replace X_0 := X.cell 0 rfl
 replace X_1 := X.cell 1 rfl
 replace X_2 := X.cell 2 rfl
 replace X_3 := X.cell 3 rfl
 replace Y := Y.below hb2
 replace Y_0 := Y.cell 0 rfl
 replace Y_1 := Y.cell 1 rfl
 replace Y_2 := Y.cell 2 rfl
 replace Y_3 := Y.cell 3 rfl
 replace R := R.below hb2
 replace R_0 := R.cell 0 rfl
 replace R_f0 := R.free 0
 replace R_1 := R.cell 1 rfl
 replace R_f1 := R.free 1
 replace R_2 := R.cell 2 rfl
 replace R_f2 := R.free 2
 replace R_3 := R.cell 3 rfl
 replace R_f3 := R.free 3
 replace hk := Keep.below hb2
 replace hxn := hxn.keep hk
 replace hxd := hxd.keep hk
 replace hyn := hyn.keep hk
 replace hyd := hyd.keep hk
 replace hb := hb.trans (hb2.mono hb.size)
 have hdd : decide ((0 : Int) = 0) = true := rfl
 rw [hdd]
 clear hdd
 go_wp2_with fail
 ((with_reducible refine (add_any xn yn _ _ _ hxn hyn (by omega) (by omega)).mono ?_))
 rintro e5 w5 ⟨v5, rfl, h5, hb5⟩
 obtain ⟨s5, A5, k5, c5, rfl⟩ := h5.form
 replace X := X.below hb5
 replace X_0 := X.cell 0 rfl
 replace X_1 := X.cell 1 rfl
 replace X_2 := X.cell 2 rfl
 replace X_3 := X.cell 3 rfl
 replace Y := Y.below hb5
 replace Y_0 := Y.cell 0 rfl
 replace Y_1 := Y.cell 1 rfl
 replace Y_2 := Y.cell 2 rfl
 replace Y_3 := Y.cell 3 rfl
 replace R := R.below hb5
 replace R_0 := R.cell 0 rfl
 replace R_f0 := R.free 0
 replace R_1 := R.cell 1 rfl
 replace R_f1 := R.free 1
 replace R_2 := R.cell 2 rfl
 replace R_f2 := R.free 2
 replace R_3 := R.cell 3 rfl
 replace R_f3 := R.free 3
 replace hk := Keep.below hb5
 replace hb := hb.trans (hb5.mono hb.size)
 go_wp2_with fail
 have X_ltw5 := X.lt
 have Y_ltw5 := Y.lt
 have R_ltw5 := R.lt
 have hszw5 := hb.size
 replace X := ((((X.far 0 (.bool s5) (show w.heap.size + 1 + 1 ≠ w.heap.size by omega)).far 1 (.slice A5 k5 c5) (show w.heap.size + 1 + 1 ≠ w.heap.size by omega)).far 2 (.bool false) (show w.heap.size + 1 + 1 ≠ w.heap.size by omega)).far 3 (.slice none 0 0) (show w.heap.size + 1 + 1 ≠ w.heap.size by omega))
 replace Y := ((((Y.far 0 (.bool s5) (show w.heap.size + 1 + 1 ≠ w.heap.size + 1 by omega)).far 1 (.slice A5 k5 c5) (show w.heap.size + 1 + 1 ≠ w.heap.size + 1 by omega)).far 2 (.bool false) (show w.heap.size + 1 + 1 ≠ w.heap.size + 1 by omega)).far 3 (.slice none 0 0) (show w.heap.size + 1 + 1 ≠ w.heap.size + 1 by omega))
 replace hk := rat_stored (v0 := .bool s5) (v1 := .slice A5 k5 c5) (v2 := .bool false) (v3 := .slice none 0 0) hb (by omega) R
 clear R hb
 obtain ⟨R, hb, hk⟩ := hk
 replace h5 := h5.keep hk
 generalize (((w5.setCell ⟨w.heap.size + 1 + 1, 0, none⟩ (.bool s5)).setCell ⟨w.heap.size + 1 + 1, 1, none⟩ (.slice A5 k5 c5)).setCell ⟨w.heap.size + 1 + 1, 2, none⟩ (.bool false)).setCell ⟨w.heap.size + 1 + 1, 3, none⟩ (.slice none 0 0) = W6 at *
 replace X_0 := X.cell 0 rfl
 replace X_1 := X.cell 1 rfl
 replace X_2 := X.cell 2 rfl
 replace X_3 := X.cell 3 rfl
 replace Y_0 := Y.cell 0 rfl
 replace Y_1 := Y.cell 1 rfl
 replace Y_2 := Y.cell 2 rfl
 replace Y_3 := Y.cell 3 rfl
 replace R_0 := R.cell 0 rfl
 replace R_1 := R.cell 1 rfl
 replace R_2 := R.cell 2 rfl
 replace R_3 := R.cell 3 rfl
 exact bodyPost_ret (v := .agg #[.bool s5, .slice A5 k5 c5, .bool false, .slice none 0 0]) (by simp [results, Tryz.results37, go_sem, R_0, R_1, R_2, R_3]) rfl ⟨_, rfl, RatAt.of h5 (IntAt.zero _) HE.out.1 HE.out.2, hb⟩
theorem ratAdd_iy (x y : Rat) (vx vy : Value) (w : World) (hx : RatAt w vx x) (hy : RatAt w vy y) (hx1 : x.den = 1) (hy1 : y.den ≠ 1) (K : Nat) (bx : RL K x) (bY : RL K y) (hK : 10 * K + 40 ≤ LIM) :
  Calls Tryz.prog 37 #[vx, vy] w (RetRat w (x + y)) := by
 obtain ⟨s, A, k, c, s', A', k', c', rfl⟩ := hx.form
 obtain ⟨t, C, l, e, t', C', l', e', rfl⟩ := hy.form
 unfold LIM at hK
 have ⟨bx1, bx2⟩ := bx
 have ⟨by1, by2⟩ := bY
 obtain ⟨e1, e2⟩ := add_left (y := y) hx1
 have HE : Hid ((x + y).num = x.num * y.den + y.num ∧ denI (x + y) = y.den) := ⟨e1, by rw [denI_ne (by rw [e2]; exact hy1), e2]⟩
 have dx : denI x = 0 := denI_one.2 hx1
 clear e1 e2
 have X : Bx (((w.alloc (.cells #[.bool s, .slice A k c, .bool s', .slice A' k' c'] 71)).alloc (.cells #[.bool t, .slice C l e, .bool t', .slice C' l' e'] 71)).alloc (.cells #[.bool false, .slice none 0 0, .bool false, .slice none 0 0] 71)) (w.heap.size) [.bool s, .slice A k c, .bool s', .slice A' k' c'] 71 := ((Bx.newAt w [.bool s, .slice A k c, .bool s', .slice A' k' c'] 71 (w.heap.size) (by simp)).alloc (.cells #[.bool t, .slice C l e, .bool t', .slice C' l' e'] 71)).alloc (.cells #[.bool false, .slice none 0 0, .bool false, .slice none 0 0] 71)
 have Y : Bx (((w.alloc (.cells #[.bool s, .slice A k c, .bool s', .slice A' k' c'] 71)).alloc (.cells #[.bool t, .slice C l e, .bool t', .slice C' l' e'] 71)).alloc (.cells #[.bool false, .slice none 0 0, .bool false, .slice none 0 0] 71)) (w.heap.size + 1) [.bool t, .slice C l e, .bool t', .slice C' l' e'] 71 := (Bx.newAt (w.alloc (.cells #[.bool s, .slice A k c, .bool s', .slice A' k' c'] 71)) [.bool t, .slice C l e, .bool t', .slice C' l' e'] 71 (w.heap.size + 1) (by simp)).alloc (.cells #[.bool false, .slice none 0 0, .bool false, .slice none 0 0] 71)
 have R : Bx (((w.alloc (.cells #[.bool s, .slice A k c, .bool s', .slice A' k' c'] 71)).alloc (.cells #[.bool t, .slice C l e, .bool t', .slice C' l' e'] 71)).alloc (.cells #[.bool false, .slice none 0 0, .bool false, .slice none 0 0] 71)) (w.heap.size + 1 + 1) [.bool false, .slice none 0 0, .bool false, .slice none 0 0] 71 := Bx.newAt ((w.alloc (.cells #[.bool s, .slice A k c, .bool s', .slice A' k' c'] 71)).alloc (.cells #[.bool t, .slice C l e, .bool t', .slice C' l' e'] 71)) [.bool false, .slice none 0 0, .bool false, .slice none 0 0] 71 (w.heap.size + 1 + 1) (by simp)
 have hb : Below w.heap.size w (((w.alloc (.cells #[.bool s, .slice A k c, .bool s', .slice A' k' c'] 71)).alloc (.cells #[.bool t, .slice C l e, .bool t', .slice C' l' e'] 71)).alloc (.cells #[.bool false, .slice none 0 0, .bool false, .slice none 0 0] 71)) := (((Below.refl _ _).alloc (by simp) _).alloc (by simp <;> omega) _).alloc (by simp <;> omega) _
 go_enter Tryz.func37, Tryz.ntmps37
 go_wp2_with fail
 generalize ((w.alloc (.cells #[.bool s, .slice A k c, .bool s', .slice A' k' c'] 71)).alloc (.cells #[.bool t, .slice C l e, .bool t', .slice C' l' e'] 71)).alloc (.cells #[.bool false, .slice none 0 0, .bool false, .slice none 0 0] 71) = W at *
 have hxn : IntAt W (.agg #[.bool s, .slice A k c]) x.num := (hx.below hb).num
 have hxd : IntAt W (.agg #[.bool s', .slice A' k' c']) 0 := by have := (hx.below hb).den; rwa [dx] at this
 have hyn : IntAt W (.agg #[.bool t, .slice C l e]) y.num := (hy.below hb).num
 have hyd : IntAt W (.agg #[.bool t', .slice C' l' e']) (y.den : Int) := (hy.below hb).denN hy1
 have hde : decide ((y.den : Int) = 0) = false := by have := y.den_nz; simpa using this
 have hby : nl (y.den : Int).natAbs ≤ K := by2
 clear dx hx1 hy1 by2 bY bx bx2
 generalize x.num = xn at *
 generalize y.num = yn at *
 generalize (y.den : Int) = yd at *
 have hml := nl_mul_int xn yd K K bx1 hby
 ((with_reducible refine (isZero_any 0 _ _ hxd nl_int0).mono ?_))
 rintro e1 w1 ⟨rfl, hb1⟩
 replace X := X.below hb1
 replace X_0 := X.cell 0 rfl
 replace X_1 := X.cell 1 rfl
 replace X_2 := X.cell 2 rfl
 replace X_3 := X.cell 3 rfl
 replace Y := Y.below hb1
 replace Y_0 := Y.cell 0 rfl
 replace Y_1 := Y.cell 1 rfl
 replace Y_2 := Y.cell 2 rfl
 replace Y_3 := Y.cell 3 rfl
 replace R := R.below hb1
 replace R_0 := R.cell 0 rfl
 replace R_f0 := R.free 0
 replace R_1 := R.cell 1 rfl
 replace R_f1 := R.free 1
 replace R_2 := R.cell 2 rfl
 replace R_f2 := R.free 2
 replace R_3 := R.cell 3 rfl
 replace R_f3 := R.free 3
 replace hk := Keep.below hb1
 replace hxn := hxn.keep hk
 replace hxd := hxd.keep hk
 replace hyn := hyn.keep hk
 replace hyd := hyd.keep hk
 replace hb := hb.trans (hb1.mono hb.size)
 have hdd : decide ((0 : Int) = 0) = true := rfl
 rw [hdd]
 clear hdd
 go_wp2_with fail
 ((with_reducible refine (isZero_any yd _ _ hyd (by omega)).mono ?_))
 rintro e2 w2 ⟨rfl, hb2⟩
 replace X := X.below hb2
 replace X_0 := X.cell 0 rfl
 replace X_1 := X.cell 1 rfl
 replace X_2 := X.cell 2 rfl
 replace X_3 := X.cell 3 rfl
 replace Y := Y.below hb2
 replace Y_0 := Y.cell 0 rfl
 replace Y_1 := Y.cell 1 rfl
 replace Y_2 := Y.cell 2 rfl
 replace Y_3 := Y.cell 3 rfl
 replace R := R.below hb2
 replace R_0 := R.cell 0 rfl
 replace R_f0 := R.free 0
 replace R_1 := R.cell 1 rfl
 replace R_f1 := R.free 1
 replace R_2 := R.cell 2 rfl
 replace R_f2 := R.free 2
 replace R_3 := R.cell 3 rfl
 replace R_f3 := R.free 3
 replace hk := Keep.below hb2
 replace hxn := hxn.keep hk
 replace hxd := hxd.keep hk
 replace hyn := hyn.keep hk
 replace hyd := hyd.keep hk
 replace hb := hb.trans (hb2.mono hb.size)
 rw [hde]
 clear hde
 go_wp2_with fail
 ((with_reducible refine (isZero_any 0 _ _ hxd nl_int0).mono ?_))
 rintro e3 w3 ⟨rfl, hb3⟩
 replace X := X.below hb3
 replace X_0 := X.cell 0 rfl
 replace X_1 := X.cell 1 rfl
 replace X_2 := X.cell 2 rfl
 replace X_3 := X.cell 3 rfl
 replace Y := Y.below hb3
 replace Y_0 := Y.cell 0 rfl
 replace Y_1 := Y.cell 1 rfl
 replace Y_2 := Y.cell 2 rfl
 replace Y_3 := Y.cell 3 rfl
 replace R := R.below hb3
 replace R_0 := R.cell 0 rfl
 replace R_f0 := R.free 0
 replace R_1 := R.cell 1 rfl
 replace R_f1 := R.free 1
 replace R_2 := R.cell 2 rfl
 replace R_f2 := R.free 2
 replace R_3 := R.cell 3 rfl
 replace R_f3 := R.free 3
 replace hk := Keep.below hb3
 replace hxn := hxn.keep hk
 replace hxd := hxd.keep hk
 replace hyn := hyn.keep hk
 replace hyd := hyd.keep hk
 replace hb := hb.trans (hb3.mono hb.size)
 have hdd : decide ((0 : Int) = 0) = true := rfl
 rw [hdd]
 clear hdd
 go_wp2_with fail
 replace hxn := hxn.drew
 replace hyn := hyn.drew
 replace hyd := hyd.drew
 replace X := X.drew
 replace Y := Y.drew
 replace R := R.drew
 replace hb := hb.drew
 replace X_0 := X.cell 0 rfl
 replace X_1 := X.cell 1 rfl
 replace X_2 := X.cell 2 rfl
 replace X_3 := X.cell 3 rfl
 replace Y_0 := Y.cell 0 rfl
 replace Y_1 := Y.cell 1 rfl
 replace Y_2 := Y.cell 2 rfl
 replace Y_3 := Y.cell 3 rfl
 replace R_0 := R.cell 0 rfl
 replace R_f0 := R.free 0
 replace R_1 := R.cell 1 rfl
 replace R_f1 := R.free 1
 replace R_2 := R.cell 2 rfl
 replace R_f2 := R.free 2
 replace R_3 := R.cell 3 rfl
 replace R_f3 := R.free 3
 have n_R_X : w.heap.size + 1 + 1 ≠ w.heap.size := by omega
 have n_R_Y : w.heap.size + 1 + 1 ≠ w.heap.size + 1 := by omega
 go_region_held3 (fun w' => w'.cell? ⟨w.heap.size, 0, none⟩ = some (.bool s) ∧ w'.cell? ⟨w.heap.size, 1, none⟩ = some (.slice A k c) ∧ w'.cell? ⟨w.heap.size, 2, none⟩ = some (.bool s') ∧ w'.cell? ⟨w.heap.size, 3, none⟩ = some (.slice A' k' c') ∧ w'.cell? ⟨w.heap.size + 1, 0, none⟩ = some (.bool t) ∧ w'.cell? ⟨w.heap.size + 1, 1, none⟩ = some (.slice C l e) ∧ w'.cell? ⟨w.heap.size + 1, 2, none⟩ = some (.bool t') ∧ w'.cell? ⟨w.heap.size + 1, 3, none⟩ = some (.slice C' l' e'))
  (first | (with_reducible exact ⟨X_0, X_1, X_2, X_3, Y_0, Y_1, Y_2, Y_3⟩)
         | (with_reducible exact ⟨((cell_far _ _ _ _ _ _ n_R_X).trans ((cell_far _ _ _ _ _ _ n_R_X).trans ((cell_far _ _ _ _ _ _ n_R_X).trans ((cell_far _ _ _ _ _ _ n_R_X).trans X_0)))), ((cell_far _ _ _ _ _ _ n_R_X).trans ((cell_far _ _ _ _ _ _ n_R_X).trans ((cell_far _ _ _ _ _ _ n_R_X).trans ((cell_far _ _ _ _ _ _ n_R_X).trans X_1)))), ((cell_far _ _ _ _ _ _ n_R_X).trans ((cell_far _ _ _ _ _ _ n_R_X).trans ((cell_far _ _ _ _ _ _ n_R_X).trans ((cell_far _ _ _ _ _ _ n_R_X).trans X_2)))), ((cell_far _ _ _ _ _ _ n_R_X).trans ((cell_far _ _ _ _ _ _ n_R_X).trans ((cell_far _ _ _ _ _ _ n_R_X).trans ((cell_far _ _ _ _ _ _ n_R_X).trans X_3)))), ((cell_far _ _ _ _ _ _ n_R_Y).trans ((cell_far _ _ _ _ _ _ n_R_Y).trans ((cell_far _ _ _ _ _ _ n_R_Y).trans ((cell_far _ _ _ _ _ _ n_R_Y).trans Y_0)))), ((cell_far _ _ _ _ _ _ n_R_Y).trans ((cell_far _ _ _ _ _ _ n_R_Y).trans ((cell_far _ _ _ _ _ _ n_R_Y).trans ((cell_far _ _ _ _ _ _ n_R_Y).trans Y_1)))), ((cell_far _ _ _ _ _ _ n_R_Y).trans ((cell_far _ _ _ _ _ _ n_R_Y).trans ((cell_far _ _ _ _ _ _ n_R_Y).trans ((cell_far _ _ _ _ _ _ n_R_Y).trans Y_2)))), ((cell_far _ _ _ _ _ _ n_R_Y).trans ((cell_far _ _ _ _ _ _ n_R_Y).trans ((cell_far _ _ _ _ _ _ n_R_Y).trans ((cell_far _ _ _ _ _ _ n_R_Y).trans Y_3))))⟩))
  (first
   | (go_at_call 27; (with_reducible refine (mul_any xn yd _ _ _ hxn hyd (by omega)).mono ?_); rintro e4 w4 ⟨v4, rfl, h4, hb4⟩; obtain ⟨s4, A4, k4, c4, rfl⟩ := h4.form; replace X := X.below hb4; replace X_0 := X.cell 0 rfl; replace X_1 := X.cell 1 rfl; replace X_2 := X.cell 2 rfl; replace X_3 := X.cell 3 rfl; replace Y := Y.below hb4; replace Y_0 := Y.cell 0 rfl; replace Y_1 := Y.cell 1 rfl; replace Y_2 := Y.cell 2 rfl; replace Y_3 := Y.cell 3 rfl; replace R := R.below hb4; replace R_0 := R.cell 0 rfl; replace R_f0 := R.free 0; replace R_1 := R.cell 1 rfl; replace R_f1 := R.free 1; replace R_2 := R.cell 2 rfl; replace R_f2 := R.free 2; replace R_3 := R.cell 3 rfl; replace R_f3 := R.free 3; replace hk := Keep.below hb4; replace hxn := hxn.keep hk; replace hyn := hyn.keep hk; replace hyd := hyd.keep hk; (try replace h5 := h5.keep hk); replace hb := hb.trans (hb4.mono hb.size))
   | (go_at_call 64; (with_reducible refine (add_any (xn * yd) yn _ _ _ h4 hyn (by omega) (by omega)).mono ?_); rintro e5 w5 ⟨v5, rfl, h5, hb5⟩; obtain ⟨s5, A5, k5, c5, rfl⟩ := h5.form; replace X := X.below hb5; replace X_0 := X.cell 0 rfl; replace X_1 := X.cell 1 rfl; replace X_2 := X.cell 2 rfl; replace X_3 := X.cell 3 rfl; replace Y := Y.below hb5; replace Y_0 := Y.cell 0 rfl; replace Y_1 := Y.cell 1 rfl; replace Y_2 := Y.cell 2 rfl; replace Y_3 := Y.cell 3 rfl; replace R := R.below hb5; replace R_0 := R.cell 0 rfl; replace R_f0 := R.free 0; replace R_1 := R.cell 1 rfl; replace R_f1 := R.free 1; replace R_2 := R.cell 2 rfl; replace R_f2 := R.free 2; replace R_3 := R.cell 3 rfl; replace R_f3 := R.free 3; replace hk := Keep.below hb5; replace hxn := hxn.keep hk; replace hyn := hyn.keep hk; replace hyd := hyd.keep hk; (try replace h4 := h4.keep hk); replace hb := hb.trans (hb5.mono hb.size)))
 all_goals (
  go_wp2_with fail
  have X_ltw5 := X.lt
  have Y_ltw5 := Y.lt
  have R_ltw5 := R.lt
  have hszw5 := hb.size
  replace X := ((((X.far 0 (.bool s5) (show w.heap.size + 1 + 1 ≠ w.heap.size by omega)).far 1 (.slice A5 k5 c5) (show w.heap.size + 1 + 1 ≠ w.heap.size by omega)).far 2 (.bool t') (show w.heap.size + 1 + 1 ≠ w.heap.size by omega)).far 3 (.slice C' l' e') (show w.heap.size + 1 + 1 ≠ w.heap.size by omega))
  replace Y := ((((Y.far 0 (.bool s5) (show w.heap.size + 1 + 1 ≠ w.heap.size + 1 by omega)).far 1 (.slice A5 k5 c5) (show w.heap.size + 1 + 1 ≠ w.heap.size + 1 by omega)).far 2 (.bool t') (show w.heap.size + 1 + 1 ≠ w.heap.size + 1 by omega)).far 3 (.slice C' l' e') (show w.heap.size + 1 + 1 ≠ w.heap.size + 1 by omega))
  replace hk := rat_stored (v0 := .bool s5) (v1 := .slice A5 k5 c5) (v2 := .bool t') (v3 := .slice C' l' e') hb (by omega) R
  clear R hb
  obtain ⟨R, hb, hk⟩ := hk
  replace h5 := h5.keep hk
  replace hyd := hyd.keep hk
  generalize (((w5.setCell ⟨w.heap.size + 1 + 1, 0, none⟩ (.bool s5)).setCell ⟨w.heap.size + 1 + 1, 1, none⟩ (.slice A5 k5 c5)).setCell ⟨w.heap.size + 1 + 1, 2, none⟩ (.bool t')).setCell ⟨w.heap.size + 1 + 1, 3, none⟩ (.slice C' l' e') = W6 at *
  replace X_0 := X.cell 0 rfl
  replace X_1 := X.cell 1 rfl
  replace X_2 := X.cell 2 rfl
  replace X_3 := X.cell 3 rfl
  replace Y_0 := Y.cell 0 rfl
  replace Y_1 := Y.cell 1 rfl
  replace Y_2 := Y.cell 2 rfl
  replace Y_3 := Y.cell 3 rfl
  replace R_0 := R.cell 0 rfl
  replace R_1 := R.cell 1 rfl
  replace R_2 := R.cell 2 rfl
  replace R_3 := R.cell 3 rfl
  exact bodyPost_ret (v := .agg #[.bool s5, .slice A5 k5 c5, .bool t', .slice C' l' e']) (by simp [results, Tryz.results37, go_sem, R_0, R_1, R_2, R_3]) rfl ⟨_, rfl, RatAt.of h5 hyd HE.out.1 HE.out.2, hb⟩
  )
theorem ratAdd_xi (x y : Rat) (vx vy : Value) (w : World) (hx : RatAt w vx x) (hy : RatAt w vy y) (hx1 : x.den ≠ 1) (hy1 : y.den = 1) (K : Nat) (bx : RL K x) (bY : RL K y) (hK : 10 * K + 40 ≤ LIM) :
  Calls Tryz.prog 37 #[vx, vy] w (RetRat w (x + y)) := by
 obtain ⟨s, A, k, c, s', A', k', c', rfl⟩ := hx.form
 obtain ⟨t, C, l, e, t', C', l', e', rfl⟩ := hy.form
 unfold LIM at hK
 have ⟨bx1, bx2⟩ := bx
 have ⟨by1, by2⟩ := bY
 obtain ⟨e1, e2⟩ := add_right (x := x) hy1
 have HE : Hid ((x + y).num = y.num * x.den + x.num ∧ denI (x + y) = x.den) := ⟨e1, by rw [denI_ne (by rw [e2]; exact hx1), e2]⟩
 have dy : denI y = 0 := denI_one.2 hy1
 clear e1 e2
 have X : Bx (((w.alloc (.cells #[.bool s, .slice A k c, .bool s', .slice A' k' c'] 71)).alloc (.cells #[.bool t, .slice C l e, .bool t', .slice C' l' e'] 71)).alloc (.cells #[.bool false, .slice none 0 0, .bool false, .slice none 0 0] 71)) (w.heap.size) [.bool s, .slice A k c, .bool s', .slice A' k' c'] 71 := ((Bx.newAt w [.bool s, .slice A k c, .bool s', .slice A' k' c'] 71 (w.heap.size) (by simp)).alloc (.cells #[.bool t, .slice C l e, .bool t', .slice C' l' e'] 71)).alloc (.cells #[.bool false, .slice none 0 0, .bool false, .slice none 0 0] 71)
 have Y : Bx (((w.alloc (.cells #[.bool s, .slice A k c, .bool s', .slice A' k' c'] 71)).alloc (.cells #[.bool t, .slice C l e, .bool t', .slice C' l' e'] 71)).alloc (.cells #[.bool false, .slice none 0 0, .bool false, .slice none 0 0] 71)) (w.heap.size + 1) [.bool t, .slice C l e, .bool t', .slice C' l' e'] 71 := (Bx.newAt (w.alloc (.cells #[.bool s, .slice A k c, .bool s', .slice A' k' c'] 71)) [.bool t, .slice C l e, .bool t', .slice C' l' e'] 71 (w.heap.size + 1) (by simp)).alloc (.cells #[.bool false, .slice none 0 0, .bool false, .slice none 0 0] 71)
 have R : Bx (((w.alloc (.cells #[.bool s, .slice A k c, .bool s', .slice A' k' c'] 71)).alloc (.cells #[.bool t, .slice C l e, .bool t', .slice C' l' e'] 71)).alloc (.cells #[.bool false, .slice none 0 0, .bool false, .slice none 0 0] 71)) (w.heap.size + 1 + 1) [.bool false, .slice none 0 0, .bool false, .slice none 0 0] 71 := Bx.newAt ((w.alloc (.cells #[.bool s, .slice A k c, .bool s', .slice A' k' c'] 71)).alloc (.cells #[.bool t, .slice C l e, .bool t', .slice C' l' e'] 71)) [.bool false, .slice none 0 0, .bool false, .slice none 0 0] 71 (w.heap.size + 1 + 1) (by simp)
 have hb : Below w.heap.size w (((w.alloc (.cells #[.bool s, .slice A k c, .bool s', .slice A' k' c'] 71)).alloc (.cells #[.bool t, .slice C l e, .bool t', .slice C' l' e'] 71)).alloc (.cells #[.bool false, .slice none 0 0, .bool false, .slice none 0 0] 71)) := (((Below.refl _ _).alloc (by simp) _).alloc (by simp <;> omega) _).alloc (by simp <;> omega) _
 go_enter Tryz.func37, Tryz.ntmps37
 go_wp2_with fail
 generalize ((w.alloc (.cells #[.bool s, .slice A k c, .bool s', .slice A' k' c'] 71)).alloc (.cells #[.bool t, .slice C l e, .bool t', .slice C' l' e'] 71)).alloc (.cells #[.bool false, .slice none 0 0, .bool false, .slice none 0 0] 71) = W at *
 have hxn : IntAt W (.agg #[.bool s, .slice A k c]) x.num := (hx.below hb).num
 have hyd : IntAt W (.agg #[.bool t', .slice C' l' e']) 0 := by have := (hy.below hb).den; rwa [dy] at this
 have hyn : IntAt W (.agg #[.bool t, .slice C l e]) y.num := (hy.below hb).num
 have hxd : IntAt W (.agg #[.bool s', .slice A' k' c']) (x.den : Int) := (hx.below hb).denN hx1
 have hde : decide ((x.den : Int) = 0) = false := by have := x.den_nz; simpa using this
 have hby : nl (x.den : Int).natAbs ≤ K := bx2
 clear dy hx1 hy1 by2 bY bx bx2
 generalize x.num = xn at *
 generalize y.num = yn at *
 generalize (x.den : Int) = xd at *
 have HDE := Lib.hid hde
 clear hde
 have hml := nl_mul_int yn xd K K by1 hby
 ((with_reducible refine (isZero_any xd _ _ hxd (by omega)).mono ?_))
 rintro e1 w1 ⟨rfl, hb1⟩
 replace X := X.below hb1
 replace X_0 := X.cell 0 rfl
 replace X_1 := X.cell 1 rfl
 replace X_2 := X.cell 2 rfl
 replace X_3 := X.cell 3 rfl
 replace Y := Y.below hb1
 replace Y_0 := Y.cell 0 rfl
 replace Y_1 := Y.cell 1 rfl
 replace Y_2 := Y.cell 2 rfl
 replace Y_3 := Y.cell 3 rfl
 replace R := R.below hb1
 replace R_0 := R.cell 0 rfl
 replace R_f0 := R.free 0
 replace R_1 := R.cell 1 rfl
 replace R_f1 := R.free 1
 replace R_2 := R.cell 2 rfl
 replace R_f2 := R.free 2
 replace R_3 := R.cell 3 rfl
 replace R_f3 := R.free 3
 replace hk := Keep.below hb1
 replace hxn := hxn.keep hk
 replace hxd := hxd.keep hk
 replace hyn := hyn.keep hk
 replace hyd := hyd.keep hk
 replace hb := hb.trans (hb1.mono hb.size)
 rw [HDE.out]
 go_wp2_with fail
 ((with_reducible refine (isZero_any xd _ _ hxd (by omega)).mono ?_))
 rintro e2 w2 ⟨rfl, hb2⟩
 replace X := X.below hb2
 replace X_0 := X.cell 0 rfl
 replace X_1 := X.cell 1 rfl
 replace X_2 := X.cell 2 rfl
 replace X_3 := X.cell 3 rfl
 replace Y := Y.below hb2
 replace Y_0 := Y.cell 0 rfl
 replace Y_1 := Y.cell 1 rfl
 replace Y_2 := Y.cell 2 rfl
 replace Y_3 := Y.cell 3 rfl
 replace R := R.below hb2
 replace R_0 := R.cell 0 rfl
 replace R_f0 := R.free 0
 replace R_1 := R.cell 1 rfl
 replace R_f1 := R.free 1
 replace R_2 := R.cell 2 rfl
 replace R_f2 := R.free 2
 replace R_3 := R.cell 3 rfl
 replace R_f3 := R.free 3
 replace hk := Keep.below hb2
 replace hxn := hxn.keep hk
 replace hxd := hxd.keep hk
 replace hyn := hyn.keep hk
 replace hyd := hyd.keep hk
 replace hb := hb.trans (hb2.mono hb.size)
 rw [HDE.out]
 go_wp2_with fail
 ((with_reducible refine (isZero_any 0 _ _ hyd nl_int0).mono ?_))
 rintro e3 w3 ⟨rfl, hb3⟩
 replace X := X.below hb3
 replace X_0 := X.cell 0 rfl
 replace X_1 := X.cell 1 rfl
 replace X_2 := X.cell 2 rfl
 replace X_3 := X.cell 3 rfl
 replace Y := Y.below hb3
 replace Y_0 := Y.cell 0 rfl
 replace Y_1 := Y.cell 1 rfl
 replace Y_2 := Y.cell 2 rfl
 replace Y_3 := Y.cell 3 rfl
 replace R := R.below hb3
 replace R_0 := R.cell 0 rfl
 replace R_f0 := R.free 0
 replace R_1 := R.cell 1 rfl
 replace R_f1 := R.free 1
 replace R_2 := R.cell 2 rfl
 replace R_f2 := R.free 2
 replace R_3 := R.cell 3 rfl
 replace R_f3 := R.free 3
 replace hk := Keep.below hb3
 replace hxn := hxn.keep hk
 replace hxd := hxd.keep hk
 replace hyn := hyn.keep hk
 replace hyd := hyd.keep hk
 replace hb := hb.trans (hb3.mono hb.size)
 have hdd : decide ((0 : Int) = 0) = true := rfl
 rw [hdd]
 clear hdd
 go_wp2_with fail
 replace hxn := hxn.drew
 replace hyn := hyn.drew
 replace hxd := hxd.drew
 replace X := X.drew
 replace Y := Y.drew
 replace R := R.drew
 replace hb := hb.drew
 replace X_0 := X.cell 0 rfl
 replace X_1 := X.cell 1 rfl
 replace X_2 := X.cell 2 rfl
 replace X_3 := X.cell 3 rfl
 replace Y_0 := Y.cell 0 rfl
 replace Y_1 := Y.cell 1 rfl
 replace Y_2 := Y.cell 2 rfl
 replace Y_3 := Y.cell 3 rfl
 replace R_0 := R.cell 0 rfl
 replace R_f0 := R.free 0
 replace R_1 := R.cell 1 rfl
 replace R_f1 := R.free 1
 replace R_2 := R.cell 2 rfl
 replace R_f2 := R.free 2
 replace R_3 := R.cell 3 rfl
 replace R_f3 := R.free 3
 have n_R_X : w.heap.size + 1 + 1 ≠ w.heap.size := by omega
 have n_R_Y : w.heap.size + 1 + 1 ≠ w.heap.size + 1 := by omega
 go_region_held3 (fun w' => w'.cell? ⟨w.heap.size, 0, none⟩ = some (.bool s) ∧ w'.cell? ⟨w.heap.size, 1, none⟩ = some (.slice A k c) ∧ w'.cell? ⟨w.heap.size, 2, none⟩ = some (.bool s') ∧ w'.cell? ⟨w.heap.size, 3, none⟩ = some (.slice A' k' c') ∧ w'.cell? ⟨w.heap.size + 1, 0, none⟩ = some (.bool t) ∧ w'.cell? ⟨w.heap.size + 1, 1, none⟩ = some (.slice C l e) ∧ w'.cell? ⟨w.heap.size + 1, 2, none⟩ = some (.bool t') ∧ w'.cell? ⟨w.heap.size + 1, 3, none⟩ = some (.slice C' l' e'))
  (first | (with_reducible exact ⟨X_0, X_1, X_2, X_3, Y_0, Y_1, Y_2, Y_3⟩)
         | (with_reducible exact ⟨((cell_far _ _ _ _ _ _ n_R_X).trans ((cell_far _ _ _ _ _ _ n_R_X).trans ((cell_far _ _ _ _ _ _ n_R_X).trans ((cell_far _ _ _ _ _ _ n_R_X).trans X_0)))), ((cell_far _ _ _ _ _ _ n_R_X).trans ((cell_far _ _ _ _ _ _ n_R_X).trans ((cell_far _ _ _ _ _ _ n_R_X).trans ((cell_far _ _ _ _ _ _ n_R_X).trans X_1)))), ((cell_far _ _ _ _ _ _ n_R_X).trans ((cell_far _ _ _ _ _ _ n_R_X).trans ((cell_far _ _ _ _ _ _ n_R_X).trans ((cell_far _ _ _ _ _ _ n_R_X).trans X_2)))), ((cell_far _ _ _ _ _ _ n_R_X).trans ((cell_far _ _ _ _ _ _ n_R_X).trans ((cell_far _ _ _ _ _ _ n_R_X).trans ((cell_far _ _ _ _ _ _ n_R_X).trans X_3)))), ((cell_far _ _ _ _ _ _ n_R_Y).trans ((cell_far _ _ _ _ _ _ n_R_Y).trans ((cell_far _ _ _ _ _ _ n_R_Y).trans ((cell_far _ _ _ _ _ _ n_R_Y).trans Y_0)))), ((cell_far _ _ _ _ _ _ n_R_Y).trans ((cell_far _ _ _ _ _ _ n_R_Y).trans ((cell_far _ _ _ _ _ _ n_R_Y).trans ((cell_far _ _ _ _ _ _ n_R_Y).trans Y_1)))), ((cell_far _ _ _ _ _ _ n_R_Y).trans ((cell_far _ _ _ _ _ _ n_R_Y).trans ((cell_far _ _ _ _ _ _ n_R_Y).trans ((cell_far _ _ _ _ _ _ n_R_Y).trans Y_2)))), ((cell_far _ _ _ _ _ _ n_R_Y).trans ((cell_far _ _ _ _ _ _ n_R_Y).trans ((cell_far _ _ _ _ _ _ n_R_Y).trans ((cell_far _ _ _ _ _ _ n_R_Y).trans Y_3))))⟩))
  (first
   | (go_at_call 27; (with_reducible refine (mul_any yn xd _ _ _ hyn hxd (by omega)).mono ?_); rintro e4 w4 ⟨v4, rfl, h4, hb4⟩; obtain ⟨s4, A4, k4, c4, rfl⟩ := h4.form; replace X := X.below hb4; replace X_0 := X.cell 0 rfl; replace X_1 := X.cell 1 rfl; replace X_2 := X.cell 2 rfl; replace X_3 := X.cell 3 rfl; replace Y := Y.below hb4; replace Y_0 := Y.cell 0 rfl; replace Y_1 := Y.cell 1 rfl; replace Y_2 := Y.cell 2 rfl; replace Y_3 := Y.cell 3 rfl; replace R := R.below hb4; replace R_0 := R.cell 0 rfl; replace R_f0 := R.free 0; replace R_1 := R.cell 1 rfl; replace R_f1 := R.free 1; replace R_2 := R.cell 2 rfl; replace R_f2 := R.free 2; replace R_3 := R.cell 3 rfl; replace R_f3 := R.free 3; replace hk := Keep.below hb4; replace hxn := hxn.keep hk; replace hyn := hyn.keep hk; replace hxd := hxd.keep hk; (try replace h5 := h5.keep hk); replace hb := hb.trans (hb4.mono hb.size))
   | (go_at_call 64; (with_reducible refine (add_any (yn * xd) xn _ _ _ h4 hxn (by omega) (by omega)).mono ?_); rintro e5 w5 ⟨v5, rfl, h5, hb5⟩; obtain ⟨s5, A5, k5, c5, rfl⟩ := h5.form; replace X := X.below hb5; replace X_0 := X.cell 0 rfl; replace X_1 := X.cell 1 rfl; replace X_2 := X.cell 2 rfl; replace X_3 := X.cell 3 rfl; replace Y := Y.below hb5; replace Y_0 := Y.cell 0 rfl; replace Y_1 := Y.cell 1 rfl; replace Y_2 := Y.cell 2 rfl; replace Y_3 := Y.cell 3 rfl; replace R := R.below hb5; replace R_0 := R.cell 0 rfl; replace R_f0 := R.free 0; replace R_1 := R.cell 1 rfl; replace R_f1 := R.free 1; replace R_2 := R.cell 2 rfl; replace R_f2 := R.free 2; replace R_3 := R.cell 3 rfl; replace R_f3 := R.free 3; replace hk := Keep.below hb5; replace hxn := hxn.keep hk; replace hyn := hyn.keep hk; replace hxd := hxd.keep hk; (try replace h4 := h4.keep hk); replace hb := hb.trans (hb5.mono hb.size)))
 all_goals (
  go_wp2_with fail
  have X_ltw5 := X.lt
  have Y_ltw5 := Y.lt
  have R_ltw5 := R.lt
  have hszw5 := hb.size
  replace X := ((((X.far 0 (.bool s5) (show w.heap.size + 1 + 1 ≠ w.heap.size by omega)).far 1 (.slice A5 k5 c5) (show w.heap.size + 1 + 1 ≠ w.heap.size by omega)).far 2 (.bool s') (show w.heap.size + 1 + 1 ≠ w.heap.size by omega)).far 3 (.slice A' k' c') (show w.heap.size + 1 + 1 ≠ w.heap.size by omega))
  replace Y := ((((Y.far 0 (.bool s5) (show w.heap.size + 1 + 1 ≠ w.heap.size + 1 by omega)).far 1 (.slice A5 k5 c5) (show w.heap.size + 1 + 1 ≠ w.heap.size + 1 by omega)).far 2 (.bool s') (show w.heap.size + 1 + 1 ≠ w.heap.size + 1 by omega)).far 3 (.slice A' k' c') (show w.heap.size + 1 + 1 ≠ w.heap.size + 1 by omega))
  replace hk := rat_stored (v0 := .bool s5) (v1 := .slice A5 k5 c5) (v2 := .bool s') (v3 := .slice A' k' c') hb (by omega) R
  clear R hb
  obtain ⟨R, hb, hk⟩ := hk
  replace h5 := h5.keep hk
  replace hxd := hxd.keep hk
  generalize (((w5.setCell ⟨w.heap.size + 1 + 1, 0, none⟩ (.bool s5)).setCell ⟨w.heap.size + 1 + 1, 1, none⟩ (.slice A5 k5 c5)).setCell ⟨w.heap.size + 1 + 1, 2, none⟩ (.bool s')).setCell ⟨w.heap.size + 1 + 1, 3, none⟩ (.slice A' k' c') = W6 at *
  replace X_0 := X.cell 0 rfl
  replace X_1 := X.cell 1 rfl
  replace X_2 := X.cell 2 rfl
  replace X_3 := X.cell 3 rfl
  replace Y_0 := Y.cell 0 rfl
  replace Y_1 := Y.cell 1 rfl
  replace Y_2 := Y.cell 2 rfl
  replace Y_3 := Y.cell 3 rfl
  replace R_0 := R.cell 0 rfl
  replace R_1 := R.cell 1 rfl
  replace R_2 := R.cell 2 rfl
  replace R_3 := R.cell 3 rfl
  exact bodyPost_ret (v := .agg #[.bool s5, .slice A5 k5 c5, .bool s', .slice A' k' c']) (by simp [results, Tryz.results37, go_sem, R_0, R_1, R_2, R_3]) rfl ⟨_, rfl, RatAt.of h5 hxd HE.out.1 HE.out.2, hb⟩
  )
section
variable {w w' w1 w2 : World} {g g' : Nat} {m n n' : Int} {s : Bool} {A : Option Addr} {l c : Nat}
theorem ua {o : Obj} (h : Below w.heap.size w w') : Below w.heap.size w (w'.alloc o) := h.alloc h.size o
theorem ud (h : Below w.heap.size w w') : Below w.heap.size w w'.drew := h.drew
theorem ut (h : Below w.heap.size w w1) (k : Below w1.heap.size w1 w2) : Below w.heap.size w w2 := h.trans (k.mono h.size)
theorem us {o : Nat} {v : Value} (h : Below w.heap.size w w') (hg : w.heap.size ≤ g) : Below w.heap.size w (w'.setCell ⟨g, o, none⟩ v) := h.setCell (p := ⟨g, o, none⟩) hg v
theorem bx_new (h : IntAt w (.agg #[.bool s, .slice A l c]) n) (hg : w.heap.size = g) : IntBx (w.alloc (.cells #[.bool s, .slice A l c] 49)) g n :=
 ⟨_, _, _, _, Bx.newAt w [.bool s, .slice A l c] 49 g hg, h.keep (Keep.alloc _ _)⟩
theorem bx_new0 (h : IntAt w (.agg #[.bool s, .slice A l c]) n) : IntBx (w.alloc (.cells #[.bool s, .slice A l c] 49)) w.heap.size n := bx_new h rfl
theorem bx_new1 {o : Obj} (h : IntAt (w.alloc o) (.agg #[.bool s, .slice A l c]) n) : IntBx ((w.alloc o).alloc (.cells #[.bool s, .slice A l c] 49)) (w.heap.size + 1) n := bx_new h (World.size_alloc _ _)
theorem bx_alloc {o : Obj} (h : IntBx w g n) : IntBx (w.alloc o) g n := h.below ((Below.refl _ _).alloc (Nat.le_refl _) _)
theorem bx_drew (h : IntBx w g n) : IntBx w.drew g n := h.below (Below.refl _ _).drew
theorem bx_same (h : IntBx w g m) (hn : IntAt w (.agg #[.bool s, .slice A l c]) n) : IntBx ((w.setCell ⟨g, 0, none⟩ (.bool s)).setCell ⟨g, 1, none⟩ (.slice A l c)) g n := (h.stored hn).1
theorem bx_other (h' : IntBx w g' m) (hn : IntAt w (.agg #[.bool s, .slice A l c]) n') (hne : g ≠ g') (h : IntBx w g n) : IntBx ((w.setCell ⟨g', 0, none⟩ (.bool s)).setCell ⟨g', 1, none⟩ (.slice A l c)) g n := h.step (h'.stored hn).2 hne
theorem zb (D : Bx w g [.bool false, .slice none 0 0] 49) : IntBx w g 0 := ⟨_, _, _, _, D, IntAt.zero _⟩
theorem late1 {W0 : World} (h : IntAt w (.agg #[.bool s, .slice A l c]) n) (hB : Below W0.heap.size W0 w) : IntBx (w.alloc (.cells #[.bool s, .slice A l c] 49)) w.heap.size n ∧ Below W0.heap.size W0 (w.alloc (.cells #[.bool s, .slice A l c] 49)) := ⟨bx_new0 h, ua hB⟩
theorem early1 {W0 : World} (I : IntBx w g m) (h : IntAt w (.agg #[.bool s, .slice A l c]) n) (hB : Below W0.heap.size W0 w) (hl : W0.heap.size ≤ g) :
  IntBx ((w.setCell ⟨g, 0, none⟩ (.bool s)).setCell ⟨g, 1, none⟩ (.slice A l c)) g n ∧ Below W0.heap.size W0 ((w.setCell ⟨g, 0, none⟩ (.bool s)).setCell ⟨g, 1, none⟩ (.slice A l c)) := ⟨bx_same I h, us (us hB hl) hl⟩
theorem at_put {v : Value} (h' : IntBx w g' m) (hn : IntAt w (.agg #[.bool s, .slice A l c]) n') (h : IntAt w v n) : IntAt ((w.setCell ⟨g', 0, none⟩ (.bool s)).setCell ⟨g', 1, none⟩ (.slice A l c)) v n := h.keep (h'.stored hn).2.1
theorem two_early {W0 : World} {m' : Int} {s' : Bool} {A' : Option Addr} {l' c' : Nat} (I : IntBx w g m) (J : IntBx w g' m') (h : IntAt w (.agg #[.bool s, .slice A l c]) n) (k : IntAt w (.agg #[.bool s', .slice A' l' c']) n') (hne : g ≠ g') (hB : Below W0.heap.size W0 w) (hl : W0.heap.size ≤ g) (hl' : W0.heap.size ≤ g') :
  IntBx ((((w.setCell ⟨g, 0, none⟩ (.bool s)).setCell ⟨g, 1, none⟩ (.slice A l c)).setCell ⟨g', 0, none⟩ (.bool s')).setCell ⟨g', 1, none⟩ (.slice A' l' c')) g n ∧
  IntBx ((((w.setCell ⟨g, 0, none⟩ (.bool s)).setCell ⟨g, 1, none⟩ (.slice A l c)).setCell ⟨g', 0, none⟩ (.bool s')).setCell ⟨g', 1, none⟩ (.slice A' l' c')) g' n' ∧
  Below W0.heap.size W0 ((((w.setCell ⟨g, 0, none⟩ (.bool s)).setCell ⟨g, 1, none⟩ (.slice A l c)).setCell ⟨g', 0, none⟩ (.bool s')).setCell ⟨g', 1, none⟩ (.slice A' l' c')) := by
 have a := bx_same I h
 have b := bx_other I h (fun e => hne e.symm) J
 have c := at_put I h k
 exact ⟨bx_other b c hne a, bx_same b c, us (us (us (us hB hl) hl) hl') hl'⟩
theorem late2 {W0 : World} {s' : Bool} {A' : Option Addr} {l' c' : Nat} (h : IntAt w (.agg #[.bool s, .slice A l c]) n) (k : IntAt w (.agg #[.bool s', .slice A' l' c']) n') (hB : Below W0.heap.size W0 w) :
  IntBx ((w.alloc (.cells #[.bool s, .slice A l c] 49)).alloc (.cells #[.bool s', .slice A' l' c'] 49)) w.heap.size n ∧
  IntBx ((w.alloc (.cells #[.bool s, .slice A l c] 49)).alloc (.cells #[.bool s', .slice A' l' c'] 49)) (w.heap.size + 1) n' ∧
  Below W0.heap.size W0 ((w.alloc (.cells #[.bool s, .slice A l c] 49)).alloc (.cells #[.bool s', .slice A' l' c'] 49)) :=
 ⟨bx_alloc (bx_new0 h), bx_new1 (k.keep (Keep.alloc _ _)), ua (ua hB)⟩
theorem late2' {W0 : World} {s' : Bool} {A' : Option Addr} {l' c' : Nat} (h : IntAt w (.agg #[.bool s, .slice A l c]) n) (k : IntAt w (.agg #[.bool s', .slice A' l' c']) n') (hB : Below W0.heap.size W0 w) :
  IntBx ((w.alloc (.cells #[.bool s', .slice A' l' c'] 49)).alloc (.cells #[.bool s, .slice A l c] 49)) (w.heap.size + 1) n ∧
  IntBx ((w.alloc (.cells #[.bool s', .slice A' l' c'] 49)).alloc (.cells #[.bool s, .slice A l c] 49)) w.heap.size n' ∧
  Below W0.heap.size W0 ((w.alloc (.cells #[.bool s', .slice A' l' c'] 49)).alloc (.cells #[.bool s, .slice A l c] 49)) := by
 obtain ⟨a, b, c⟩ := late2 k h hB
 exact ⟨b, a, c⟩
theorem late_early {W0 : World} {s' : Bool} {A' : Option Addr} {l' c' : Nat} (h : IntAt w (.agg #[.bool s, .slice A l c]) n) (k : IntAt w (.agg #[.bool s', .slice A' l' c']) n') (J : IntBx w g' m) (hB : Below W0.heap.size W0 w) (hl : W0.heap.size ≤ g') :
  IntBx (((w.alloc (.cells #[.bool s, .slice A l c] 49)).setCell ⟨g', 0, none⟩ (.bool s')).setCell ⟨g', 1, none⟩ (.slice A' l' c')) w.heap.size n ∧
  IntBx (((w.alloc (.cells #[.bool s, .slice A l c] 49)).setCell ⟨g', 0, none⟩ (.bool s')).setCell ⟨g', 1, none⟩ (.slice A' l' c')) g' n' ∧
  Below W0.heap.size W0 (((w.alloc (.cells #[.bool s, .slice A l c] 49)).setCell ⟨g', 0, none⟩ (.bool s')).setCell ⟨g', 1, none⟩ (.slice A' l' c')) :=
 ⟨bx_other (bx_alloc J) (k.keep (Keep.alloc _ _)) (by have := J.lt; omega) (bx_new0 h), bx_same (bx_alloc J) (k.keep (Keep.alloc _ _)), us (us (ua hB) hl) hl⟩
theorem early_late {W0 : World} {s' : Bool} {A' : Option Addr} {l' c' : Nat} (I : IntBx w g m) (h : IntAt w (.agg #[.bool s, .slice A l c]) n) (k : IntAt w (.agg #[.bool s', .slice A' l' c']) n') (hB : Below W0.heap.size W0 w) (hl : W0.heap.size ≤ g) :
  IntBx (((((w.alloc (.cells #[.bool false, .slice none 0 0] 49)).setCell ⟨g, 0, none⟩ (.bool s)).setCell ⟨g, 1, none⟩ (.slice A l c)).setCell ⟨w.heap.size, 0, none⟩ (.bool s')).setCell ⟨w.heap.size, 1, none⟩ (.slice A' l' c')) g n ∧
  IntBx (((((w.alloc (.cells #[.bool false, .slice none 0 0] 49)).setCell ⟨g, 0, none⟩ (.bool s)).setCell ⟨g, 1, none⟩ (.slice A l c)).setCell ⟨w.heap.size, 0, none⟩ (.bool s')).setCell ⟨w.heap.size, 1, none⟩ (.slice A' l' c')) w.heap.size n' ∧
  Below W0.heap.size W0 (((((w.alloc (.cells #[.bool false, .slice none 0 0] 49)).setCell ⟨g, 0, none⟩ (.bool s)).setCell ⟨g, 1, none⟩ (.slice A l c)).setCell ⟨w.heap.size, 0, none⟩ (.bool s')).setCell ⟨w.heap.size, 1, none⟩ (.slice A' l' c')) :=
 two_early (bx_alloc I) (bx_new0 (IntAt.zero _)) (h.keep (Keep.alloc _ _)) (k.keep (Keep.alloc _ _)) (by have := I.lt; omega) (ua hB) hl hB.size
end
set_option maxRecDepth 100000 in
theorem ratAdd_xy (x y : Rat) (vx vy : Value) (w : World) (hG : Glob w) (hx : RatAt w vx x) (hy : RatAt w vy y) (hx1 : x.den ≠ 1) (hy1 : y.den ≠ 1) (K : Nat) (bx : RL K x) (bY : RL K y) (hK : 20 * K + 60 ≤ LIM) :
  Calls Tryz.prog 37 #[vx, vy] w (RetRat w (x + y)) := by
 obtain ⟨s, A, k, c, s', A', k', c', rfl⟩ := hx.form
 obtain ⟨t, C, l, e, t', C', l', e', rfl⟩ := hy.form
 have hLIM : LIM = 17592186044416 := rfl
 rw [hLIM] at hK
 have ⟨bx1, bx2⟩ := bx
 have ⟨by1, by2⟩ := bY
 obtain ⟨gc, hgc⟩ : ∃ gc, gc = Nat.gcd x.den y.den := ⟨_, rfl⟩
 obtain ⟨L, hL⟩ : ∃ L, L = (y.den : Int).tdiv (gc : Int) := ⟨_, rfl⟩
 obtain ⟨T, hT⟩ : ∃ T, T = (x.den : Int).tdiv (gc : Int) := ⟨_, rfl⟩
 obtain ⟨N, hN⟩ : ∃ N, N = x.num * L + y.num * T := ⟨_, rfl⟩
 have hz0 : N = 0 → x + y = 0 := fun h => add_zero_of hgc hL hT hN h
 have hpa := fun r (hr : r = Nat.gcd N.natAbs gc) => add_parts x y gc r L T N hgc hL hT hN hr
 have hg0 : gc ≠ 0 := fun h => x.den_nz (Nat.eq_zero_of_gcd_eq_zero_left (by rw [← hgc]; exact h))
 have bL : nl L.natAbs ≤ K := by rw [hL]; exact natAbs_tdiv_le _ _ _ by2
 have bT : nl T.natAbs ≤ K := by rw [hT]; exact natAbs_tdiv_le _ _ _ bx2
 have bg : nl gc ≤ K := by rw [hgc]; exact nl_gcd_left _ _ _ x.den_nz bx2
 have X : Bx (((w.alloc (.cells #[.bool s, .slice A k c, .bool s', .slice A' k' c'] 71)).alloc (.cells #[.bool t, .slice C l e, .bool t', .slice C' l' e'] 71)).alloc (.cells #[.bool false, .slice none 0 0, .bool false, .slice none 0 0] 71)) (w.heap.size) [.bool s, .slice A k c, .bool s', .slice A' k' c'] 71 := ((Bx.newAt w [.bool s, .slice A k c, .bool s', .slice A' k' c'] 71 (w.heap.size) (by simp)).alloc (.cells #[.bool t, .slice C l e, .bool t', .slice C' l' e'] 71)).alloc (.cells #[.bool false, .slice none 0 0, .bool false, .slice none 0 0] 71)
 have Y : Bx (((w.alloc (.cells #[.bool s, .slice A k c, .bool s', .slice A' k' c'] 71)).alloc (.cells #[.bool t, .slice C l e, .bool t', .slice C' l' e'] 71)).alloc (.cells #[.bool false, .slice none 0 0, .bool false, .slice none 0 0] 71)) (w.heap.size + 1) [.bool t, .slice C l e, .bool t', .slice C' l' e'] 71 := (Bx.newAt (w.alloc (.cells #[.bool s, .slice A k c, .bool s', .slice A' k' c'] 71)) [.bool t, .slice C l e, .bool t', .slice C' l' e'] 71 (w.heap.size + 1) (by simp)).alloc (.cells #[.bool false, .slice none 0 0, .bool false, .slice none 0 0] 71)
 have R : Bx (((w.alloc (.cells #[.bool s, .slice A k c, .bool s', .slice A' k' c'] 71)).alloc (.cells #[.bool t, .slice C l e, .bool t', .slice C' l' e'] 71)).alloc (.cells #[.bool false, .slice none 0 0, .bool false, .slice none 0 0] 71)) (w.heap.size + 1 + 1) [.bool false, .slice none 0 0, .bool false, .slice none 0 0] 71 := Bx.newAt ((w.alloc (.cells #[.bool s, .slice A k c, .bool s', .slice A' k' c'] 71)).alloc (.cells #[.bool t, .slice C l e, .bool t', .slice C' l' e'] 71)) [.bool false, .slice none 0 0, .bool false, .slice none 0 0] 71 (w.heap.size + 1 + 1) (by simp)
 have hb : Below w.heap.size w (((w.alloc (.cells #[.bool s, .slice A k c, .bool s', .slice A' k' c'] 71)).alloc (.cells #[.bool t, .slice C l e, .bool t', .slice C' l' e'] 71)).alloc (.cells #[.bool false, .slice none 0 0, .bool false, .slice none 0 0] 71)) := (((Below.refl _ _).alloc (by simp) _).alloc (by simp <;> omega) _).alloc (by simp <;> omega) _
 go_enter Tryz.func37, Tryz.ntmps37
 go_wp2_with fail
 generalize ((w.alloc (.cells #[.bool s, .slice A k c, .bool s', .slice A' k' c'] 71)).alloc (.cells #[.bool t, .slice C l e, .bool t', .slice C' l' e'] 71)).alloc (.cells #[.bool false, .slice none 0 0, .bool false, .slice none 0 0] 71) = W at *
 have hxn : IntAt W (.agg #[.bool s, .slice A k c]) x.num := (hx.below hb).num
 have hyn : IntAt W (.agg #[.bool t, .slice C l e]) y.num := (hy.below hb).num
 have hxd : IntAt W (.agg #[.bool s', .slice A' k' c']) (x.den : Int) := (hx.below hb).denN hx1
 have hyd : IntAt W (.agg #[.bool t', .slice C' l' e']) (y.den : Int) := (hy.below hb).denN hy1
 have HDX : Hid (decide ((x.den : Int) = 0) = false) := by have := x.den_nz; unfold Hid; simpa using this
 have HDY : Hid (decide ((y.den : Int) = 0) = false) := by have := y.den_nz; unfold Hid; simpa using this
 have bxd : nl (x.den : Int).natAbs ≤ K := bx2
 have byd : nl (y.den : Int).natAbs ≤ K := by2
 have hgc' : ((Nat.gcd (x.den : Int).natAbs (y.den : Int).natAbs : Nat) : Int) = (gc : Int) := by rw [hgc]; rfl
 have HGC := Lib.hid hgc'
 have HL := Lib.hid hL
 have HT := Lib.hid hT
 have HN := Lib.hid hN
 have HZ := Lib.hid hz0
 have HP := Lib.hid hpa
 have HD1 : Hid ((x + y).den ≠ 1 → denI (x + y) = ((x + y).den : Int)) := fun h => denI_ne h
 clear hgc' hL hT hN hz0 hpa hgc hx1 hy1 by2 bY bx bx2 hx hy
 generalize x.num = xn at *
 generalize y.num = yn at *
 generalize hxD : (x.den : Int) = xd at *
 generalize hyD : (y.den : Int) = yd at *
 clear hxD hyD
 generalize x + y = q at *
 have hml := nl_mul_int xn L K K bx1 bL
 have hmr := nl_mul_int yn T K K by1 bT
 have bN : nl N.natAbs ≤ 2 * K + 1 := by rw [HN.out]; exact Nat.le_trans (nl_add_int _ _ (2 * K) (by omega) (by omega)) (Nat.le_refl _)
 ((with_reducible refine (isZero_any xd _ _ hxd (by omega)).mono ?_))
 rintro e1 w1 ⟨rfl, hb1⟩
 replace X := X.below hb1
 replace X_0 := X.cell 0 rfl
 replace X_1 := X.cell 1 rfl
 replace X_2 := X.cell 2 rfl
 replace X_3 := X.cell 3 rfl
 replace Y := Y.below hb1
 replace Y_0 := Y.cell 0 rfl
 replace Y_1 := Y.cell 1 rfl
 replace Y_2 := Y.cell 2 rfl
 replace Y_3 := Y.cell 3 rfl
 replace R := R.below hb1
 replace R_0 := R.cell 0 rfl
 replace R_f0 := R.free 0
 replace R_1 := R.cell 1 rfl
 replace R_f1 := R.free 1
 replace R_2 := R.cell 2 rfl
 replace R_f2 := R.free 2
 replace R_3 := R.cell 3 rfl
 replace R_f3 := R.free 3
 replace hk := Keep.below hb1
 replace hxn := hxn.keep hk
 replace hxd := hxd.keep hk
 replace hyn := hyn.keep hk
 replace hyd := hyd.keep hk
 replace hb := hb.trans (hb1.mono hb.size)
 rw [HDX.out]
 go_wp2_with fail
 ((with_reducible refine (isZero_any xd _ _ hxd (by omega)).mono ?_))
 rintro e2 w2 ⟨rfl, hb2⟩
 replace X := X.below hb2
 replace X_0 := X.cell 0 rfl
 replace X_1 := X.cell 1 rfl
 replace X_2 := X.cell 2 rfl
 replace X_3 := X.cell 3 rfl
 replace Y := Y.below hb2
 replace Y_0 := Y.cell 0 rfl
 replace Y_1 := Y.cell 1 rfl
 replace Y_2 := Y.cell 2 rfl
 replace Y_3 := Y.cell 3 rfl
 replace R := R.below hb2
 replace R_0 := R.cell 0 rfl
 replace R_f0 := R.free 0
 replace R_1 := R.cell 1 rfl
 replace R_f1 := R.free 1
 replace R_2 := R.cell 2 rfl
 replace R_f2 := R.free 2
 replace R_3 := R.cell 3 rfl
 replace R_f3 := R.free 3
 replace hk := Keep.below hb2
 replace hxn := hxn.keep hk
 replace hxd := hxd.keep hk
 replace hyn := hyn.keep hk
 replace hyd := hyd.keep hk
 replace hb := hb.trans (hb2.mono hb.size)
 rw [HDX.out]
 go_wp2_with fail
 ((with_reducible refine (isZero_any yd _ _ hyd (by omega)).mono ?_))
 rintro e3 w3 ⟨rfl, hb3⟩
 replace X := X.below hb3
 replace X_0 := X.cell 0 rfl
 replace X_1 := X.cell 1 rfl
 replace X_2 := X.cell 2 rfl
 replace X_3 := X.cell 3 rfl
 replace Y := Y.below hb3
 replace Y_0 := Y.cell 0 rfl
 replace Y_1 := Y.cell 1 rfl
 replace Y_2 := Y.cell 2 rfl
 replace Y_3 := Y.cell 3 rfl
 replace R := R.below hb3
 replace R_0 := R.cell 0 rfl
 replace R_f0 := R.free 0
 replace R_1 := R.cell 1 rfl
 replace R_f1 := R.free 1
 replace R_2 := R.cell 2 rfl
 replace R_f2 := R.free 2
 replace R_3 := R.cell 3 rfl
 replace R_f3 := R.free 3
 replace hk := Keep.below hb3
 replace hxn := hxn.keep hk
 replace hxd := hxd.keep hk
 replace hyn := hyn.keep hk
 replace hyd := hyd.keep hk
 replace hb := hb.trans (hb3.mono hb.size)
 rw [HDY.out]
 go_wp2_with fail
 ((with_reducible refine (gcd_any xd yd _ _ _ (hG.below hb) hxd hyd K bxd byd (by rw [hLIM]; omega)).mono ?_))
 rintro e4 w4 ⟨v4, rfl, h4, hb4⟩
 obtain ⟨s4, A4, k4, c4, rfl⟩ := h4.form
 replace X := X.below hb4
 replace X_0 := X.cell 0 rfl
 replace X_1 := X.cell 1 rfl
 replace X_2 := X.cell 2 rfl
 replace X_3 := X.cell 3 rfl
 replace Y := Y.below hb4
 replace Y_0 := Y.cell 0 rfl
 replace Y_1 := Y.cell 1 rfl
 replace Y_2 := Y.cell 2 rfl
 replace Y_3 := Y.cell 3 rfl
 replace R := R.below hb4
 replace R_0 := R.cell 0 rfl
 replace R_f0 := R.free 0
 replace R_1 := R.cell 1 rfl
 replace R_f1 := R.free 1
 replace R_2 := R.cell 2 rfl
 replace R_f2 := R.free 2
 replace R_3 := R.cell 3 rfl
 replace R_f3 := R.free 3
 replace hk := Keep.below hb4
 replace hxn := hxn.keep hk
 replace hxd := hxd.keep hk
 replace hyn := hyn.keep hk
 replace hyd := hyd.keep hk
 replace hb := hb.trans (hb4.mono hb.size)
 rw [HGC.out] at h4
 go_wp2_with fail
 have X_ltw4 := X.lt
 have Y_ltw4 := Y.lt
 have R_ltw4 := R.lt
 have hszw4 := hb.size
 replace X := X.alloc (.cells #[.bool s4, .slice A4 k4 c4] 49)
 replace Y := Y.alloc (.cells #[.bool s4, .slice A4 k4 c4] 49)
 replace R := R.alloc (.cells #[.bool s4, .slice A4 k4 c4] 49)
 have G := Bx.newAt w4 [.bool s4, .slice A4 k4 c4] 49 (w4.heap.size) (by simp)
 replace hb := hb.alloc hb.size (.cells #[.bool s4, .slice A4 k4 c4] 49)
 replace hk := Keep.alloc w4 (.cells #[.bool s4, .slice A4 k4 c4] 49)
 replace h4 := h4.keep hk
 replace hxn := hxn.keep hk
 replace hxd := hxd.keep hk
 replace hyn := hyn.keep hk
 replace hyd := hyd.keep hk
 generalize w4.alloc (.cells #[.bool s4, .slice A4 k4 c4] 49) = w5 at *
 replace X_0 := X.cell 0 rfl
 replace X_1 := X.cell 1 rfl
 replace X_2 := X.cell 2 rfl
 replace X_3 := X.cell 3 rfl
 replace Y_0 := Y.cell 0 rfl
 replace Y_1 := Y.cell 1 rfl
 replace Y_2 := Y.cell 2 rfl
 replace Y_3 := Y.cell 3 rfl
 replace R_0 := R.cell 0 rfl
 replace R_f0 := R.free 0
 replace R_1 := R.cell 1 rfl
 replace R_f1 := R.free 1
 replace R_2 := R.cell 2 rfl
 replace R_f2 := R.free 2
 replace R_3 := R.cell 3 rfl
 replace R_f3 := R.free 3
 replace G_0 := G.cell 0 rfl
 replace G_1 := G.cell 1 rfl
 have hg0' : (gc : Int) ≠ 0 := by omega
 have bgI : nl (gc : Int).natAbs ≤ K := by rw [Int.natAbs_natCast]; exact bg
 have hq1 := fun W h1 h2 => quo_any yd gc (.agg #[.bool t', .slice C' l' e']) (.agg #[.bool s4, .slice A4 k4 c4]) W h1 h2 hg0' (by show nl yd.natAbs + 4 * nl gc + 4 ≤ _; omega)
 have hq2 := fun W h1 h2 => quo_any xd gc (.agg #[.bool s', .slice A' k' c']) (.agg #[.bool s4, .slice A4 k4 c4]) W h1 h2 hg0' (by show nl xd.natAbs + 4 * nl gc + 4 ≤ _; omega)
 rw [← HL.out] at hq1
 rw [← HT.out] at hq2
 clear hk hb1 hb2 hb3 hb4
 replace X_0 := X.cell 0 rfl
 replace X_1 := X.cell 1 rfl
 replace X_2 := X.cell 2 rfl
 replace X_3 := X.cell 3 rfl
 replace Y_0 := Y.cell 0 rfl
 replace Y_1 := Y.cell 1 rfl
 replace Y_2 := Y.cell 2 rfl
 replace Y_3 := Y.cell 3 rfl
 replace R_0 := R.cell 0 rfl
 replace R_1 := R.cell 1 rfl
 replace R_2 := R.cell 2 rfl
 replace R_3 := R.cell 3 rfl
 replace G_0 := G.cell 0 rfl
 replace G_1 := G.cell 1 rfl
 have X_ltw5 := X.lt
 have Y_ltw5 := Y.lt
 have G_ltw5 := G.lt
 have KS := Lib.hid (show ∀ w', Below w5.heap.size w5 w' → (w'.cell? ⟨w.heap.size, 2, none⟩ = some (.bool s') ∧ w'.cell? ⟨w.heap.size, 3, none⟩ = some (.slice A' k' c') ∧ w'.cell? ⟨w.heap.size + 1, 2, none⟩ = some (.bool t') ∧ w'.cell? ⟨w.heap.size + 1, 3, none⟩ = some (.slice C' l' e') ∧ w'.cell? ⟨w4.heap.size, 0, none⟩ = some (.bool s4) ∧ w'.cell? ⟨w4.heap.size, 1, none⟩ = some (.slice A4 k4 c4)) from fun w' hU => ⟨(hU.cell (p := ⟨w.heap.size, 2, none⟩) X_ltw5).trans (X.cell 2 rfl), (hU.cell (p := ⟨w.heap.size, 3, none⟩) X_ltw5).trans (X.cell 3 rfl), (hU.cell (p := ⟨w.heap.size + 1, 2, none⟩) Y_ltw5).trans (Y.cell 2 rfl), (hU.cell (p := ⟨w.heap.size + 1, 3, none⟩) Y_ltw5).trans (Y.cell 3 rfl), (hU.cell (p := ⟨w4.heap.size, 0, none⟩) G_ltw5).trans (G.cell 0 rfl), (hU.cell (p := ⟨w4.heap.size, 1, none⟩) G_ltw5).trans (G.cell 1 rfl)⟩)
 go_cut [6, 7] (fun s6 s7 wx => ∃ g6 g7, s6 = .pointer (some ⟨g6, 0, none⟩) ∧ s7 = .pointer (some ⟨g7, 0, none⟩) ∧ w5.heap.size ≤ g6 ∧ w5.heap.size ≤ g7 ∧ g6 ≠ g7 ∧ IntBx wx g6 (L) ∧ IntBx wx g7 (T) ∧ Below w5.heap.size w5 wx)
 case first =>
  go_region_held3 (fun w' => w'.cell? ⟨w.heap.size, 2, none⟩ = some (.bool s') ∧ w'.cell? ⟨w.heap.size, 3, none⟩ = some (.slice A' k' c') ∧ w'.cell? ⟨w.heap.size + 1, 2, none⟩ = some (.bool t') ∧ w'.cell? ⟨w.heap.size + 1, 3, none⟩ = some (.slice C' l' e') ∧ w'.cell? ⟨w4.heap.size, 0, none⟩ = some (.bool s4) ∧ w'.cell? ⟨w4.heap.size, 1, none⟩ = some (.slice A4 k4 c4))
   (exact KS.out _ (by with_reducible (repeat (first | exact Below.refl _ _ | refine ua ?_ | refine ud ?_ | refine ut ?_ hb6 | refine ut ?_ hb7 | refine us ?_ (by omega)))))
   (first
    | (go_at_call 66; (with_reducible refine (hq1 _ (hyd.below (by with_reducible (repeat (first | exact Below.refl _ _ | refine ua ?_ | refine ud ?_ | refine ut ?_ hb6 | refine ut ?_ hb7 | refine us ?_ (by omega))))) (h4.below (by with_reducible (repeat (first | exact Below.refl _ _ | refine ua ?_ | refine ud ?_ | refine ut ?_ hb6 | refine ut ?_ hb7 | refine us ?_ (by omega)))))).mono ?_); rintro e6 w6 ⟨v6, rfl, h6, hb6⟩; have l6 := hb6.size; (try simp at l6); have TT6 : Below w5.heap.size w5 w6 := (by with_reducible (repeat (first | exact Below.refl _ _ | refine ua ?_ | refine ud ?_ | refine ut ?_ hb6 | refine ut ?_ hb7 | refine us ?_ (by omega)))); have ll6 := TT6.size; (first | (with_reducible have D6_0 : Bx w6 (w5.heap.size) [.bool false, .slice none 0 0] 49 := Bx.below ((Bx.newAt w5 [.bool false, .slice none 0 0] 49 _ rfl).drew) hb6) | (with_reducible have D6_0 : Bx w6 (w5.heap.size) [.bool false, .slice none 0 0] 49 := Bx.below (((Bx.newAt w5 [.bool false, .slice none 0 0] 49 _ rfl).alloc _).drew) hb6) | skip); (first | (with_reducible have D6_1 : Bx w6 (w5.heap.size + 1) [.bool false, .slice none 0 0] 49 := Bx.below ((Bx.newAt (w5.alloc _) [.bool false, .slice none 0 0] 49 _ (World.size_alloc _ _)).drew) hb6) | skip); obtain ⟨s6, A6, k6, c6, rfl⟩ := h6.form)
    | (go_at_call 66; (with_reducible refine (hq2 _ (hxd.below (by with_reducible (repeat (first | exact Below.refl _ _ | refine ua ?_ | refine ud ?_ | refine ut ?_ hb6 | refine ut ?_ hb7 | refine us ?_ (by omega))))) (h4.below (by with_reducible (repeat (first | exact Below.refl _ _ | refine ua ?_ | refine ud ?_ | refine ut ?_ hb6 | refine ut ?_ hb7 | refine us ?_ (by omega)))))).mono ?_); rintro e7 w7 ⟨v7, rfl, h7, hb7⟩; have l7 := hb7.size; (try simp at l7); have TT7 : Below w5.heap.size w5 w7 := (by with_reducible (repeat (first | exact Below.refl _ _ | refine ua ?_ | refine ud ?_ | refine ut ?_ hb6 | refine ut ?_ hb7 | refine us ?_ (by omega)))); have ll7 := TT7.size; have h6z := h6.below (w' := w7) (by with_reducible (repeat (first | exact Below.refl _ _ | refine ua ?_ | refine ud ?_ | refine ut ?_ hb6 | refine ut ?_ hb7 | refine us ?_ (by omega)))); (first | (with_reducible replace D6_0 := D6_0.below hb7) | (with_reducible replace D6_0 := (D6_0.alloc _).below hb7) | skip); (first | (with_reducible replace D6_1 := D6_1.below hb7) | (with_reducible replace D6_1 := (D6_1.alloc _).below hb7) | skip); (first | (with_reducible have D7_0 : Bx w7 (w6.heap.size) [.bool false, .slice none 0 0] 49 := Bx.below (Bx.newAt w6 [.bool false, .slice none 0 0] 49 _ rfl) hb7) | (with_reducible have D7_0 : Bx w7 (w6.heap.size) [.bool false, .slice none 0 0] 49 := Bx.below ((Bx.newAt w6 [.bool false, .slice none 0 0] 49 _ rfl).alloc _) hb7) | skip); (first | (with_reducible have D7_1 : Bx w7 (w6.heap.size + 1) [.bool false, .slice none 0 0] 49 := Bx.below (Bx.newAt (w6.alloc _) [.bool false, .slice none 0 0] 49 _ (World.size_alloc _ _)) hb7) | skip); (try have D6_0_0 := D6_0.cell 0 rfl); (try have D6_0_f0 := D6_0.free 0); (try have D6_0_c0 := fun o : Obj => (D6_0.alloc o).cell 0 rfl); (try have D6_0_g0 := fun o : Obj => (D6_0.alloc o).free 0); (try have D6_0_1 := D6_0.cell 1 rfl); (try have D6_0_f1 := D6_0.free 1); (try have D6_0_c1 := fun o : Obj => (D6_0.alloc o).cell 1 rfl); (try have D6_0_g1 := fun o : Obj => (D6_0.alloc o).free 1); (try have D6_0_n := Nat.ne_of_lt D6_0.lt); (try have D6_0_m := Nat.ne_of_gt D6_0.lt); (try have D6_1_0 := D6_1.cell 0 rfl); (try have D6_1_f0 := D6_1.free 0); (try have D6_1_c0 := fun o : Obj => (D6_1.alloc o).cell 0 rfl); (try have D6_1_g0 := fun o : Obj => (D6_1.alloc o).free 0); (try have D6_1_1 := D6_1.cell 1 rfl); (try have D6_1_f1 := D6_1.free 1); (try have D6_1_c1 := fun o : Obj => (D6_1.alloc o).cell 1 rfl); (try have D6_1_g1 := fun o : Obj => (D6_1.alloc o).free 1); (try have D6_1_n := Nat.ne_of_lt D6_1.lt); (try have D6_1_m := Nat.ne_of_gt D6_1.lt); (try have D7_0_0 := D7_0.cell 0 rfl); (try have D7_0_f0 := D7_0.free 0); (try have D7_0_c0 := fun o : Obj => (D7_0.alloc o).cell 0 rfl); (try have D7_0_g0 := fun o : Obj => (D7_0.alloc o).free 0); (try have D7_0_1 := D7_0.cell 1 rfl); (try have D7_0_f1 := D7_0.free 1); (try have D7_0_c1 := fun o : Obj => (D7_0.alloc o).cell 1 rfl); (try have D7_0_g1 := fun o : Obj => (D7_0.alloc o).free 1); (try have D7_0_n := Nat.ne_of_lt D7_0.lt); (try have D7_0_m := Nat.ne_of_gt D7_0.lt); (try have D7_1_0 := D7_1.cell 0 rfl); (try have D7_1_f0 := D7_1.free 0); (try have D7_1_c0 := fun o : Obj => (D7_1.alloc o).cell 0 rfl); (try have D7_1_g0 := fun o : Obj => (D7_1.alloc o).free 0); (try have D7_1_1 := D7_1.cell 1 rfl); (try have D7_1_f1 := D7_1.free 1); (try have D7_1_c1 := fun o : Obj => (D7_1.alloc o).cell 1 rfl); (try have D7_1_g1 := fun o : Obj => (D7_1.alloc o).free 1); (try have D7_1_n := Nat.ne_of_lt D7_1.lt); (try have D7_1_m := Nat.ne_of_gt D7_1.lt); obtain ⟨s7, A7, k7, c7, rfl⟩ := h7.form))
  all_goals (
   go_wp2_with fail
   go_meet
   refine ⟨_, _, rfl, rfl, by omega, by omega, by omega, ?_⟩
   first
    | (with_reducible exact late2 h6z h7 TT7)
    | (with_reducible exact late2' h6z h7 TT7)
    | (with_reducible exact late_early h6z h7 (zb D6_0) TT7 (by omega))
    | (with_reducible exact late_early h6z h7 (zb D6_1) TT7 (by omega))
    | (with_reducible exact late_early h6z h7 (zb D7_0) TT7 (by omega))
    | (with_reducible exact late_early h6z h7 (zb D7_1) TT7 (by omega))
    | (with_reducible exact early_late (zb D6_0) h6z h7 TT7 (by omega))
    | (with_reducible exact early_late (zb D6_1) h6z h7 TT7 (by omega))
    | (with_reducible exact early_late (zb D7_0) h6z h7 TT7 (by omega))
    | (with_reducible exact early_late (zb D7_1) h6z h7 TT7 (by omega))
    | (with_reducible exact two_early (zb D6_0) (zb D6_1) h6z h7 (by omega) TT7 (by omega) (by omega))
    | (with_reducible exact two_early (zb D6_0) (zb D7_0) h6z h7 (by omega) TT7 (by omega) (by omega))
    | (with_reducible exact two_early (zb D6_0) (zb D7_1) h6z h7 (by omega) TT7 (by omega) (by omega))
    | (with_reducible exact two_early (zb D6_1) (zb D6_0) h6z h7 (by omega) TT7 (by omega) (by omega))
    | (with_reducible exact two_early (zb D6_1) (zb D7_0) h6z h7 (by omega) TT7 (by omega) (by omega))
    | (with_reducible exact two_early (zb D6_1) (zb D7_1) h6z h7 (by omega) TT7 (by omega) (by omega))
    | (with_reducible exact two_early (zb D7_0) (zb D6_0) h6z h7 (by omega) TT7 (by omega) (by omega))
    | (with_reducible exact two_early (zb D7_0) (zb D6_1) h6z h7 (by omega) TT7 (by omega) (by omega))
    | (with_reducible exact two_early (zb D7_0) (zb D7_1) h6z h7 (by omega) TT7 (by omega) (by omega))
    | (with_reducible exact two_early (zb D7_1) (zb D6_0) h6z h7 (by omega) TT7 (by omega) (by omega))
    | (with_reducible exact two_early (zb D7_1) (zb D6_1) h6z h7 (by omega) TT7 (by omega) (by omega))
    | (with_reducible exact two_early (zb D7_1) (zb D7_0) h6z h7 (by omega) TT7 (by omega) (by omega)))
 case rest =>
  obtain ⟨g6, g7, rfl, rfl, hg6, hg7, hne67, I6, I7, hbc⟩ := hcut
  generalize wc = w8 at *
  have X8 := X.below hbc
  have Y8 := Y.below hbc
  have R8 := R.below hbc
  have G8 := G.below hbc
  have hxl := X.lt
  have hyl := Y.lt
  have hrl := R.lt
  have hgl := G.lt
  replace hxn := hxn.below hbc
  replace hyn := hyn.below hbc
  replace hxd := hxd.below hbc
  replace hyd := hyd.below hbc
  replace h4 := h4.below hbc
  replace hb := hb.trans (hbc.mono hb.size)
  obtain ⟨s6, A6, k6, c6, L8, hl⟩ := I6
  obtain ⟨s7, A7, k7, c7, T8, ht⟩ := I7
  have hz8 := hbc.size
  clear KS X Y R G hq1 hq2 X_0 X_1 X_2 X_3 Y_0 Y_1 Y_2 Y_3 R_0 R_1 R_2 R_3 G_0 G_1 hbc hg0
  have hm1 := fun W h1 h2 => mul_any xn L (.agg #[.bool s, .slice A k c]) (.agg #[.bool s6, .slice A6 k6 c6]) W h1 h2 (by omega)
  have hm2 := fun W h1 h2 => mul_any yn T (.agg #[.bool t, .slice C l e]) (.agg #[.bool s7, .slice A7 k7 c7]) W h1 h2 (by omega)
  have ha3 := fun W v u h1 h2 => add_any (xn * L) (yn * T) v u W h1 h2 (by omega) (by omega)
  rw [← HN.out] at ha3
  go_wp2_with fail
  have X8_ltw8 := X8.lt
  have Y8_ltw8 := Y8.lt
  have L8_ltw8 := L8.lt
  have T8_ltw8 := T8.lt
  have KS := Lib.hid (show ∀ w', Below w8.heap.size w8 w' → (w'.cell? ⟨w.heap.size, 0, none⟩ = some (.bool s) ∧ w'.cell? ⟨w.heap.size, 1, none⟩ = some (.slice A k c) ∧ w'.cell? ⟨w.heap.size + 1, 0, none⟩ = some (.bool t) ∧ w'.cell? ⟨w.heap.size + 1, 1, none⟩ = some (.slice C l e) ∧ w'.cell? ⟨g6, 0, none⟩ = some (.bool s6) ∧ w'.cell? ⟨g6, 1, none⟩ = some (.slice A6 k6 c6) ∧ w'.cell? ⟨g7, 0, none⟩ = some (.bool s7) ∧ w'.cell? ⟨g7, 1, none⟩ = some (.slice A7 k7 c7)) from fun w' hU => ⟨(hU.cell (p := ⟨w.heap.size, 0, none⟩) X8_ltw8).trans (X8.cell 0 rfl), (hU.cell (p := ⟨w.heap.size, 1, none⟩) X8_ltw8).trans (X8.cell 1 rfl), (hU.cell (p := ⟨w.heap.size + 1, 0, none⟩) Y8_ltw8).trans (Y8.cell 0 rfl), (hU.cell (p := ⟨w.heap.size + 1, 1, none⟩) Y8_ltw8).trans (Y8.cell 1 rfl), (hU.cell (p := ⟨g6, 0, none⟩) L8_ltw8).trans (L8.cell 0 rfl), (hU.cell (p := ⟨g6, 1, none⟩) L8_ltw8).trans (L8.cell 1 rfl), (hU.cell (p := ⟨g7, 0, none⟩) T8_ltw8).trans (T8.cell 0 rfl), (hU.cell (p := ⟨g7, 1, none⟩) T8_ltw8).trans (T8.cell 1 rfl)⟩)
  go_cut [8] (fun s8 wx => ∃ g8, s8 = .pointer (some ⟨g8, 0, none⟩) ∧ w8.heap.size ≤ g8 ∧ IntBx wx g8 (N) ∧ Below w8.heap.size w8 wx)
  case first =>
   go_region_held3 (fun w' => w'.cell? ⟨w.heap.size, 0, none⟩ = some (.bool s) ∧ w'.cell? ⟨w.heap.size, 1, none⟩ = some (.slice A k c) ∧ w'.cell? ⟨w.heap.size + 1, 0, none⟩ = some (.bool t) ∧ w'.cell? ⟨w.heap.size + 1, 1, none⟩ = some (.slice C l e) ∧ w'.cell? ⟨g6, 0, none⟩ = some (.bool s6) ∧ w'.cell? ⟨g6, 1, none⟩ = some (.slice A6 k6 c6) ∧ w'.cell? ⟨g7, 0, none⟩ = some (.bool s7) ∧ w'.cell? ⟨g7, 1, none⟩ = some (.slice A7 k7 c7))
    (exact KS.out _ (by with_reducible (repeat (first | exact Below.refl _ _ | refine ua ?_ | refine ud ?_ | refine ut ?_ hb9 | refine ut ?_ hb10 | refine ut ?_ hb11 | refine us ?_ (by omega)))))
    (first
     | (go_at_call 27; (with_reducible refine (hm1 _ (hxn.below (by with_reducible (repeat (first | exact Below.refl _ _ | refine ua ?_ | refine ud ?_ | refine ut ?_ hb9 | refine ut ?_ hb10 | refine ut ?_ hb11 | refine us ?_ (by omega))))) (hl.below (by with_reducible (repeat (first | exact Below.refl _ _ | refine ua ?_ | refine ud ?_ | refine ut ?_ hb9 | refine ut ?_ hb10 | refine ut ?_ hb11 | refine us ?_ (by omega)))))).mono ?_); rintro e9 w9 ⟨v9, rfl, h9, hb9⟩; have l9 := hb9.size; (try simp at l9); have TT9 : Below w8.heap.size w8 w9 := (by with_reducible (repeat (first | exact Below.refl _ _ | refine ua ?_ | refine ud ?_ | refine ut ?_ hb9 | refine ut ?_ hb10 | refine ut ?_ hb11 | refine us ?_ (by omega)))); have ll9 := TT9.size; (first | (with_reducible have D9_0 : Bx w9 (w8.heap.size) [.bool false, .slice none 0 0] 49 := Bx.below ((Bx.newAt w8 [.bool false, .slice none 0 0] 49 _ rfl).drew) hb9) | skip); obtain ⟨s9, A9, k9, c9, rfl⟩ := h9.form)
     | (go_at_call 27; (with_reducible refine (hm2 _ (hyn.below (by with_reducible (repeat (first | exact Below.refl _ _ | refine ua ?_ | refine ud ?_ | refine ut ?_ hb9 | refine ut ?_ hb10 | refine ut ?_ hb11 | refine us ?_ (by omega))))) (ht.below (by with_reducible (repeat (first | exact Below.refl _ _ | refine ua ?_ | refine ud ?_ | refine ut ?_ hb9 | refine ut ?_ hb10 | refine ut ?_ hb11 | refine us ?_ (by omega)))))).mono ?_); rintro e10 w10 ⟨v10, rfl, h10, hb10⟩; have l10 := hb10.size; (try simp at l10); have TT10 : Below w8.heap.size w8 w10 := (by with_reducible (repeat (first | exact Below.refl _ _ | refine ua ?_ | refine ud ?_ | refine ut ?_ hb9 | refine ut ?_ hb10 | refine ut ?_ hb11 | refine us ?_ (by omega)))); have ll10 := TT10.size; (first | (with_reducible replace D9_0 := D9_0.below hb10) | (with_reducible replace D9_0 := (D9_0.alloc _).below hb10) | skip); (first | (with_reducible have D10_0 : Bx w10 (w9.heap.size) [.bool false, .slice none 0 0] 49 := Bx.below (Bx.newAt w9 [.bool false, .slice none 0 0] 49 _ rfl) hb10) | skip); obtain ⟨s10, A10, k10, c10, rfl⟩ := h10.form)
     | (go_at_call 64; (with_reducible refine (ha3 _ _ _ (h9.below (by with_reducible (repeat (first | exact Below.refl _ _ | refine ua ?_ | refine ud ?_ | refine ut ?_ hb9 | refine ut ?_ hb10 | refine ut ?_ hb11 | refine us ?_ (by omega))))) (h10.below (by with_reducible (repeat (first | exact Below.refl _ _ | refine ua ?_ | refine ud ?_ | refine ut ?_ hb9 | refine ut ?_ hb10 | refine ut ?_ hb11 | refine us ?_ (by omega)))))).mono ?_); rintro e11 w11 ⟨v11, rfl, h11, hb11⟩; have l11 := hb11.size; (try simp at l11); have TT11 : Below w8.heap.size w8 w11 := (by with_reducible (repeat (first | exact Below.refl _ _ | refine ua ?_ | refine ud ?_ | refine ut ?_ hb9 | refine ut ?_ hb10 | refine ut ?_ hb11 | refine us ?_ (by omega)))); have ll11 := TT11.size; have h9z := h9.below (w' := w11) (by with_reducible (repeat (first | exact Below.refl _ _ | refine ua ?_ | refine ud ?_ | refine ut ?_ hb9 | refine ut ?_ hb10 | refine ut ?_ hb11 | refine us ?_ (by omega)))); have h10z := h10.below (w' := w11) (by with_reducible (repeat (first | exact Below.refl _ _ | refine ua ?_ | refine ud ?_ | refine ut ?_ hb9 | refine ut ?_ hb10 | refine ut ?_ hb11 | refine us ?_ (by omega)))); (first | (with_reducible replace D9_0 := D9_0.below hb11) | (with_reducible replace D9_0 := (D9_0.alloc _).below hb11) | skip); (first | (with_reducible replace D10_0 := D10_0.below hb11) | (with_reducible replace D10_0 := (D10_0.alloc _).below hb11) | skip); (first | (with_reducible have D11_0 : Bx w11 (w10.heap.size) [.bool false, .slice none 0 0] 49 := Bx.below (Bx.newAt w10 [.bool false, .slice none 0 0] 49 _ rfl) hb11) | skip); (try have D9_0_0 := D9_0.cell 0 rfl); (try have D9_0_f0 := D9_0.free 0); (try have D9_0_1 := D9_0.cell 1 rfl); (try have D9_0_f1 := D9_0.free 1); (try have D10_0_0 := D10_0.cell 0 rfl); (try have D10_0_f0 := D10_0.free 0); (try have D10_0_1 := D10_0.cell 1 rfl); (try have D10_0_f1 := D10_0.free 1); (try have D11_0_0 := D11_0.cell 0 rfl); (try have D11_0_f0 := D11_0.free 0); (try have D11_0_1 := D11_0.cell 1 rfl); (try have D11_0_f1 := D11_0.free 1); obtain ⟨s11, A11, k11, c11, rfl⟩ := h11.form))
   all_goals (
    go_wp2_with fail
    go_meet
    refine ⟨_, rfl, by omega, ?_⟩
    first | (with_reducible exact late1 h11 TT11) | (with_reducible exact early1 (zb D9_0) h11 TT11 (by omega)) | (with_reducible exact early1 (zb D10_0) h11 TT11 (by omega)) | (with_reducible exact early1 (zb D11_0) h11 TT11 (by omega)))
  case rest =>
   obtain ⟨g8, rfl, hg8, I8, hbc⟩ := hcut
   generalize wc = w12 at *
   have hz12 := hbc.size
   replace X8 := X8.below hbc
   replace Y8 := Y8.below hbc
   replace R8 := R8.below hbc
   replace G8 := G8.below hbc
   replace T8 := T8.below hbc
   replace hxd := hxd.below hbc
   replace hyd := hyd.below hbc
   replace h4 := h4.below hbc
   replace ht := ht.below hbc
   replace hb := hb.trans (hbc.mono hb.size)
   obtain ⟨s8, A8, k8, c8, N8, hn⟩ := I8
   clear KS hm1 hm2 ha3 hxn hyn hl L8 hbc
   replace X8_0 := X8.cell 0 rfl
   replace X8_1 := X8.cell 1 rfl
   replace X8_2 := X8.cell 2 rfl
   replace X8_3 := X8.cell 3 rfl
   replace Y8_0 := Y8.cell 0 rfl
   replace Y8_1 := Y8.cell 1 rfl
   replace Y8_2 := Y8.cell 2 rfl
   replace Y8_3 := Y8.cell 3 rfl
   replace R8_0 := R8.cell 0 rfl
   replace R8_f0 := R8.free 0
   replace R8_1 := R8.cell 1 rfl
   replace R8_f1 := R8.free 1
   replace R8_2 := R8.cell 2 rfl
   replace R8_f2 := R8.free 2
   replace R8_3 := R8.cell 3 rfl
   replace R8_f3 := R8.free 3
   replace G8_0 := G8.cell 0 rfl
   replace G8_1 := G8.cell 1 rfl
   replace T8_0 := T8.cell 0 rfl
   replace T8_1 := T8.cell 1 rfl
   replace N8_0 := N8.cell 0 rfl
   replace N8_1 := N8.cell 1 rfl
   go_wp2_with fail
   ((with_reducible refine (isZero_any N _ _ hn (by omega)).mono ?_))
   rintro e13 w13 ⟨rfl, hb13⟩
   replace X8 := X8.below hb13
   replace X8_0 := X8.cell 0 rfl
   replace X8_1 := X8.cell 1 rfl
   replace X8_2 := X8.cell 2 rfl
   replace X8_3 := X8.cell 3 rfl
   replace Y8 := Y8.below hb13
   replace Y8_0 := Y8.cell 0 rfl
   replace Y8_1 := Y8.cell 1 rfl
   replace Y8_2 := Y8.cell 2 rfl
   replace Y8_3 := Y8.cell 3 rfl
   replace R8 := R8.below hb13
   replace R8_0 := R8.cell 0 rfl
   replace R8_f0 := R8.free 0
   replace R8_1 := R8.cell 1 rfl
   replace R8_f1 := R8.free 1
   replace R8_2 := R8.cell 2 rfl
   replace R8_f2 := R8.free 2
   replace R8_3 := R8.cell 3 rfl
   replace R8_f3 := R8.free 3
   replace G8 := G8.below hb13
   replace G8_0 := G8.cell 0 rfl
   replace G8_1 := G8.cell 1 rfl
   replace T8 := T8.below hb13
   replace T8_0 := T8.cell 0 rfl
   replace T8_1 := T8.cell 1 rfl
   replace N8 := N8.below hb13
   replace N8_0 := N8.cell 0 rfl
   replace N8_1 := N8.cell 1 rfl
   replace hk := Keep.below hb13
   replace hxd := hxd.keep hk
   replace hyd := hyd.keep hk
   replace h4 := h4.keep hk
   replace ht := ht.keep hk
   replace hn := hn.keep hk
   replace hb := hb.trans (hb13.mono hb.size)
   by_cases hN0 : N = 0
   ·have hdd : decide (N = 0) = true := by simpa using hN0
    have HQ := Lib.hid (HZ.out hN0)
    rw [hdd]
    clear hdd hN0
    go_wp2_with fail
    have R8_ltw13 := R8.lt
    have hszw13 := hb.size
    replace hk := rat_stored (v0 := .bool false) (v1 := .slice none 0 0) (v2 := .bool false) (v3 := .slice none 0 0) hb (by omega) R8
    clear R8 hb
    obtain ⟨R8, hb, hk⟩ := hk
    generalize (((w13.setCell ⟨w.heap.size + 1 + 1, 0, none⟩ (.bool false)).setCell ⟨w.heap.size + 1 + 1, 1, none⟩ (.slice none 0 0)).setCell ⟨w.heap.size + 1 + 1, 2, none⟩ (.bool false)).setCell ⟨w.heap.size + 1 + 1, 3, none⟩ (.slice none 0 0) = W6 at *
    replace R8_0 := R8.cell 0 rfl
    replace R8_1 := R8.cell 1 rfl
    replace R8_2 := R8.cell 2 rfl
    replace R8_3 := R8.cell 3 rfl
    exact bodyPost_ret (v := .agg #[.bool false, .slice none 0 0, .bool false, .slice none 0 0]) (by simp [results, Tryz.results37, go_sem, R8_0, R8_1, R8_2, R8_3]) rfl ⟨_, rfl, RatAt.of (IntAt.zero _) (IntAt.zero _) (by rw [HQ.out]; rfl) (by rw [HQ.out]; rfl), hb⟩
   ·have hdd : decide (N = 0) = false := by simpa using hN0
    rw [hdd]
    clear hdd
    go_wp2_with fail
    ((with_reducible refine (isOne_any gc _ _ h4 (by omega)).mono ?_))
    rintro e14 w14 ⟨rfl, hb14⟩
    replace X8 := X8.below hb14
    replace X8_0 := X8.cell 0 rfl
    replace X8_1 := X8.cell 1 rfl
    replace X8_2 := X8.cell 2 rfl
    replace X8_3 := X8.cell 3 rfl
    replace Y8 := Y8.below hb14
    replace Y8_0 := Y8.cell 0 rfl
    replace Y8_1 := Y8.cell 1 rfl
    replace Y8_2 := Y8.cell 2 rfl
    replace Y8_3 := Y8.cell 3 rfl
    replace R8 := R8.below hb14
    replace R8_0 := R8.cell 0 rfl
    replace R8_f0 := R8.free 0
    replace R8_1 := R8.cell 1 rfl
    replace R8_f1 := R8.free 1
    replace R8_2 := R8.cell 2 rfl
    replace R8_f2 := R8.free 2
    replace R8_3 := R8.cell 3 rfl
    replace R8_f3 := R8.free 3
    replace G8 := G8.below hb14
    replace G8_0 := G8.cell 0 rfl
    replace G8_1 := G8.cell 1 rfl
    replace T8 := T8.below hb14
    replace T8_0 := T8.cell 0 rfl
    replace T8_1 := T8.cell 1 rfl
    replace N8 := N8.below hb14
    replace N8_0 := N8.cell 0 rfl
    replace N8_1 := N8.cell 1 rfl
    replace hk := Keep.below hb14
    replace hxd := hxd.keep hk
    replace hyd := hyd.keep hk
    replace h4 := h4.keep hk
    replace ht := ht.keep hk
    replace hn := hn.keep hk
    replace hb := hb.trans (hb14.mono hb.size)
    by_cases hg1 : gc = 1
    ·have hdd : decide ((gc : Int) = 1) = true := decide_eq_true (by omega)
     have HQ : Hid (q.num = N ∧ (q.den : Int) = xd * yd) := by
      obtain ⟨e1, e2⟩ := HP.out 1 (by rw [hg1]; simp)
      refine ⟨by rw [e1]; simp, ?_⟩
      rw [e2, HT.out, hg1]
      simp
     rw [hdd]
     clear hdd hg1 hN0
     have hmd := fun W h1 h2 => mul_any xd yd (.agg #[.bool s', .slice A' k' c']) (.agg #[.bool t', .slice C' l' e']) W h1 h2 (by omega)
     have bmd := nl_mul_int xd yd K K bxd byd
     have hlw := fun W v h1 h2 => lowest_any q N (xd * yd) (.agg #[.bool s8, .slice A8 k8 c8]) v W h1 h2 HQ.out.1 HQ.out.2 (by omega)
     go_wp2_with fail
     have X8_ltw14 := X8.lt
     have Y8_ltw14 := Y8.lt
     have N8_ltw14 := N8.lt
     have KS := Lib.hid (show ∀ w', Below w14.heap.size w14 w' → (w'.cell? ⟨w.heap.size, 2, none⟩ = some (.bool s') ∧ w'.cell? ⟨w.heap.size, 3, none⟩ = some (.slice A' k' c') ∧ w'.cell? ⟨w.heap.size + 1, 2, none⟩ = some (.bool t') ∧ w'.cell? ⟨w.heap.size + 1, 3, none⟩ = some (.slice C' l' e') ∧ w'.cell? ⟨g8, 0, none⟩ = some (.bool s8) ∧ w'.cell? ⟨g8, 1, none⟩ = some (.slice A8 k8 c8)) from fun w' hU => ⟨(hU.cell (p := ⟨w.heap.size, 2, none⟩) X8_ltw14).trans (X8.cell 2 rfl), (hU.cell (p := ⟨w.heap.size, 3, none⟩) X8_ltw14).trans (X8.cell 3 rfl), (hU.cell (p := ⟨w.heap.size + 1, 2, none⟩) Y8_ltw14).trans (Y8.cell 2 rfl), (hU.cell (p := ⟨w.heap.size + 1, 3, none⟩) Y8_ltw14).trans (Y8.cell 3 rfl), (hU.cell (p := ⟨g8, 0, none⟩) N8_ltw14).trans (N8.cell 0 rfl), (hU.cell (p := ⟨g8, 1, none⟩) N8_ltw14).trans (N8.cell 1 rfl)⟩)
     have n_R8_X8 : w.heap.size + 1 + 1 ≠ w.heap.size := by omega
     have n_R8_Y8 : w.heap.size + 1 + 1 ≠ w.heap.size + 1 := by omega
     have n_R8_N8 : w.heap.size + 1 + 1 ≠ g8 := by omega
     have KF := Lib.hid (show ∀ (w' : World) (u0 u1 u2 u3 : Value), Below w14.heap.size w14 w' → (((((w'.setCell ⟨w.heap.size + 1 + 1, 0, none⟩ u0).setCell ⟨w.heap.size + 1 + 1, 1, none⟩ u1).setCell ⟨w.heap.size + 1 + 1, 2, none⟩ u2).setCell ⟨w.heap.size + 1 + 1, 3, none⟩ u3).cell? ⟨w.heap.size, 2, none⟩ = some (.bool s') ∧ ((((w'.setCell ⟨w.heap.size + 1 + 1, 0, none⟩ u0).setCell ⟨w.heap.size + 1 + 1, 1, none⟩ u1).setCell ⟨w.heap.size + 1 + 1, 2, none⟩ u2).setCell ⟨w.heap.size + 1 + 1, 3, none⟩ u3).cell? ⟨w.heap.size, 3, none⟩ = some (.slice A' k' c') ∧ ((((w'.setCell ⟨w.heap.size + 1 + 1, 0, none⟩ u0).setCell ⟨w.heap.size + 1 + 1, 1, none⟩ u1).setCell ⟨w.heap.size + 1 + 1, 2, none⟩ u2).setCell ⟨w.heap.size + 1 + 1, 3, none⟩ u3).cell? ⟨w.heap.size + 1, 2, none⟩ = some (.bool t') ∧ ((((w'.setCell ⟨w.heap.size + 1 + 1, 0, none⟩ u0).setCell ⟨w.heap.size + 1 + 1, 1, none⟩ u1).setCell ⟨w.heap.size + 1 + 1, 2, none⟩ u2).setCell ⟨w.heap.size + 1 + 1, 3, none⟩ u3).cell? ⟨w.heap.size + 1, 3, none⟩ = some (.slice C' l' e') ∧ ((((w'.setCell ⟨w.heap.size + 1 + 1, 0, none⟩ u0).setCell ⟨w.heap.size + 1 + 1, 1, none⟩ u1).setCell ⟨w.heap.size + 1 + 1, 2, none⟩ u2).setCell ⟨w.heap.size + 1 + 1, 3, none⟩ u3).cell? ⟨g8, 0, none⟩ = some (.bool s8) ∧ ((((w'.setCell ⟨w.heap.size + 1 + 1, 0, none⟩ u0).setCell ⟨w.heap.size + 1 + 1, 1, none⟩ u1).setCell ⟨w.heap.size + 1 + 1, 2, none⟩ u2).setCell ⟨w.heap.size + 1 + 1, 3, none⟩ u3).cell? ⟨g8, 1, none⟩ = some (.slice A8 k8 c8)) from fun w' u0 u1 u2 u3 hU => ⟨(cell_far _ _ _ _ _ _ n_R8_X8).trans ((cell_far _ _ _ _ _ _ n_R8_X8).trans ((cell_far _ _ _ _ _ _ n_R8_X8).trans ((cell_far _ _ _ _ _ _ n_R8_X8).trans ((hU.cell (p := ⟨w.heap.size, 2, none⟩) X8_ltw14).trans (X8.cell 2 rfl))))), (cell_far _ _ _ _ _ _ n_R8_X8).trans ((cell_far _ _ _ _ _ _ n_R8_X8).trans ((cell_far _ _ _ _ _ _ n_R8_X8).trans ((cell_far _ _ _ _ _ _ n_R8_X8).trans ((hU.cell (p := ⟨w.heap.size, 3, none⟩) X8_ltw14).trans (X8.cell 3 rfl))))), (cell_far _ _ _ _ _ _ n_R8_Y8).trans ((cell_far _ _ _ _ _ _ n_R8_Y8).trans ((cell_far _ _ _ _ _ _ n_R8_Y8).trans ((cell_far _ _ _ _ _ _ n_R8_Y8).trans ((hU.cell (p := ⟨w.heap.size + 1, 2, none⟩) Y8_ltw14).trans (Y8.cell 2 rfl))))), (cell_far _ _ _ _ _ _ n_R8_Y8).trans ((cell_far _ _ _ _ _ _ n_R8_Y8).trans ((cell_far _ _ _ _ _ _ n_R8_Y8).trans ((cell_far _ _ _ _ _ _ n_R8_Y8).trans ((hU.cell (p := ⟨w.heap.size + 1, 3, none⟩) Y8_ltw14).trans (Y8.cell 3 rfl))))), (cell_far _ _ _ _ _ _ n_R8_N8).trans ((cell_far _ _ _ _ _ _ n_R8_N8).trans ((cell_far _ _ _ _ _ _ n_R8_N8).trans ((cell_far _ _ _ _ _ _ n_R8_N8).trans ((hU.cell (p := ⟨g8, 0, none⟩) N8_ltw14).trans (N8.cell 0 rfl))))), (cell_far _ _ _ _ _ _ n_R8_N8).trans ((cell_far _ _ _ _ _ _ n_R8_N8).trans ((cell_far _ _ _ _ _ _ n_R8_N8).trans ((cell_far _ _ _ _ _ _ n_R8_N8).trans ((hU.cell (p := ⟨g8, 1, none⟩) N8_ltw14).trans (N8.cell 1 rfl)))))⟩)
     go_region_held3 (fun w' => w'.cell? ⟨w.heap.size, 2, none⟩ = some (.bool s') ∧ w'.cell? ⟨w.heap.size, 3, none⟩ = some (.slice A' k' c') ∧ w'.cell? ⟨w.heap.size + 1, 2, none⟩ = some (.bool t') ∧ w'.cell? ⟨w.heap.size + 1, 3, none⟩ = some (.slice C' l' e') ∧ w'.cell? ⟨g8, 0, none⟩ = some (.bool s8) ∧ w'.cell? ⟨g8, 1, none⟩ = some (.slice A8 k8 c8))
      (first | (with_reducible exact KF.out _ _ _ _ _ (by with_reducible (repeat (first | exact Below.refl _ _ | refine ua ?_ | refine ud ?_ | refine ut ?_ hb15 | refine ut ?_ hb16 | refine us ?_ (by omega))))) | (exact KS.out _ (by with_reducible (repeat (first | exact Below.refl _ _ | refine ua ?_ | refine ud ?_ | refine ut ?_ hb15 | refine ut ?_ hb16 | refine us ?_ (by omega))))))
      (first
       | (go_at_call 27; (with_reducible refine (hmd _ (hxd.below (by with_reducible (repeat (first | exact Below.refl _ _ | refine ua ?_ | refine ud ?_ | refine ut ?_ hb15 | refine ut ?_ hb16 | refine us ?_ (by omega))))) (hyd.below (by with_reducible (repeat (first | exact Below.refl _ _ | refine ua ?_ | refine ud ?_ | refine ut ?_ hb15 | refine ut ?_ hb16 | refine us ?_ (by omega)))))).mono ?_); rintro e15 w15 ⟨v15, rfl, h15, hb15⟩; have l15 := hb15.size; (try simp at l15); have TT15 : Below w14.heap.size w14 w15 := (by with_reducible (repeat (first | exact Below.refl _ _ | refine ua ?_ | refine ud ?_ | refine ut ?_ hb15 | refine ut ?_ hb16 | refine us ?_ (by omega)))); have ll15 := TT15.size; obtain ⟨s15, A15, k15, c15, rfl⟩ := h15.form)
       | (go_at_call 67; (with_reducible refine (hlw _ _ (hn.below (by with_reducible (repeat (first | exact Below.refl _ _ | refine ua ?_ | refine ud ?_ | refine ut ?_ hb15 | refine ut ?_ hb16 | refine us ?_ (by omega))))) (h15.below (by with_reducible (repeat (first | exact Below.refl _ _ | refine ua ?_ | refine ud ?_ | refine ut ?_ hb15 | refine ut ?_ hb16 | refine us ?_ (by omega)))))).mono ?_); rintro e16 w16 ⟨v16, rfl, h16, hb16⟩; have l16 := hb16.size; (try simp at l16); have TT16 : Below w14.heap.size w14 w16 := (by with_reducible (repeat (first | exact Below.refl _ _ | refine ua ?_ | refine ud ?_ | refine ut ?_ hb15 | refine ut ?_ hb16 | refine us ?_ (by omega)))); have ll16 := TT16.size; have hU16 : Below w14.heap.size w14 w16 := (by with_reducible (repeat (first | exact Below.refl _ _ | refine ua ?_ | refine ud ?_ | refine ut ?_ hb15 | refine ut ?_ hb16 | refine us ?_ (by omega)))); have Z16 := R8.below hU16; have Z16_0 := Z16.cell 0 rfl; have Z16_f0 := Z16.free 0; have Z16_1 := Z16.cell 1 rfl; have Z16_f1 := Z16.free 1; have Z16_2 := Z16.cell 2 rfl; have Z16_f2 := Z16.free 2; have Z16_3 := Z16.cell 3 rfl; have Z16_f3 := Z16.free 3; obtain ⟨sa, Aa, ka, ca, sb, Ab, kb, cb, rfl⟩ := h16.form))
     all_goals (
      go_wp2_with fail
      replace hb := hb.trans (hU16.mono hb.size)
      have Z16_ltw16 := Z16.lt
      have hszw16 := hb.size
      replace hk := rat_stored (v0 := .bool sa) (v1 := .slice Aa ka ca) (v2 := .bool sb) (v3 := .slice Ab kb cb) hb (by omega) Z16
      clear Z16 hb
      obtain ⟨Z16, hb, hk⟩ := hk
      replace h16 := h16.keep hk
      generalize (((w16.setCell ⟨w.heap.size + 1 + 1, 0, none⟩ (.bool sa)).setCell ⟨w.heap.size + 1 + 1, 1, none⟩ (.slice Aa ka ca)).setCell ⟨w.heap.size + 1 + 1, 2, none⟩ (.bool sb)).setCell ⟨w.heap.size + 1 + 1, 3, none⟩ (.slice Ab kb cb) = W6 at *
      replace Z16_0 := Z16.cell 0 rfl
      replace Z16_1 := Z16.cell 1 rfl
      replace Z16_2 := Z16.cell 2 rfl
      replace Z16_3 := Z16.cell 3 rfl
      exact bodyPost_ret (v := .agg #[.bool sa, .slice Aa ka ca, .bool sb, .slice Ab kb cb]) (by simp [results, Tryz.results37, go_sem, Z16_0, Z16_1, Z16_2, Z16_3]) rfl ⟨_, rfl, h16, hb⟩
      )
    ·have hdd : decide ((gc : Int) = 1) = false := decide_eq_false (by omega)
     rw [hdd]
     clear hdd hg1
     go_wp2_with fail
     ((with_reducible refine (gcd_any N gc _ _ _ (hG.below hb) hn h4 (2 * K + 1) bN (by omega) (by rw [hLIM]; omega)).mono ?_))
     rintro e15 w15 ⟨v15, rfl, h15, hb15⟩
     obtain ⟨s15, A15, k15, c15, rfl⟩ := h15.form
     replace X8 := X8.below hb15
     replace X8_0 := X8.cell 0 rfl
     replace X8_1 := X8.cell 1 rfl
     replace X8_2 := X8.cell 2 rfl
     replace X8_3 := X8.cell 3 rfl
     replace Y8 := Y8.below hb15
     replace Y8_0 := Y8.cell 0 rfl
     replace Y8_1 := Y8.cell 1 rfl
     replace Y8_2 := Y8.cell 2 rfl
     replace Y8_3 := Y8.cell 3 rfl
     replace R8 := R8.below hb15
     replace R8_0 := R8.cell 0 rfl
     replace R8_f0 := R8.free 0
     replace R8_1 := R8.cell 1 rfl
     replace R8_f1 := R8.free 1
     replace R8_2 := R8.cell 2 rfl
     replace R8_f2 := R8.free 2
     replace R8_3 := R8.cell 3 rfl
     replace R8_f3 := R8.free 3
     replace G8 := G8.below hb15
     replace G8_0 := G8.cell 0 rfl
     replace G8_1 := G8.cell 1 rfl
     replace T8 := T8.below hb15
     replace T8_0 := T8.cell 0 rfl
     replace T8_1 := T8.cell 1 rfl
     replace N8 := N8.below hb15
     replace N8_0 := N8.cell 0 rfl
     replace N8_1 := N8.cell 1 rfl
     replace hk := Keep.below hb15
     replace hxd := hxd.keep hk
     replace hyd := hyd.keep hk
     replace h4 := h4.keep hk
     replace ht := ht.keep hk
     replace hn := hn.keep hk
     replace hb := hb.trans (hb15.mono hb.size)
     obtain ⟨r, hr⟩ : ∃ r, r = Nat.gcd N.natAbs (gc : Int).natAbs := ⟨_, rfl⟩
     rw [← hr] at h15
     have HQ : Hid (q.num = N.tdiv r ∧ (q.den : Int) = T * yd.tdiv r) := HP.out r hr
     have hr0 : (r : Int) ≠ 0 := fun e => hN0 (by
      have e' : Nat.gcd N.natAbs (gc : Int).natAbs = 0 := by rw [← hr]; omega
      have := Nat.eq_zero_of_gcd_eq_zero_left e'
      omega)
     have br : nl r ≤ 2 * K + 1 := by rw [hr]; exact nl_gcd_left _ _ _ (by omega) bN
     clear hr
     go_wp2_with fail
     have X8_ltw15 := X8.lt
     have Y8_ltw15 := Y8.lt
     have R8_ltw15 := R8.lt
     have G8_ltw15 := G8.lt
     have T8_ltw15 := T8.lt
     have N8_ltw15 := N8.lt
     have hszw15 := hb.size
     replace X8 := X8.alloc (.cells #[.bool s15, .slice A15 k15 c15] 49)
     replace Y8 := Y8.alloc (.cells #[.bool s15, .slice A15 k15 c15] 49)
     replace R8 := R8.alloc (.cells #[.bool s15, .slice A15 k15 c15] 49)
     replace G8 := G8.alloc (.cells #[.bool s15, .slice A15 k15 c15] 49)
     replace T8 := T8.alloc (.cells #[.bool s15, .slice A15 k15 c15] 49)
     replace N8 := N8.alloc (.cells #[.bool s15, .slice A15 k15 c15] 49)
     have D8 := Bx.newAt w15 [.bool s15, .slice A15 k15 c15] 49 (w15.heap.size) (by simp)
     replace hb := hb.alloc hb.size (.cells #[.bool s15, .slice A15 k15 c15] 49)
     replace hk := Keep.alloc w15 (.cells #[.bool s15, .slice A15 k15 c15] 49)
     replace h15 := h15.keep hk
     replace hxd := hxd.keep hk
     replace hyd := hyd.keep hk
     replace ht := ht.keep hk
     replace hn := hn.keep hk
     generalize w15.alloc (.cells #[.bool s15, .slice A15 k15 c15] 49) = w16 at *
     replace X8_0 := X8.cell 0 rfl
     replace X8_1 := X8.cell 1 rfl
     replace X8_2 := X8.cell 2 rfl
     replace X8_3 := X8.cell 3 rfl
     replace Y8_0 := Y8.cell 0 rfl
     replace Y8_1 := Y8.cell 1 rfl
     replace Y8_2 := Y8.cell 2 rfl
     replace Y8_3 := Y8.cell 3 rfl
     replace R8_0 := R8.cell 0 rfl
     replace R8_f0 := R8.free 0
     replace R8_1 := R8.cell 1 rfl
     replace R8_f1 := R8.free 1
     replace R8_2 := R8.cell 2 rfl
     replace R8_f2 := R8.free 2
     replace R8_3 := R8.cell 3 rfl
     replace R8_f3 := R8.free 3
     replace G8_0 := G8.cell 0 rfl
     replace G8_1 := G8.cell 1 rfl
     replace T8_0 := T8.cell 0 rfl
     replace T8_1 := T8.cell 1 rfl
     replace N8_0 := N8.cell 0 rfl
     replace N8_1 := N8.cell 1 rfl
     replace D8_0 := D8.cell 0 rfl
     replace D8_1 := D8.cell 1 rfl
     have hqn := fun W h1 h2 => quo_any N r (.agg #[.bool s8, .slice A8 k8 c8]) (.agg #[.bool s15, .slice A15 k15 c15]) W h1 h2 hr0 (by show _ + 4 * nl r + 4 ≤ _; omega)
     have hqd := fun W h1 h2 => quo_any yd r (.agg #[.bool t', .slice C' l' e']) (.agg #[.bool s15, .slice A15 k15 c15]) W h1 h2 hr0 (by show _ + 4 * nl r + 4 ≤ _; omega)
     have bqd := natAbs_tdiv_le yd r K byd
     have bmd := nl_mul_int T (yd.tdiv r) K K bT bqd
     have hmd := fun W v h1 h2 => mul_any T (yd.tdiv r) (.agg #[.bool s7, .slice A7 k7 c7]) v W h1 h2 (by omega)
     have hlw := fun W u v h1 h2 => lowest_any q (N.tdiv r) (T * yd.tdiv r) u v W h1 h2 HQ.out.1 HQ.out.2 (by omega)
     generalize N.tdiv r = Nr at *
     generalize T * yd.tdiv r = Dr at *
     generalize yd.tdiv r = Yr at *
     have Y8_ltw16 := Y8.lt
     have N8_ltw16 := N8.lt
     have T8_ltw16 := T8.lt
     have D8_ltw16 := D8.lt
     have KS := Lib.hid (show ∀ w', Below w16.heap.size w16 w' → (w'.cell? ⟨w.heap.size + 1, 2, none⟩ = some (.bool t') ∧ w'.cell? ⟨w.heap.size + 1, 3, none⟩ = some (.slice C' l' e') ∧ w'.cell? ⟨g8, 0, none⟩ = some (.bool s8) ∧ w'.cell? ⟨g8, 1, none⟩ = some (.slice A8 k8 c8) ∧ w'.cell? ⟨g7, 0, none⟩ = some (.bool s7) ∧ w'.cell? ⟨g7, 1, none⟩ = some (.slice A7 k7 c7) ∧ w'.cell? ⟨w15.heap.size, 0, none⟩ = some (.bool s15) ∧ w'.cell? ⟨w15.heap.size, 1, none⟩ = some (.slice A15 k15 c15)) from fun w' hU => ⟨(hU.cell (p := ⟨w.heap.size + 1, 2, none⟩) Y8_ltw16).trans (Y8.cell 2 rfl), (hU.cell (p := ⟨w.heap.size + 1, 3, none⟩) Y8_ltw16).trans (Y8.cell 3 rfl), (hU.cell (p := ⟨g8, 0, none⟩) N8_ltw16).trans (N8.cell 0 rfl), (hU.cell (p := ⟨g8, 1, none⟩) N8_ltw16).trans (N8.cell 1 rfl), (hU.cell (p := ⟨g7, 0, none⟩) T8_ltw16).trans (T8.cell 0 rfl), (hU.cell (p := ⟨g7, 1, none⟩) T8_ltw16).trans (T8.cell 1 rfl), (hU.cell (p := ⟨w15.heap.size, 0, none⟩) D8_ltw16).trans (D8.cell 0 rfl), (hU.cell (p := ⟨w15.heap.size, 1, none⟩) D8_ltw16).trans (D8.cell 1 rfl)⟩)
     have n_R8_Y8 : w.heap.size + 1 + 1 ≠ w.heap.size + 1 := by omega
     have n_R8_N8 : w.heap.size + 1 + 1 ≠ g8 := by omega
     have n_R8_T8 : w.heap.size + 1 + 1 ≠ g7 := by omega
     have n_R8_D8 : w.heap.size + 1 + 1 ≠ w15.heap.size := by omega
     have KF := Lib.hid (show ∀ (w' : World) (u0 u1 u2 u3 : Value), Below w16.heap.size w16 w' → (((((w'.setCell ⟨w.heap.size + 1 + 1, 0, none⟩ u0).setCell ⟨w.heap.size + 1 + 1, 1, none⟩ u1).setCell ⟨w.heap.size + 1 + 1, 2, none⟩ u2).setCell ⟨w.heap.size + 1 + 1, 3, none⟩ u3).cell? ⟨w.heap.size + 1, 2, none⟩ = some (.bool t') ∧ ((((w'.setCell ⟨w.heap.size + 1 + 1, 0, none⟩ u0).setCell ⟨w.heap.size + 1 + 1, 1, none⟩ u1).setCell ⟨w.heap.size + 1 + 1, 2, none⟩ u2).setCell ⟨w.heap.size + 1 + 1, 3, none⟩ u3).cell? ⟨w.heap.size + 1, 3, none⟩ = some (.slice C' l' e') ∧ ((((w'.setCell ⟨w.heap.size + 1 + 1, 0, none⟩ u0).setCell ⟨w.heap.size + 1 + 1, 1, none⟩ u1).setCell ⟨w.heap.size + 1 + 1, 2, none⟩ u2).setCell ⟨w.heap.size + 1 + 1, 3, none⟩ u3).cell? ⟨g8, 0, none⟩ = some (.bool s8) ∧ ((((w'.setCell ⟨w.heap.size + 1 + 1, 0, none⟩ u0).setCell ⟨w.heap.size + 1 + 1, 1, none⟩ u1).setCell ⟨w.heap.size + 1 + 1, 2, none⟩ u2).setCell ⟨w.heap.size + 1 + 1, 3, none⟩ u3).cell? ⟨g8, 1, none⟩ = some (.slice A8 k8 c8) ∧ ((((w'.setCell ⟨w.heap.size + 1 + 1, 0, none⟩ u0).setCell ⟨w.heap.size + 1 + 1, 1, none⟩ u1).setCell ⟨w.heap.size + 1 + 1, 2, none⟩ u2).setCell ⟨w.heap.size + 1 + 1, 3, none⟩ u3).cell? ⟨g7, 0, none⟩ = some (.bool s7) ∧ ((((w'.setCell ⟨w.heap.size + 1 + 1, 0, none⟩ u0).setCell ⟨w.heap.size + 1 + 1, 1, none⟩ u1).setCell ⟨w.heap.size + 1 + 1, 2, none⟩ u2).setCell ⟨w.heap.size + 1 + 1, 3, none⟩ u3).cell? ⟨g7, 1, none⟩ = some (.slice A7 k7 c7) ∧ ((((w'.setCell ⟨w.heap.size + 1 + 1, 0, none⟩ u0).setCell ⟨w.heap.size + 1 + 1, 1, none⟩ u1).setCell ⟨w.heap.size + 1 + 1, 2, none⟩ u2).setCell ⟨w.heap.size + 1 + 1, 3, none⟩ u3).cell? ⟨w15.heap.size, 0, none⟩ = some (.bool s15) ∧ ((((w'.setCell ⟨w.heap.size + 1 + 1, 0, none⟩ u0).setCell ⟨w.heap.size + 1 + 1, 1, none⟩ u1).setCell ⟨w.heap.size + 1 + 1, 2, none⟩ u2).setCell ⟨w.heap.size + 1 + 1, 3, none⟩ u3).cell? ⟨w15.heap.size, 1, none⟩ = some (.slice A15 k15 c15)) from fun w' u0 u1 u2 u3 hU => ⟨(cell_far _ _ _ _ _ _ n_R8_Y8).trans ((cell_far _ _ _ _ _ _ n_R8_Y8).trans ((cell_far _ _ _ _ _ _ n_R8_Y8).trans ((cell_far _ _ _ _ _ _ n_R8_Y8).trans ((hU.cell (p := ⟨w.heap.size + 1, 2, none⟩) Y8_ltw16).trans (Y8.cell 2 rfl))))), (cell_far _ _ _ _ _ _ n_R8_Y8).trans ((cell_far _ _ _ _ _ _ n_R8_Y8).trans ((cell_far _ _ _ _ _ _ n_R8_Y8).trans ((cell_far _ _ _ _ _ _ n_R8_Y8).trans ((hU.cell (p := ⟨w.heap.size + 1, 3, none⟩) Y8_ltw16).trans (Y8.cell 3 rfl))))), (cell_far _ _ _ _ _ _ n_R8_N8).trans ((cell_far _ _ _ _ _ _ n_R8_N8).trans ((cell_far _ _ _ _ _ _ n_R8_N8).trans ((cell_far _ _ _ _ _ _ n_R8_N8).trans ((hU.cell (p := ⟨g8, 0, none⟩) N8_ltw16).trans (N8.cell 0 rfl))))), (cell_far _ _ _ _ _ _ n_R8_N8).trans ((cell_far _ _ _ _ _ _ n_R8_N8).trans ((cell_far _ _ _ _ _ _ n_R8_N8).trans ((cell_far _ _ _ _ _ _ n_R8_N8).trans ((hU.cell (p := ⟨g8, 1, none⟩) N8_ltw16).trans (N8.cell 1 rfl))))), (cell_far _ _ _ _ _ _ n_R8_T8).trans ((cell_far _ _ _ _ _ _ n_R8_T8).trans ((cell_far _ _ _ _ _ _ n_R8_T8).trans ((cell_far _ _ _ _ _ _ n_R8_T8).trans ((hU.cell (p := ⟨g7, 0, none⟩) T8_ltw16).trans (T8.cell 0 rfl))))), (cell_far _ _ _ _ _ _ n_R8_T8).trans ((cell_far _ _ _ _ _ _ n_R8_T8).trans ((cell_far _ _ _ _ _ _ n_R8_T8).trans ((cell_far _ _ _ _ _ _ n_R8_T8).trans ((hU.cell (p := ⟨g7, 1, none⟩) T8_ltw16).trans (T8.cell 1 rfl))))), (cell_far _ _ _ _ _ _ n_R8_D8).trans ((cell_far _ _ _ _ _ _ n_R8_D8).trans ((cell_far _ _ _ _ _ _ n_R8_D8).trans ((cell_far _ _ _ _ _ _ n_R8_D8).trans ((hU.cell (p := ⟨w15.heap.size, 0, none⟩) D8_ltw16).trans (D8.cell 0 rfl))))), (cell_far _ _ _ _ _ _ n_R8_D8).trans ((cell_far _ _ _ _ _ _ n_R8_D8).trans ((cell_far _ _ _ _ _ _ n_R8_D8).trans ((cell_far _ _ _ _ _ _ n_R8_D8).trans ((hU.cell (p := ⟨w15.heap.size, 1, none⟩) D8_ltw16).trans (D8.cell 1 rfl)))))⟩)
     go_region_held3 (fun w' => w'.cell? ⟨w.heap.size + 1, 2, none⟩ = some (.bool t') ∧ w'.cell? ⟨w.heap.size + 1, 3, none⟩ = some (.slice C' l' e') ∧ w'.cell? ⟨g8, 0, none⟩ = some (.bool s8) ∧ w'.cell? ⟨g8, 1, none⟩ = some (.slice A8 k8 c8) ∧ w'.cell? ⟨g7, 0, none⟩ = some (.bool s7) ∧ w'.cell? ⟨g7, 1, none⟩ = some (.slice A7 k7 c7) ∧ w'.cell? ⟨w15.heap.size, 0, none⟩ = some (.bool s15) ∧ w'.cell? ⟨w15.heap.size, 1, none⟩ = some (.slice A15 k15 c15))
      (first | (with_reducible exact KF.out _ _ _ _ _ (by with_reducible (repeat (first | exact Below.refl _ _ | refine ua ?_ | refine ud ?_ | refine ut ?_ hb17 | refine ut ?_ hb18 | refine ut ?_ hb19 | refine ut ?_ hb20 | refine us ?_ (by omega))))) | (exact KS.out _ (by with_reducible (repeat (first | exact Below.refl _ _ | refine ua ?_ | refine ud ?_ | refine ut ?_ hb17 | refine ut ?_ hb18 | refine ut ?_ hb19 | refine ut ?_ hb20 | refine us ?_ (by omega))))))
      (first
       | (go_at_call 66; (with_reducible refine (hqn _ (hn.below (by with_reducible (repeat (first | exact Below.refl _ _ | refine ua ?_ | refine ud ?_ | refine ut ?_ hb17 | refine ut ?_ hb18 | refine ut ?_ hb19 | refine ut ?_ hb20 | refine us ?_ (by omega))))) (h15.below (by with_reducible (repeat (first | exact Below.refl _ _ | refine ua ?_ | refine ud ?_ | refine ut ?_ hb17 | refine ut ?_ hb18 | refine ut ?_ hb19 | refine ut ?_ hb20 | refine us ?_ (by omega)))))).mono ?_); rintro e17 w17 ⟨v17, rfl, h17, hb17⟩; have l17 := hb17.size; (try simp at l17); have TT17 : Below w16.heap.size w16 w17 := (by with_reducible (repeat (first | exact Below.refl _ _ | refine ua ?_ | refine ud ?_ | refine ut ?_ hb17 | refine ut ?_ hb18 | refine ut ?_ hb19 | refine ut ?_ hb20 | refine us ?_ (by omega)))); have ll17 := TT17.size; obtain ⟨s17, A17, k17, c17, rfl⟩ := h17.form)
       | (go_at_call 66; (with_reducible refine (hqd _ (hyd.below (by with_reducible (repeat (first | exact Below.refl _ _ | refine ua ?_ | refine ud ?_ | refine ut ?_ hb17 | refine ut ?_ hb18 | refine ut ?_ hb19 | refine ut ?_ hb20 | refine us ?_ (by omega))))) (h15.below (by with_reducible (repeat (first | exact Below.refl _ _ | refine ua ?_ | refine ud ?_ | refine ut ?_ hb17 | refine ut ?_ hb18 | refine ut ?_ hb19 | refine ut ?_ hb20 | refine us ?_ (by omega)))))).mono ?_); rintro e18 w18 ⟨v18, rfl, h18, hb18⟩; have l18 := hb18.size; (try simp at l18); have TT18 : Below w16.heap.size w16 w18 := (by with_reducible (repeat (first | exact Below.refl _ _ | refine ua ?_ | refine ud ?_ | refine ut ?_ hb17 | refine ut ?_ hb18 | refine ut ?_ hb19 | refine ut ?_ hb20 | refine us ?_ (by omega)))); have ll18 := TT18.size; obtain ⟨s18, A18, k18, c18, rfl⟩ := h18.form)
       | (go_at_call 27; (with_reducible refine (hmd _ _ (ht.below (by with_reducible (repeat (first | exact Below.refl _ _ | refine ua ?_ | refine ud ?_ | refine ut ?_ hb17 | refine ut ?_ hb18 | refine ut ?_ hb19 | refine ut ?_ hb20 | refine us ?_ (by omega))))) (h18.below (by with_reducible (repeat (first | exact Below.refl _ _ | refine ua ?_ | refine ud ?_ | refine ut ?_ hb17 | refine ut ?_ hb18 | refine ut ?_ hb19 | refine ut ?_ hb20 | refine us ?_ (by omega)))))).mono ?_); rintro e19 w19 ⟨v19, rfl, h19, hb19⟩; have l19 := hb19.size; (try simp at l19); have TT19 : Below w16.heap.size w16 w19 := (by with_reducible (repeat (first | exact Below.refl _ _ | refine ua ?_ | refine ud ?_ | refine ut ?_ hb17 | refine ut ?_ hb18 | refine ut ?_ hb19 | refine ut ?_ hb20 | refine us ?_ (by omega)))); have ll19 := TT19.size; obtain ⟨s19, A19, k19, c19, rfl⟩ := h19.form)
       | (go_at_call 67; (with_reducible refine (hlw _ _ _ (h17.below (by with_reducible (repeat (first | exact Below.refl _ _ | refine ua ?_ | refine ud ?_ | refine ut ?_ hb17 | refine ut ?_ hb18 | refine ut ?_ hb19 | refine ut ?_ hb20 | refine us ?_ (by omega))))) (h19.below (by with_reducible (repeat (first | exact Below.refl _ _ | refine ua ?_ | refine ud ?_ | refine ut ?_ hb17 | refine ut ?_ hb18 | refine ut ?_ hb19 | refine ut ?_ hb20 | refine us ?_ (by omega)))))).mono ?_); rintro e20 w20 ⟨v20, rfl, h20, hb20⟩; have l20 := hb20.size; (try simp at l20); have TT20 : Below w16.heap.size w16 w20 := (by with_reducible (repeat (first | exact Below.refl _ _ | refine ua ?_ | refine ud ?_ | refine ut ?_ hb17 | refine ut ?_ hb18 | refine ut ?_ hb19 | refine ut ?_ hb20 | refine us ?_ (by omega)))); have ll20 := TT20.size; have hU20 : Below w16.heap.size w16 w20 := (by with_reducible (repeat (first | exact Below.refl _ _ | refine ua ?_ | refine ud ?_ | refine ut ?_ hb17 | refine ut ?_ hb18 | refine ut ?_ hb19 | refine ut ?_ hb20 | refine us ?_ (by omega)))); have Z20 := R8.below hU20; have Z20_0 := Z20.cell 0 rfl; have Z20_f0 := Z20.free 0; have Z20_1 := Z20.cell 1 rfl; have Z20_f1 := Z20.free 1; have Z20_2 := Z20.cell 2 rfl; have Z20_f2 := Z20.free 2; have Z20_3 := Z20.cell 3 rfl; have Z20_f3 := Z20.free 3; obtain ⟨sa, Aa, ka, ca, sb, Ab, kb, cb, rfl⟩ := h20.form))
     all_goals (
      go_wp2_with fail
      replace hb := hb.trans (hU20.mono hb.size)
      have Z20_ltw20 := Z20.lt
      have hszw20 := hb.size
      replace hk := rat_stored (v0 := .bool sa) (v1 := .slice Aa ka ca) (v2 := .bool sb) (v3 := .slice Ab kb cb) hb (by omega) Z20
      clear Z20 hb
      obtain ⟨Z20, hb, hk⟩ := hk
      replace h20 := h20.keep hk
      generalize (((w20.setCell ⟨w.heap.size + 1 + 1, 0, none⟩ (.bool sa)).setCell ⟨w.heap.size + 1 + 1, 1, none⟩ (.slice Aa ka ca)).setCell ⟨w.heap.size + 1 + 1, 2, none⟩ (.bool sb)).setCell ⟨w.heap.size + 1 + 1, 3, none⟩ (.slice Ab kb cb) = W6 at *
      replace Z20_0 := Z20.cell 0 rfl
      replace Z20_1 := Z20.cell 1 rfl
      replace Z20_2 := Z20.cell 2 rfl
      replace Z20_3 := Z20.cell 3 rfl
      exact bodyPost_ret (v := .agg #[.bool sa, .slice Aa ka ca, .bool sb, .slice Ab kb cb]) (by simp [results, Tryz.results37, go_sem, Z20_0, Z20_1, Z20_2, Z20_3]) rfl ⟨_, rfl, h20, hb⟩
      )
theorem ratAdd_any (x y : Rat) (vx vy : Value) (w : World) (hG : Glob w) (hx : RatAt w vx x) (hy : RatAt w vy y) (K : Nat) (bx : RL K x) (bY : RL K y) (hK : 20 * K + 60 ≤ LIM) :
  Calls Tryz.prog 37 #[vx, vy] w (RetRat w (x + y)) := by
 by_cases h1 : x.den = 1
 ·by_cases h2 : y.den = 1
  ·exact ratAdd_ii x y vx vy w hx hy h1 h2 K bx bY (by omega)
  ·exact ratAdd_iy x y vx vy w hx hy h1 h2 K bx bY (by omega)
 ·by_cases h2 : y.den = 1
  ·exact ratAdd_xi x y vx vy w hx hy h1 h2 K bx bY (by omega)
  ·exact ratAdd_xy x y vx vy w hG hx hy h1 h2 K bx bY hK
def addR (a b : List Rat) : List Rat := (List.range (max a.length b.length)).map (fun i => cf a i + cf b i)
theorem addR_len (a b : List Rat) : (addR a b).length = max a.length b.length := by unfold addR; rw [List.length_map, List.length_range]
theorem addR_get (a b : List Rat) {i : Nat} (h : i < max a.length b.length) : (addR a b)[i]? = some (cf a i + cf b i) := by unfold addR; rw [List.getElem?_map, List.getElem?_range h]; rfl
theorem cf_addR (a b : List Rat) (i : Nat) : cf (addR a b) i = cf a i + cf b i := by
 by_cases h : i < max a.length b.length
 ·exact cf_of (addR_get a b h)
 ·rw [cf_top (by rw [addR_len]; omega), cf_top (l := a) (by omega), cf_top (l := b) (by omega), Rat.add_zero]
theorem cf_pad (a : List Rat) (k i : Nat) : cf (a ++ List.replicate k 0) i = cf a i := by
 by_cases h : i < a.length
 ·rw [cf_get (l := a) h, cf_of (a := a[i])]
  rw [List.getElem?_append_left h, List.getElem?_eq_getElem h]
 ·rw [cf_top (l := a) (by omega)]
  by_cases h2 : i < a.length + k
  ·refine cf_of ?_
   rw [List.getElem?_append_right (by omega), List.getElem?_replicate, if_pos (by omega)]
  ·exact cf_top (by rw [List.length_append, List.length_replicate]; omega)
theorem pad_get (a : List Rat) (k i : Nat) (h : i < a.length + k) : (a ++ List.replicate k 0)[i]? = some (cf a i) := by
 have hl : i < (a ++ List.replicate k 0).length := by rw [List.length_append, List.length_replicate]; exact h
 rw [List.getElem?_eq_getElem hl, ← cf_get hl, cf_pad]
theorem addR_RL {a b : List Rat} {K : Nat} (ha : ∀ q ∈ a, RL K q) (hb : ∀ q ∈ b, RL K q) (h1 : 1 ≤ K) : ∀ q ∈ addR a b, RL (2 * K + 1) q := fun q hq => by
 unfold addR at hq
 obtain ⟨i, _, rfl⟩ := List.mem_map.1 hq
 have h0 : RL K 0 := ⟨by show nl 0 ≤ K; rw [nl_zero]; omega, by show nl 1 ≤ K; exact Nat.le_trans (nl_le (by decide)) h1⟩
 have hc : ∀ (l : List Rat), (∀ q ∈ l, RL K q) → RL K (cf l i) := fun l hl => by
  by_cases h : i < l.length
  ·rw [cf_get h]; exact hl _ (List.getElem_mem h)
  ·rw [cf_top (by omega)]; exact h0
 exact add_RL (hc a ha) (hc b hb)
theorem RL_zero' {K : Nat} (h : 1 ≤ K) : RL K 0 := ⟨by show nl 0 ≤ K; rw [nl_zero]; omega, by show nl 1 ≤ K; exact Nat.le_trans (nl_le (by decide)) h⟩
theorem cf_RL {l : List Rat} {K : Nat} (h : ∀ q ∈ l, RL K q) (h0 : RL K 0) (i : Nat) : RL K (cf l i) := by
 by_cases hi : i < l.length
 ·rw [cf_get hi]; exact h _ (List.getElem_mem hi)
 ·rw [cf_top (by omega)]; exact h0
def RetAdd (w : World) (a b : List (List UInt8)) (e : Ending) (w' : World) : Prop :=
 if vl a = true ∧ vl b = true then RetPoly w (trimG isZ (addR (ratsOf a) (ratsOf b))) e w' else ∃ v', e = .returned (.tuple #[v', .int .i64 1]) ∧ StrsAt w' v' [] ∧ Below w.heap.size w w'
set_option maxRecDepth 100000 in
theorem combine_add (a b : List (List UInt8)) (va vb : Value) (w : World) (hG : Glob w) (ha : StrsAt w va a) (hb' : StrsAt w vb b) (hla : a.length ≤ 1073741824) (hlb : b.length ≤ 1073741824) (K : Nat)
  (hca : a.length ≤ 65 → ∀ l ∈ a, l.length ≤ 1073741824) (hcb : b.length ≤ 65 → ∀ l ∈ b, l.length ≤ 1073741824) (hKa : a.length ≤ 65 → ∀ q ∈ ratsOf a, RL K q) (hKb : b.length ≤ 65 → ∀ q ∈ ratsOf b, RL K q) (hK1 : 1 ≤ K) (hK : 2 * K + 1 ≤ 1073741824) :
  Calls Tryz.prog 36 #[va, vb, .func (.func 37) #[] #[]] w (RetAdd w a b) := by
 obtain ⟨A, c, rfl, hc⟩ := ha.form
 obtain ⟨A', c', rfl, hc'⟩ := hb'.form
 go_enter Tryz.func36, Tryz.ntmps36
 go_wp2_with fail
 ((with_reducible refine (readRatios_any a _ _ hG ha hla hca).mono ?_))
 rintro e1 w1 ⟨v1, rfl, h1, hb1⟩
 go_wp2_with fail
 ((with_reducible refine (readRatios_any b _ _ (hG.below hb1) (hb'.below hb1) hlb hcb).mono ?_))
 rintro e2 w2 ⟨v2, rfl, h2, hb2⟩
 have hb := hb1.trans (hb2.mono hb1.size)
 by_cases hva : vl a = true
 ·by_cases hvb : vl b = true
  ·obtain ⟨gx, rfl, hgx, X⟩ := h1 hva
   obtain ⟨gy, rfl, hgy, Y⟩ := h2 hvb
   have l65a := (vl_parts hva).1
   have l65b := (vl_parts hvb).1
   have HR : Hid (∀ e w', RetPoly w (trimG isZ (addR (ratsOf a) (ratsOf b))) e w' → RetAdd w a b e w') := fun e w' h => by unfold RetAdd; rw [if_pos ⟨hva, hvb⟩]; exact h
   have hKx := hKa l65a
   have hKy := hKb l65b
   have hxl := rats_len a
   have hyl := rats_len b
   rw [hva, hvb]
   clear h1 h2 hva hvb hKa hKb hca hcb ha hb' hc hc'
   generalize ratsOf a = xs at *
   generalize ratsOf b = ys at *
   rw [← hxl, ← hyl]
   rw [← hxl] at l65a hla
   rw [← hyl] at l65b hlb
   clear hxl hyl
   have X2 := X.below hb2
   have hxy : gx ≠ gy := by have := X.lt; omega
   have hxlt := X2.lt
   have hylt := Y.lt
   have hsz := hb.size
   obtain ⟨M, hM⟩ : ∃ M, max xs.length ys.length = M := ⟨_, rfl⟩
   have hMi : max (xs.length : Int) (ys.length : Int) = (M : Int) := by omega
   have hM1 : xs.length ≤ M := by omega
   have hM2 : ys.length ≤ M := by omega
   have hM3 : M ≤ 65 := by omega
   have HM := Lib.hid hM
   have ex : xs.length + (M - xs.length) = M := by omega
   have ey : ys.length + (M - ys.length) = M := by omega
   have EX := Lib.hid ex
   have EY := Lib.hid ey
   obtain ⟨rx, rx1, rx2, rx3⟩ := X2
   clear X hM ex ey
   have tok1 : True := trivial
   go_wp2_with (first
    | (at_builtin; have _t := tok1; clear tok1 _t; refine wpList_appendR rfl rfl 71 _ 4 64 Tryz.underlying53 Tryz.underlying3 infoRat rfl (by decide) (by decide) gx xs.length (M - xs.length) rfl rfl (by omega) (by omega) rx rx1 rx2 ?_; intro gx3 cx3 w3 rx' hg3 hr3 hb3 hcx3; obtain ⟨ry, ry1, ry2, ry3⟩ := Y.below hb3; have tok2 : True := trivial)
    | (at_builtin; have _t := tok2; clear tok2 _t; refine wpList_appendR rfl rfl 71 _ 4 64 Tryz.underlying53 Tryz.underlying3 infoRat rfl (by decide) (by decide) gy ys.length (M - ys.length) rfl rfl (by omega) (by omega) ry ry1 ry2 ?_; intro gy4 cy4 w4 ry' hg4 hr4 hb4 hcy4))
   have X3 := OwnR.zeros rx3 rfl rx2 (Keep.below hb3) hr3
   have Y4 := OwnR.zeros ry3 rfl ry2 (Keep.below hb4) hr4
   have X4 := X3.below hb4
   have hx3l := X3.lt
   have hy4l := Y4.lt
   have hs3 := hb3.size
   have hs4 := hb4.size
   have hgxy : gx3 ≠ gy4 := by rcases hg3 with ⟨rfl, rfl⟩ | hg3 <;> rcases hg4 with ⟨rfl, rfl⟩ | hg4 <;> omega
   have hgx3 : w.heap.size ≤ gx3 := by rcases hg3 with ⟨rfl, rfl⟩ | hg3 <;> omega
   have hbw := (hb.trans (hb3.mono hb.size)).trans (hb4.mono (by omega))
   rw [EX.out] at hcx3
   rw [EY.out] at hcy4
   clear hg3 hg4 hr3 hr4 rx1 rx2 rx3 ry1 ry2 ry3 X3 Y hxy hxlt hylt hb1 hb2 hb3 hb4 hgx hgy hsz hx3l hy4l
   replace hG := hG
   have hXl : (xs ++ List.replicate (M - xs.length) (0 : Rat)).length = M := by rw [List.length_append, List.length_replicate]; exact EX.out
   have hYl : (ys ++ List.replicate (M - ys.length) (0 : Rat)).length = M := by rw [List.length_append, List.length_replicate]; exact EY.out
   have hzl : (addR xs ys).length = M := by rw [addR_len]; exact HM.out
   have HXG : Hid (∀ j, j < M → (xs ++ List.replicate (M - xs.length) (0 : Rat))[j]? = some (cf xs j)) := fun j hj => pad_get _ _ _ (by rw [EX.out]; exact hj)
   have HYG : Hid (∀ j, j < M → (ys ++ List.replicate (M - ys.length) (0 : Rat))[j]? = some (cf ys j)) := fun j hj => pad_get _ _ _ (by rw [EY.out]; exact hj)
   have HZG : Hid (∀ j, j < M → (addR xs ys)[j]? = some (cf xs j + cf ys j)) := fun j hj => addR_get _ _ (by rw [HM.out]; exact hj)
   have h0R := RL_zero' hK1
   have HKX : Hid (∀ j, RL K (cf xs j)) := fun j => cf_RL hKx h0R j
   have HKY : Hid (∀ j, RL K (cf ys j)) := fun j => cf_RL hKy h0R j
   have HKZ : Hid (∀ q ∈ addR xs ys, RL (2 * K + 1) q) := addR_RL hKx hKy hK1
   generalize xs ++ List.replicate (M - xs.length) (0 : Rat) = XS at *
   generalize ys ++ List.replicate (M - ys.length) (0 : Rat) = YS at *
   generalize hzz : addR xs ys = zs at *
   have HXL := Lib.hid hXl
   have HYL := Lib.hid hYl
   have HZL := Lib.hid hzl
   clear hXl hYl hzl hzz h0R hKx hKy
   go_loopg [49] M (fun k i wr => ∃ j, Hid (j + k = M) ∧ i = .int .i64 j ∧ OwnR wr gx3 (zs.take j ++ XS.drop j) ∧ OwnR wr gy4 YS ∧ Below w.heap.size w wr)
   case atStart => exact ⟨0, by unfold Hid; omega, rfl, by simpa using X4, Y4, hbw⟩
   case round =>
    clear X4 Y4 hbw
    obtain ⟨j, HJ, rfl, X, Y, hbw⟩ := hrel
    generalize wr = wx at *
    have hj0 : (0 : Int) ≤ (j : Int) := by omega
    cases gk with
    | zero =>
     have hj : j = M := HJ.out
     subst hj
     rw [List.take_of_length_le (by rw [HZL.out]; exact Nat.le_refl _), List.drop_of_length_le (by rw [HXL.out]; exact Nat.le_refl _), List.append_nil] at X
     have hr := X.rats cx3 (by rw [HZL.out]; exact hcx3)
     rw [HZL.out] at hr
     have hle : (trimG isZ zs).length ≤ 65 := Nat.le_trans (trimG_len isZ zs) (by rw [HZL.out]; exact hM3)
     have HLE := Lib.hid hle
     have hwr : Calls Tryz.prog 24 #[.slice (some ⟨gx3, 0, none⟩) j cx3] wx (fun e w' => ∃ v', e = .returned (.tuple #[v', .int .i64 0]) ∧ StrsAt w' v' ((trimG isZ zs).map ratTxt) ∧ Below wx.heap.size wx w') :=
      (write_any zs _ _ (hG.below hbw) hr (2 * K + 1) HKZ.out hK (by rw [HZL.out]; omega)).mono (fun e w' h => by
       obtain ⟨v', he, hs, hb⟩ := h
       rw [if_pos hle] at he hs
       exact ⟨v', he, hs, hb⟩)
     clear hle
     go_wp2_with fail
     ((with_reducible refine hwr.mono ?_))
     rintro e5 w5 ⟨v5, rfl, h5, hb5⟩
     go_wp2_with fail
     go_ret2
     refine HR.out _ _ ?_
     unfold RetPoly
     rw [if_pos HLE.out, if_pos HLE.out]
     exact ⟨_, rfl, h5, hbw.trans (hb5.mono hbw.size)⟩
    | succ k =>
     have hjM : j < M := by have := HJ.out; omega
     have hj1 : (j : Int) < (M : Int) := by omega
     have hlz : XS.length = zs.length := by rw [HXL.out, HZL.out]
     have htg := turn_get (ys := zs) (xs := XS) (j := j) (by rw [HXL.out]; exact hjM) hlz
     have htl := turn_len (j := j) hlz
     have hts := turn_step (xs := XS) (ys := zs) (y := cf xs j + cf ys j) (j := j) (HZG.out j hjM) hlz
     rw [HXG.out j hjM] at htg
     have hgx : j < (zs.take j ++ XS.drop j).length := by rw [htl, HXL.out]; exact hjM
     obtain ⟨s, B, l, d, s', B', l', d', p0, p1, p2, p3, hx⟩ := X.at_ htg
     obtain ⟨t, C, m, e, t', C', m', e', r0, r1, r2, r3, hy⟩ := Y.at_ (HYG.out j hjM)
     have bx := HKX.out j
     have bY := HKY.out j
     have f0 := X.free (j * 4)
     have f1 := X.free (j * 4 + 1)
     have f2 := X.free (j * 4 + 2)
     have f3 := X.free (j * 4 + 3)
     have Xd := X.below (Below.refl _ _).drew
     have Yd := Y.below (Below.refl _ _).drew
     have hxd := hx.drew
     have hyd := hy.drew
     have hbd := hbw.drew
     have hGd := hG.below hbd
     have HTS := Lib.hid hts
     generalize cf xs j = x at *
     generalize cf ys j = y at *
     clear htg htl hts X Y hx hy HXG HYG HZG HKX HKY hlz
     go_wp2_with fail
     go_region_with (first
      | (go_at_call 37; (with_reducible refine (ratAdd_any x y _ _ _ hGd hxd hyd K bx bY (by unfold LIM; omega)).mono ?_); rintro e6 w6 ⟨v6, rfl, h6, hb6⟩; obtain ⟨s6, A6, k6, c6, s7, A7, k7, c7, rfl⟩ := h6.form; replace Xd := Xd.below hb6; replace Yd := Yd.below hb6; replace hbd := hbd.trans (hb6.mono hbd.size); obtain ⟨_, _, _, _, _, _, _, _, g0, g1, g2, g3, -⟩ := Xd.at_ (List.getElem?_eq_getElem hgx); have f0' := Xd.free (j * 4); have f1' := Xd.free (j * 4 + 1); have f2' := Xd.free (j * 4 + 2); have f3' := Xd.free (j * 4 + 3)))
     all_goals (
      go_wp2_with fail
      obtain ⟨zX, hst⟩ := Xd.stored hgx h6
      rw [HTS.out] at zX
      have zY := Yd.step hst (by omega)
      have zb := below_step hbd hst hgx3
      go_roundg k
      case rel => exact ⟨j + 1, by have := HJ.out; unfold Hid; omega, by go_num, zX, zY, zb⟩
      case measure => omega)
  ·have hvb' : vl b = false := by simpa using hvb
   have HN : Hid (¬ (vl a = true ∧ vl b = true)) := fun h => hvb h.2
   rw [hva, hvb']
   clear hva hvb hvb' h1 h2
   go_wp2_with fail
   go_ret2
   unfold RetAdd
   rw [if_neg HN.out]
   exact ⟨_, rfl, StrsAt.nil _ _ _, hb⟩
 ·have hva' : vl a = false := by simpa using hva
  have HN : Hid (¬ (vl a = true ∧ vl b = true)) := fun h => hva h.1
  rw [hva']
  clear hva hva' h1 h2
  generalize vl b = ok
  go_wp2_with fail
  all_goals (
   go_ret2
   unfold RetAdd
   rw [if_neg HN.out]
   exact ⟨_, rfl, StrsAt.nil _ _ _, hb⟩)
set_option maxRecDepth 100000 in
theorem add_poly (a b : List (List UInt8)) (va vb : Value) (w : World) (hG : Glob w) (ha : StrsAt w va a) (hb' : StrsAt w vb b) (hla : a.length ≤ 1073741824) (hlb : b.length ≤ 1073741824) (K : Nat)
  (hca : a.length ≤ 65 → ∀ l ∈ a, l.length ≤ 1073741824) (hcb : b.length ≤ 65 → ∀ l ∈ b, l.length ≤ 1073741824) (hKa : a.length ≤ 65 → ∀ q ∈ ratsOf a, RL K q) (hKb : b.length ≤ 65 → ∀ q ∈ ratsOf b, RL K q) (hK1 : 1 ≤ K) (hK : 2 * K + 1 ≤ 1073741824)
  (hva : vl a = true) (hvb : vl b = true) (hP : (trimG isZ (addR (ratsOf a) (ratsOf b))).length ≤ 65) :
  Calls Tryz.prog 16 #[va, vb] w fun e w' => ∃ v', e = .returned (.tuple #[v', .int .i64 0]) ∧ StrsAt w' v' ((trimG isZ (addR (ratsOf a) (ratsOf b))).map ratTxt) ∧ Below w.heap.size w w' := by
 obtain ⟨A, c, rfl, hc⟩ := ha.form
 obtain ⟨A', c', rfl, hc'⟩ := hb'.form
 have hcm := (combine_add a b _ _ w hG ha hb' hla hlb K hca hcb hKa hKb hK1 hK).mono (fun e w' h => show ∃ v', e = .returned (.tuple #[v', .int .i64 0]) ∧ StrsAt w' v' ((trimG isZ (addR (ratsOf a) (ratsOf b))).map ratTxt) ∧ Below w.heap.size w w' by
  unfold RetAdd at h
  rw [if_pos ⟨hva, hvb⟩] at h
  obtain ⟨v', he, hs, hb⟩ := h
  rw [if_pos hP] at he hs
  exact ⟨v', he, hs, hb⟩)
 clear hva hvb hP hKa hKb hca hcb
 generalize (trimG isZ (addR (ratsOf a) (ratsOf b))).map ratTxt = T at *
 go_enter Tryz.func16, Tryz.ntmps16
 go_wp2_with fail
 ((with_reducible refine hcm.mono ?_))
 rintro e5 w5 ⟨v5, rfl, h5, hb5⟩
 go_wp2_with fail
 go_ret2
 exact ⟨_, rfl, h5, hb5⟩
theorem polys_two {w : World} {A A' : Option Addr} {c c' : Nat} {a b : List (List UInt8)} (ha : StrsAt w (.slice A a.length c) a) (hb : StrsAt w (.slice A' b.length c') b) (t : TypeId) :
  PolysAt (w.alloc (.cells #[.slice A a.length c, .slice A' b.length c'] t)) (.slice (some ⟨w.heap.size, 0, none⟩) 2 2) [a, b] := by
 have B := Bx.new w [.slice A a.length c, .slice A' b.length c'] t
 have hu : Below w.heap.size w (w.alloc (.cells #[.slice A a.length c, .slice A' b.length c'] t)) := (Below.refl _ _).alloc (Nat.le_refl _) _
 refine ⟨w.heap.size, 2, rfl, fun i p hp => ?_⟩
 match i, hp with
 | 0, hp =>
  simp at hp
  subst hp
  exact ⟨A, c, B.cell 0 rfl, ha.below hu⟩
 | 1, hp =>
  simp at hp
  subst hp
  exact ⟨A', c', B.cell 1 rfl, hb.below hu⟩
theorem div_back {A B Q R : List Rat} {K : Nat} (h : DivRes A B Q R K) (tA : Trimmed A) : trimG isZ (addR (trimG isZ (timesR Q B)) R) = A := by
 refine trim_ext (trimmed_trim _) tA (fun i => ?_)
 rw [cf_trim, cf_addR, cf_trim, cf_timesR]
 exact h.id_ i
theorem div_prod_RL {A B Q R : List Rat} {K : Nat} (h : DivRes A B Q R K) (hA : ∀ q ∈ A, RL K q) (h1 : 1 ≤ K) : ∀ q ∈ trimG isZ (timesR Q B), RL (2 * K + 1) q := fun q hq => by
 obtain ⟨i, hi, rfl⟩ := List.getElem_of_mem hq
 have e : (trimG isZ (timesR Q B))[i] = cf A i + -(cf R i) := by
  rw [← cf_get hi, cf_trim, cf_timesR, ← h.id_ i]
  grind
 rw [e]
 exact add_RL (cf_RL hA (RL_zero h1) i) (RL_neg (cf_RL h.br (RL_zero h1) i))
theorem timesR_len {Q B : List Rat} : (timesR Q B).length ≤ Q.length + B.length := by
 unfold timesR
 split
 ·simp
 ·rw [List.length_map, List.length_range]; omega
set_option maxRecDepth 100000 in
theorem division_any (a b : List (List UInt8)) (va vb : Value) (w : World) (hG : Glob w) (ha : StrsAt w va a) (hb' : StrsAt w vb b) (hca : ∀ l ∈ a, l.length ≤ 9223372036854775807) (hcb : ∀ l ∈ b, l.length ≤ 9223372036854775807) :
  Calls Tryz.prog 4 #[va, vb] w fun e w' => e = .returned (.bool true) ∧ Below w.heap.size w w' := by
 obtain ⟨A, c, rfl, hc⟩ := ha.form
 obtain ⟨A', c', rfl, hc'⟩ := hb'.form
 have hp := polys_two ha hb' 22
 have hb : Below w.heap.size w (w.alloc (.cells #[.slice A a.length c, .slice A' b.length c'] 22)) := (Below.refl _ _).alloc (Nat.le_refl _) _
 have hsm := fun W v (hp : PolysAt W v [a, b]) => show Calls Tryz.prog 7 #[.int .i64 12, .int .i64 8, v] W fun e w' => e = .returned (.bool (smallB 12 8 [a, b])) ∧ W = w' from small_any 12 8 [a, b] v W hp (by decide) (by decide) (by show 2 ≤ 1073741824; decide) (fun p hp => by
  simp only [List.mem_cons, List.not_mem_nil, or_false] at hp
  rcases hp with rfl | rfl
  ·exact hca
  ·exact hcb)
 clear hca hcb
 go_enter Tryz.func4, Tryz.ntmps4
 go_wp2_with fail
 replace ha := ha.below hb
 replace hb' := hb'.below hb
 generalize w.alloc (.cells #[.slice A a.length c, .slice A' b.length c'] 22) = W at *
 ((with_reducible refine (hsm _ _ hp).mono ?_))
 rintro e1 w1 ⟨rfl, rfl⟩
 clear hsm hp
 cases hs : smallB 12 8 [a, b] with
 | false =>
  clear hs
  go_wp2_with fail
  ((with_reducible refine (awake_any _ (hG.below hb)).mono ?_))
  rintro e9 w9 ⟨rfl, hb9⟩
  go_wp2_with fail
  go_ret
  exact ⟨rfl, hb.trans (hb9.mono hb.size)⟩
 | true =>
  obtain ⟨la, sa⟩ := small_parts hs (p := a) (by simp)
  obtain ⟨lb, sb⟩ := small_parts hs (p := b) (by simp)
  have hca : a.length ≤ 65 → ∀ l ∈ a, l.length ≤ 1073741824 := fun _ l hl => Nat.le_trans (sa l hl) (by decide)
  have hcb : b.length ≤ 65 → ∀ l ∈ b, l.length ≤ 1073741824 := fun _ l hl => Nat.le_trans (sb l hl) (by decide)
  have hKa : ∀ q ∈ ratsOf a, RL 1 q := RL_short (fun l hl => Nat.le_trans (sa l hl) (by decide))
  have hKb : ∀ q ∈ ratsOf b, RL 1 q := RL_short (fun l hl => Nat.le_trans (sb l hl) (by decide))
  clear hs sa sb
  go_wp2_with fail
  ((with_reducible refine (valid_any a _ _ (hG.below hb) ha (by omega) hca).mono ?_))
  rintro e2 w2 ⟨rfl, hb2⟩
  replace ha := ha.below hb2
  replace hb' := hb'.below hb2
  replace hb := hb.trans (hb2.mono hb.size)
  cases hva : vl a with
  | false =>
   clear hva
   go_wp2_with fail
   ((with_reducible refine (awake_any _ (hG.below hb)).mono ?_))
   rintro e9 w9 ⟨rfl, hb9⟩
   go_wp2_with fail
   go_ret
   exact ⟨rfl, hb.trans (hb9.mono hb.size)⟩
  | true =>
   have HVA := Lib.hid hva
   clear hva
   go_wp2_with fail
   ((with_reducible refine (valid_any b _ _ (hG.below hb) hb' (by omega) hcb).mono ?_))
   rintro e3 w3 ⟨rfl, hb3⟩
   replace ha := ha.below hb3
   replace hb' := hb'.below hb3
   replace hb := hb.trans (hb3.mono hb.size)
   cases hvb : vl b with
   | false =>
    clear hvb
    go_wp2_with fail
    ((with_reducible refine (awake_any _ (hG.below hb)).mono ?_))
    rintro e9 w9 ⟨rfl, hb9⟩
    go_wp2_with fail
    go_ret
    exact ⟨rfl, hb.trans (hb9.mono hb.size)⟩
   | true =>
    have HVB := Lib.hid hvb
    clear hvb
    go_wp2_with fail
    ((with_reducible refine (quoRem_gen a b _ _ _ (hG.below hb) ha hb' (by omega) (by omega) 1 hca hcb (fun _ => hKa) (fun _ => hKb) 4555 4621 (by decide) (by decide) (by decide)).mono ?_))
    rintro e4 w4 ⟨vq, vr, n, Q, R, rfl, hq, hr, hb4, -, hz, hd⟩
    replace ha := ha.below hb4
    replace hb' := hb'.below hb4
    replace hb := hb.trans (hb4.mono hb.size)
    by_cases hb0 : b = []
    ·obtain ⟨rfl, rfl, rfl⟩ := hz HVA.out HVB.out hb0
     subst hb0
     clear hz hd
     go_wp2_with fail
     ((with_reducible refine (awake_any _ (hG.below hb)).mono ?_))
     rintro e9 w9 ⟨rfl, hb9⟩
     go_wp2_with fail
     go_ret
     exact ⟨rfl, hb.trans (hb9.mono hb.size)⟩
    ·obtain ⟨rfl, hD⟩ := hd HVA.out HVB.out hb0
     clear hd
     have hbl : b.length ≠ 0 := fun e => hb0 (List.eq_nil_of_length_eq_zero e)
     have hbl0 : ((b.length : Int) == 0) = false := by simp; omega
     obtain ⟨Aq, cq, rfl, hcq⟩ := hq.form
     obtain ⟨Ar, cr, rfl, hcr⟩ := hr.form
     have lra := rats_len a
     have lrb := rats_len b
     have lQ := hD.q_len
     have lR := hD.r_lt
     have tA := (vl_parts HVA.out).2.2
     have hxa := txt_rats (vl_parts HVA.out).2.1
     have bQ : ∀ q ∈ ratsOf (Q.map ratTxt), RL 4621 q := by rw [rats_txt]; exact hD.bq
     have cQ : ∀ l ∈ Q.map ratTxt, l.length ≤ 1073741824 := fun l hl => by
      obtain ⟨q, hq', rfl⟩ := List.mem_map.1 hl
      exact Nat.le_trans (txt_len (hD.bq q hq')) (by decide)
     have cR : ∀ l ∈ R.map ratTxt, l.length ≤ 1073741824 := fun l hl => by
      obtain ⟨q, hq', rfl⟩ := List.mem_map.1 hl
      exact Nat.le_trans (txt_len (hD.br q hq')) (by decide)
     have vQ := vl_txt (Q := Q) (by omega) hD.q_trim
     have vR := vl_txt (Q := R) (by omega) hD.r_trim
     have lP := trimG_len isZ (timesR Q (ratsOf b))
     have lP2 := timesR_len (Q := Q) (B := ratsOf b)
     have hPl : (trimG isZ (timesR Q (ratsOf b))).length ≤ 65 := by omega
     have bP := div_prod_RL hD (fun q hq => RL_mono (hKa q hq) (by decide)) (by decide)
     have tP := trimmed_trim (timesR Q (ratsOf b))
     have hback := div_back hD tA
     have bR := hD.br
     have hml := fun W (hG : Glob W) h1 h2 => (mul_poly (Q.map ratTxt) b (.slice Aq (Q.map ratTxt).length cq) (.slice A' b.length c') W hG h1 h2 (by rw [List.length_map]; omega) (by omega) 4621 (fun _ => cQ) hcb (fun _ => bQ) (fun _ q hq => RL_mono (hKb q hq) (by decide)) (by decide)).mono (fun e w' h => show ∃ v', e = .returned (.tuple #[v', .int .i64 0]) ∧ StrsAt w' v' ((trimG isZ (timesR Q (ratsOf b))).map ratTxt) ∧ Below W.heap.size W w' by
      unfold RetMul at h
      rw [if_pos ⟨vQ, HVB.out⟩, rats_txt] at h
      obtain ⟨v', he, hs, hb⟩ := h
      rw [if_pos hPl] at he hs
      exact ⟨v', he, hs, hb⟩)
     generalize trimG isZ (timesR Q (ratsOf b)) = P at *
     have vP := vl_txt (Q := P) hPl tP
     have cP : ∀ l ∈ P.map ratTxt, l.length ≤ 1073741824 := fun l hl => by
      obtain ⟨q, hq', rfl⟩ := List.mem_map.1 hl
      exact Nat.le_trans (txt_len (bP q hq')) (by decide)
     have had := fun W (hG : Glob W) v h1 h2 => (add_poly (P.map ratTxt) (R.map ratTxt) v (.slice Ar (R.map ratTxt).length cr) W hG h1 h2 (by rw [List.length_map]; omega) (by rw [List.length_map]; omega) 9243 (fun _ => cP) (fun _ => cR) (fun _ => by rw [rats_txt]; exact bP) (fun _ => by rw [rats_txt]; exact fun q hq => RL_mono (bR q hq) (by decide)) (by decide) (by decide) vP vR (by rw [rats_txt, rats_txt, hback]; omega))
     simp only [rats_txt, hback, hxa] at had
     have hlr : (R.map ratTxt).length < b.length := by rw [List.length_map]; omega
     have HLR := Lib.hid hlr
     have hlri : (((R.map ratTxt).length : Nat) : Int) < (b.length : Int) := by omega
     generalize Q.map ratTxt = TQ at *
     generalize R.map ratTxt = TR at *
     generalize P.map ratTxt = TP at *
     clear hz hD lra lrb lQ lR tA hxa bQ cQ cR vQ vR lP lP2 hPl bP tP hback bR vP cP hKa hKb hca hcb hb0 HVA HVB hlr
     go_wp2_with fail
     ((with_reducible refine (hml _ (hG.below hb) hq hb').mono ?_))
     rintro e5 w5 ⟨v5, rfl, h5, hb5⟩
     replace ha := ha.below hb5
     replace hr := hr.below hb5
     replace hb := hb.trans (hb5.mono hb.size)
     clear hml hq hb'
     go_wp2_with fail
     ((with_reducible refine (had _ (hG.below hb) _ h5 hr).mono ?_))
     rintro e6 w6 ⟨v6, rfl, h6, hb6⟩
     replace ha := ha.below hb6
     replace hb := hb.trans (hb6.mono hb.size)
     clear had h5 hr
     go_wp2_with fail
     ((with_reducible refine (keepSame a _ _ _ h6 ha (by omega)).mono ?_))
     rintro e7 w7 ⟨rfl, hb7⟩
     replace hb := hb.trans (hb7.mono hb.size)
     go_wp2_with fail
     ((with_reducible refine (awake_any _ (hG.below hb)).mono ?_))
     rintro e9 w9 ⟨rfl, hb9⟩
     go_wp2_with fail
     go_ret
     exact ⟨rfl, hb.trans (hb9.mono hb.size)⟩
end Go.Proofs.YtoimnlnaaklinaaGreatDoor
