/-
  Contracts of functions that the statement reaches, and plain laws: RatS.
-/
import Derived.Test.YtoimnlnaaklinaaGreatDoorB19
import Derived.Test.YtoimnlnaaklinaaGreatDoorB25
import Derived.Test.YtoimnlnaaklinaaGreatDoorB33
set_option linter.unusedVariables false
set_option linter.unusedSimpArgs false
set_option maxHeartbeats 8000000
namespace Go.Proofs.YtoimnlnaaklinaaGreatDoor
open Go.RowKit Sos
set_option maxRecDepth 100000 in
theorem ratAdd_xy (x y : Rat) (vx vy : Value) (w : World) (hG : Glob w) (hx : RatAt w vx x) (hy : RatAt w vy y) (hx1 : x.den ≠ 1) (hy1 : y.den ≠ 1) (K : Nat) (bx : RL K x) (bY : RL K y) (hK : 20 * K + 60 ≤ LIM) :
  Calls Tryz.prog 37 #[vx, vy] w (RetRat w (x + y)) := by
 obtain ⟨s, A, k, c, s', A', k', c', rfl⟩ := hx.form
 obtain ⟨t, C, l, e, t', C', l', e', rfl⟩ := hy.form
 have hLIM : LIM = 17592186044416 := rfl
 rw [hLIM] at hK
 have ⟨bx1, bx2⟩ := bx
 have ⟨by1, by2⟩ := bY
 obtain ⟨gc, hgc⟩ : ∃ gc, gc = Nat.gcd x.den y.den := ⟨_, rfl⟩
 obtain ⟨L, hL⟩ : ∃ L, L = (y.den : Int).tdiv (gc : Int) := ⟨_, rfl⟩
 obtain ⟨T, hT⟩ : ∃ T, T = (x.den : Int).tdiv (gc : Int) := ⟨_, rfl⟩
 obtain ⟨N, hN⟩ : ∃ N, N = x.num * L + y.num * T := ⟨_, rfl⟩
 have hz0 : N = 0 → x + y = 0 := fun h => add_zero_of hgc hL hT hN h
 have hpa := fun r (hr : r = Nat.gcd N.natAbs gc) => add_parts x y gc r L T N hgc hL hT hN hr
 have hg0 : gc ≠ 0 := fun h => x.den_nz (Nat.eq_zero_of_gcd_eq_zero_left (by rw [← hgc]; exact h))
 have bL : nl L.natAbs ≤ K := by rw [hL]; exact natAbs_tdiv_le _ _ _ by2
 have bT : nl T.natAbs ≤ K := by rw [hT]; exact natAbs_tdiv_le _ _ _ bx2
 have bg : nl gc ≤ K := by rw [hgc]; exact nl_gcd_left _ _ _ x.den_nz bx2
 obtain ⟨W, eW, hb, X, Y, R⟩ := box3 w [.bool s, .slice A k c, .bool s', .slice A' k' c'] 71 [.bool t, .slice C l e, .bool t', .slice C' l' e'] 71 [.bool false, .slice none 0 0, .bool false, .slice none 0 0] 71
 have cM := aa X.g4 (aa Y.g4 R.g4)
 go_enter Tryz.func37, Tryz.ntmps37
 go_wp2_with fail
 (try rw [eW]); clear eW
 have hxn : IntAt W (.agg #[.bool s, .slice A k c]) x.num := (hx.below hb).num
 have hyn : IntAt W (.agg #[.bool t, .slice C l e]) y.num := (hy.below hb).num
 have hxd : IntAt W (.agg #[.bool s', .slice A' k' c']) (x.den : Int) := (hx.below hb).denN hx1
 have hyd : IntAt W (.agg #[.bool t', .slice C' l' e']) (y.den : Int) := (hy.below hb).denN hy1
 have HDX : Hid (decide ((x.den : Int) = 0) = false) := by have := x.den_nz; unfold Hid; simpa using this
 have HDY : Hid (decide ((y.den : Int) = 0) = false) := by have := y.den_nz; unfold Hid; simpa using this
 have bxd : nl (x.den : Int).natAbs ≤ K := bx2
 have byd : nl (y.den : Int).natAbs ≤ K := by2
 have hgc' : ((Nat.gcd (x.den : Int).natAbs (y.den : Int).natAbs : Nat) : Int) = (gc : Int) := by rw [hgc]; rfl
 have HGC := Lib.hid hgc'
 have HL := Lib.hid hL
 have HT := Lib.hid hT
 have HN := Lib.hid hN
 have HZ := Lib.hid hz0
 have HP := Lib.hid hpa
 have HD1 : Hid ((x + y).den ≠ 1 → denI (x + y) = ((x + y).den : Int)) := fun h => denI_ne h
 clear hgc' hL hT hN hz0 hpa hgc hx1 hy1 by2 bY bx bx2 hx hy
 generalize x.num = xn at *
 generalize y.num = yn at *
 generalize hxD : (x.den : Int) = xd at *
 generalize hyD : (y.den : Int) = yd at *
 clear hxD hyD
 generalize x + y = q at *
 have hml := nl_mul_int xn L K K bx1 bL
 have hmr := nl_mul_int yn T K K by1 bT
 have bN : nl N.natAbs ≤ 2 * K + 1 := by rw [HN.out]; exact Nat.le_trans (nl_add_int _ _ (2 * K) (by omega) (by omega)) (Nat.le_refl _)
 ((with_reducible refine (isZero_any xd _ _ hxd (by omega)).mono ?_))
 rintro e1 w1 ⟨rfl, hb1⟩
 replace X := X.below hb1
 replace Y := Y.below hb1
 replace R := R.below hb1
 replace cM := aa X.k4 (aa Y.k4 R.g4)
 replace hk := Keep.below hb1
 replace hxn := hxn.keep hk
 replace hxd := hxd.keep hk
 replace hyn := hyn.keep hk
 replace hyd := hyd.keep hk
 replace hb := hb.trans (hb1.mono hb.size)
 rw [HDX.out]
 go_wp2_with fail
 ((with_reducible refine (isZero_any xd _ _ hxd (by omega)).mono ?_))
 rintro e2 w2 ⟨rfl, hb2⟩
 replace X := X.below hb2
 replace Y := Y.below hb2
 replace R := R.below hb2
 replace cM := aa X.k4 (aa Y.k4 R.g4)
 replace hk := Keep.below hb2
 replace hxn := hxn.keep hk
 replace hxd := hxd.keep hk
 replace hyn := hyn.keep hk
 replace hyd := hyd.keep hk
 replace hb := hb.trans (hb2.mono hb.size)
 rw [HDX.out]
 go_wp2_with fail
 ((with_reducible refine (isZero_any yd _ _ hyd (by omega)).mono ?_))
 rintro e3 w3 ⟨rfl, hb3⟩
 replace X := X.below hb3
 replace Y := Y.below hb3
 replace R := R.below hb3
 replace cM := aa X.k4 (aa Y.k4 R.g4)
 replace hk := Keep.below hb3
 replace hxn := hxn.keep hk
 replace hxd := hxd.keep hk
 replace hyn := hyn.keep hk
 replace hyd := hyd.keep hk
 replace hb := hb.trans (hb3.mono hb.size)
 rw [HDY.out]
 go_wp2_with fail
 ((with_reducible refine (gcd_any xd yd _ _ _ (hG.below hb) hxd hyd K bxd byd (by rw [hLIM]; omega)).mono ?_))
 rintro e4 w4 ⟨v4, rfl, h4, hb4⟩
 obtain ⟨s4, A4, k4, c4, rfl⟩ := h4.form
 replace X := X.below hb4
 replace Y := Y.below hb4
 replace R := R.below hb4
 replace cM := aa X.k4 (aa Y.k4 R.g4)
 replace hk := Keep.below hb4
 replace hxn := hxn.keep hk
 replace hxd := hxd.keep hk
 replace hyn := hyn.keep hk
 replace hyd := hyd.keep hk
 replace hb := hb.trans (hb4.mono hb.size)
 rw [HGC.out] at h4
 go_wp2_with fail
 have X_l := X.lt
 have Y_l := Y.lt
 have R_l := R.lt
 have hsz_ := hb.size
 obtain ⟨w5, ew5, hA, G⟩ := box1 w4 [.bool s4, .slice A4 k4 c4] 49
 replace X := X.below hA
 replace Y := Y.below hA
 replace R := R.below hA
 replace hk := Keep.below hA
 replace hb := hb.trans (hA.mono hb.size)
 replace h4 := h4.keep hk
 replace hxn := hxn.keep hk
 replace hxd := hxd.keep hk
 replace hyn := hyn.keep hk
 replace hyd := hyd.keep hk
 rw [ew5]; clear ew5
 replace cM := aa X.k4 (aa Y.k4 (aa R.g4 G.k2))
 have hg0' : (gc : Int) ≠ 0 := by omega
 have bgI : nl (gc : Int).natAbs ≤ K := by rw [Int.natAbs_natCast]; exact bg
 have hq1 := fun W h1 h2 => quo_any yd gc (.agg #[.bool t', .slice C' l' e']) (.agg #[.bool s4, .slice A4 k4 c4]) W h1 h2 hg0' (by show nl yd.natAbs + 4 * nl gc + 4 ≤ _; omega)
 have hq2 := fun W h1 h2 => quo_any xd gc (.agg #[.bool s', .slice A' k' c']) (.agg #[.bool s4, .slice A4 k4 c4]) W h1 h2 hg0' (by show nl xd.natAbs + 4 * nl gc + 4 ≤ _; omega)
 rw [← HL.out] at hq1
 rw [← HT.out] at hq2
 clear hk hb1 hb2 hb3 hb4
 replace cM := aa X.k4 (aa Y.k4 (aa R.k4 G.k2))
 have X_ltw5 := X.lt
 have Y_ltw5 := Y.lt
 have G_ltw5 := G.lt
 have KS := Lib.hid (show ∀ w', Below w5.heap.size w5 w' → (w'.cell? ⟨w.heap.size, 2, none⟩ = some (.bool s') ∧ w'.cell? ⟨w.heap.size, 3, none⟩ = some (.slice A' k' c') ∧ w'.cell? ⟨w.heap.size + 1, 2, none⟩ = some (.bool t') ∧ w'.cell? ⟨w.heap.size + 1, 3, none⟩ = some (.slice C' l' e') ∧ w'.cell? ⟨w4.heap.size, 0, none⟩ = some (.bool s4) ∧ w'.cell? ⟨w4.heap.size, 1, none⟩ = some (.slice A4 k4 c4)) from fun w' hU => ⟨(hU.cell (p := ⟨w.heap.size, 2, none⟩) X_ltw5).trans (X.cell 2 rfl), (hU.cell (p := ⟨w.heap.size, 3, none⟩) X_ltw5).trans (X.cell 3 rfl), (hU.cell (p := ⟨w.heap.size + 1, 2, none⟩) Y_ltw5).trans (Y.cell 2 rfl), (hU.cell (p := ⟨w.heap.size + 1, 3, none⟩) Y_ltw5).trans (Y.cell 3 rfl), (hU.cell (p := ⟨w4.heap.size, 0, none⟩) G_ltw5).trans (G.cell 0 rfl), (hU.cell (p := ⟨w4.heap.size, 1, none⟩) G_ltw5).trans (G.cell 1 rfl)⟩)
 go_cut [6, 7] (fun s6 s7 wx => ∃ g6 g7, s6 = .pointer (some ⟨g6, 0, none⟩) ∧ s7 = .pointer (some ⟨g7, 0, none⟩) ∧ w5.heap.size ≤ g6 ∧ w5.heap.size ≤ g7 ∧ g6 ≠ g7 ∧ IntBx wx g6 (L) ∧ IntBx wx g7 (T) ∧ Below w5.heap.size w5 wx)
 case first =>
  go_region_held3 (fun w' => w'.cell? ⟨w.heap.size, 2, none⟩ = some (.bool s') ∧ w'.cell? ⟨w.heap.size, 3, none⟩ = some (.slice A' k' c') ∧ w'.cell? ⟨w.heap.size + 1, 2, none⟩ = some (.bool t') ∧ w'.cell? ⟨w.heap.size + 1, 3, none⟩ = some (.slice C' l' e') ∧ w'.cell? ⟨w4.heap.size, 0, none⟩ = some (.bool s4) ∧ w'.cell? ⟨w4.heap.size, 1, none⟩ = some (.slice A4 k4 c4))
   (exact KS.out _ (by with_reducible (repeat (first | exact Below.refl _ _ | refine ua ?_ | refine ud ?_ | refine ut ?_ hb6 | refine ut ?_ hb7 | refine us ?_ (by omega)))))
   (first
    | (go_at_call 66; (with_reducible refine (hq1 _ (hyd.below (by with_reducible (repeat (first | exact Below.refl _ _ | refine ua ?_ | refine ud ?_ | refine ut ?_ hb6 | refine ut ?_ hb7 | refine us ?_ (by omega))))) (h4.below (by with_reducible (repeat (first | exact Below.refl _ _ | refine ua ?_ | refine ud ?_ | refine ut ?_ hb6 | refine ut ?_ hb7 | refine us ?_ (by omega)))))).mono ?_); rintro e6 w6 ⟨v6, rfl, h6, hb6⟩; have l6 := hb6.size; (try simp at l6); have TT6 : Below w5.heap.size w5 w6 := (by with_reducible (repeat (first | exact Below.refl _ _ | refine ua ?_ | refine ud ?_ | refine ut ?_ hb6 | refine ut ?_ hb7 | refine us ?_ (by omega)))); have ll6 := TT6.size; (first | (with_reducible have D6_0 : Bx w6 (w5.heap.size) [.bool false, .slice none 0 0] 49 := Bx.below ((Bx.newAt w5 [.bool false, .slice none 0 0] 49 _ rfl).drew) hb6) | (with_reducible have D6_0 : Bx w6 (w5.heap.size) [.bool false, .slice none 0 0] 49 := Bx.below (((Bx.newAt w5 [.bool false, .slice none 0 0] 49 _ rfl).alloc _).drew) hb6) | skip); (first | (with_reducible have D6_1 : Bx w6 (w5.heap.size + 1) [.bool false, .slice none 0 0] 49 := Bx.below ((Bx.newAt (w5.alloc _) [.bool false, .slice none 0 0] 49 _ (World.size_alloc _ _)).drew) hb6) | skip); obtain ⟨s6, A6, k6, c6, rfl⟩ := h6.form)
    | (go_at_call 66; (with_reducible refine (hq2 _ (hxd.below (by with_reducible (repeat (first | exact Below.refl _ _ | refine ua ?_ | refine ud ?_ | refine ut ?_ hb6 | refine ut ?_ hb7 | refine us ?_ (by omega))))) (h4.below (by with_reducible (repeat (first | exact Below.refl _ _ | refine ua ?_ | refine ud ?_ | refine ut ?_ hb6 | refine ut ?_ hb7 | refine us ?_ (by omega)))))).mono ?_); rintro e7 w7 ⟨v7, rfl, h7, hb7⟩; have l7 := hb7.size; (try simp at l7); have TT7 : Below w5.heap.size w5 w7 := (by with_reducible (repeat (first | exact Below.refl _ _ | refine ua ?_ | refine ud ?_ | refine ut ?_ hb6 | refine ut ?_ hb7 | refine us ?_ (by omega)))); have ll7 := TT7.size; have h6z := h6.below (w' := w7) (by with_reducible (repeat (first | exact Below.refl _ _ | refine ua ?_ | refine ud ?_ | refine ut ?_ hb6 | refine ut ?_ hb7 | refine us ?_ (by omega)))); (first | (with_reducible replace D6_0 := D6_0.below hb7) | (with_reducible replace D6_0 := (D6_0.alloc _).below hb7) | skip); (first | (with_reducible replace D6_1 := D6_1.below hb7) | (with_reducible replace D6_1 := (D6_1.alloc _).below hb7) | skip); (first | (with_reducible have D7_0 : Bx w7 (w6.heap.size) [.bool false, .slice none 0 0] 49 := Bx.below (Bx.newAt w6 [.bool false, .slice none 0 0] 49 _ rfl) hb7) | (with_reducible have D7_0 : Bx w7 (w6.heap.size) [.bool false, .slice none 0 0] 49 := Bx.below ((Bx.newAt w6 [.bool false, .slice none 0 0] 49 _ rfl).alloc _) hb7) | skip); (first | (with_reducible have D7_1 : Bx w7 (w6.heap.size + 1) [.bool false, .slice none 0 0] 49 := Bx.below (Bx.newAt (w6.alloc _) [.bool false, .slice none 0 0] 49 _ (World.size_alloc _ _)) hb7) | skip); (try have D6_0_k := D6_0.g2); (try have D6_0_a := fun o : Obj => (D6_0.alloc o).g2); (try have D6_0_n := Nat.ne_of_lt D6_0.lt); (try have D6_0_m := Nat.ne_of_gt D6_0.lt); (try have D6_1_k := D6_1.g2); (try have D6_1_a := fun o : Obj => (D6_1.alloc o).g2); (try have D6_1_n := Nat.ne_of_lt D6_1.lt); (try have D6_1_m := Nat.ne_of_gt D6_1.lt); (try have D7_0_k := D7_0.g2); (try have D7_0_a := fun o : Obj => (D7_0.alloc o).g2); (try have D7_0_n := Nat.ne_of_lt D7_0.lt); (try have D7_0_m := Nat.ne_of_gt D7_0.lt); (try have D7_1_k := D7_1.g2); (try have D7_1_a := fun o : Obj => (D7_1.alloc o).g2); (try have D7_1_n := Nat.ne_of_lt D7_1.lt); (try have D7_1_m := Nat.ne_of_gt D7_1.lt); obtain ⟨s7, A7, k7, c7, rfl⟩ := h7.form))
  all_goals (
   go_wp2_with fail
   go_meet
   refine ⟨_, _, rfl, rfl, by omega, by omega, by omega, ?_⟩
   first
    | (with_reducible exact late2 h6z h7 TT7)
    | (with_reducible exact late2' h6z h7 TT7)
    | (with_reducible exact late_early h6z h7 (zb D6_0) TT7 (by omega))
    | (with_reducible exact late_early h6z h7 (zb D6_1) TT7 (by omega))
    | (with_reducible exact late_early h6z h7 (zb D7_0) TT7 (by omega))
    | (with_reducible exact late_early h6z h7 (zb D7_1) TT7 (by omega))
    | (with_reducible exact early_late (zb D6_0) h6z h7 TT7 (by omega))
    | (with_reducible exact early_late (zb D6_1) h6z h7 TT7 (by omega))
    | (with_reducible exact early_late (zb D7_0) h6z h7 TT7 (by omega))
    | (with_reducible exact early_late (zb D7_1) h6z h7 TT7 (by omega))
    | (with_reducible exact two_early (zb D6_0) (zb D6_1) h6z h7 (by omega) TT7 (by omega) (by omega))
    | (with_reducible exact two_early (zb D6_0) (zb D7_0) h6z h7 (by omega) TT7 (by omega) (by omega))
    | (with_reducible exact two_early (zb D6_0) (zb D7_1) h6z h7 (by omega) TT7 (by omega) (by omega))
    | (with_reducible exact two_early (zb D6_1) (zb D6_0) h6z h7 (by omega) TT7 (by omega) (by omega))
    | (with_reducible exact two_early (zb D6_1) (zb D7_0) h6z h7 (by omega) TT7 (by omega) (by omega))
    | (with_reducible exact two_early (zb D6_1) (zb D7_1) h6z h7 (by omega) TT7 (by omega) (by omega))
    | (with_reducible exact two_early (zb D7_0) (zb D6_0) h6z h7 (by omega) TT7 (by omega) (by omega))
    | (with_reducible exact two_early (zb D7_0) (zb D6_1) h6z h7 (by omega) TT7 (by omega) (by omega))
    | (with_reducible exact two_early (zb D7_0) (zb D7_1) h6z h7 (by omega) TT7 (by omega) (by omega))
    | (with_reducible exact two_early (zb D7_1) (zb D6_0) h6z h7 (by omega) TT7 (by omega) (by omega))
    | (with_reducible exact two_early (zb D7_1) (zb D6_1) h6z h7 (by omega) TT7 (by omega) (by omega))
    | (with_reducible exact two_early (zb D7_1) (zb D7_0) h6z h7 (by omega) TT7 (by omega) (by omega)))
 case rest =>
  obtain ⟨g6, g7, rfl, rfl, hg6, hg7, hne67, I6, I7, hbc⟩ := hcut
  generalize wc = w8 at *
  have X8 := X.below hbc
  have Y8 := Y.below hbc
  have R8 := R.below hbc
  have G8 := G.below hbc
  have hxl := X.lt
  have hyl := Y.lt
  have hrl := R.lt
  have hgl := G.lt
  replace hxn := hxn.below hbc
  replace hyn := hyn.below hbc
  replace hxd := hxd.below hbc
  replace hyd := hyd.below hbc
  replace h4 := h4.below hbc
  replace hb := hb.trans (hbc.mono hb.size)
  obtain ⟨s6, A6, k6, c6, L8, hl⟩ := I6
  obtain ⟨s7, A7, k7, c7, T8, ht⟩ := I7
  have hz8 := hbc.size
  clear KS X Y R G hq1 hq2 cM hbc hg0
  have hm1 := fun W h1 h2 => mul_any xn L (.agg #[.bool s, .slice A k c]) (.agg #[.bool s6, .slice A6 k6 c6]) W h1 h2 (by omega)
  have hm2 := fun W h1 h2 => mul_any yn T (.agg #[.bool t, .slice C l e]) (.agg #[.bool s7, .slice A7 k7 c7]) W h1 h2 (by omega)
  have ha3 := fun W v u h1 h2 => add_any (xn * L) (yn * T) v u W h1 h2 (by omega) (by omega)
  rw [← HN.out] at ha3
  go_wp2_with fail
  have X8_ltw8 := X8.lt
  have Y8_ltw8 := Y8.lt
  have L8_ltw8 := L8.lt
  have T8_ltw8 := T8.lt
  have KS := Lib.hid (show ∀ w', Below w8.heap.size w8 w' → (w'.cell? ⟨w.heap.size, 0, none⟩ = some (.bool s) ∧ w'.cell? ⟨w.heap.size, 1, none⟩ = some (.slice A k c) ∧ w'.cell? ⟨w.heap.size + 1, 0, none⟩ = some (.bool t) ∧ w'.cell? ⟨w.heap.size + 1, 1, none⟩ = some (.slice C l e) ∧ w'.cell? ⟨g6, 0, none⟩ = some (.bool s6) ∧ w'.cell? ⟨g6, 1, none⟩ = some (.slice A6 k6 c6) ∧ w'.cell? ⟨g7, 0, none⟩ = some (.bool s7) ∧ w'.cell? ⟨g7, 1, none⟩ = some (.slice A7 k7 c7)) from fun w' hU => ⟨(hU.cell (p := ⟨w.heap.size, 0, none⟩) X8_ltw8).trans (X8.cell 0 rfl), (hU.cell (p := ⟨w.heap.size, 1, none⟩) X8_ltw8).trans (X8.cell 1 rfl), (hU.cell (p := ⟨w.heap.size + 1, 0, none⟩) Y8_ltw8).trans (Y8.cell 0 rfl), (hU.cell (p := ⟨w.heap.size + 1, 1, none⟩) Y8_ltw8).trans (Y8.cell 1 rfl), (hU.cell (p := ⟨g6, 0, none⟩) L8_ltw8).trans (L8.cell 0 rfl), (hU.cell (p := ⟨g6, 1, none⟩) L8_ltw8).trans (L8.cell 1 rfl), (hU.cell (p := ⟨g7, 0, none⟩) T8_ltw8).trans (T8.cell 0 rfl), (hU.cell (p := ⟨g7, 1, none⟩) T8_ltw8).trans (T8.cell 1 rfl)⟩)
  go_cut [8] (fun s8 wx => ∃ g8, s8 = .pointer (some ⟨g8, 0, none⟩) ∧ w8.heap.size ≤ g8 ∧ IntBx wx g8 (N) ∧ Below w8.heap.size w8 wx)
  case first =>
   go_region_held3 (fun w' => w'.cell? ⟨w.heap.size, 0, none⟩ = some (.bool s) ∧ w'.cell? ⟨w.heap.size, 1, none⟩ = some (.slice A k c) ∧ w'.cell? ⟨w.heap.size + 1, 0, none⟩ = some (.bool t) ∧ w'.cell? ⟨w.heap.size + 1, 1, none⟩ = some (.slice C l e) ∧ w'.cell? ⟨g6, 0, none⟩ = some (.bool s6) ∧ w'.cell? ⟨g6, 1, none⟩ = some (.slice A6 k6 c6) ∧ w'.cell? ⟨g7, 0, none⟩ = some (.bool s7) ∧ w'.cell? ⟨g7, 1, none⟩ = some (.slice A7 k7 c7))
    (exact KS.out _ (by with_reducible (repeat (first | exact Below.refl _ _ | refine ua ?_ | refine ud ?_ | refine ut ?_ hb9 | refine ut ?_ hb10 | refine ut ?_ hb11 | refine us ?_ (by omega)))))
    (first
     | (go_at_call 27; (with_reducible refine (hm1 _ (hxn.below (by with_reducible (repeat (first | exact Below.refl _ _ | refine ua ?_ | refine ud ?_ | refine ut ?_ hb9 | refine ut ?_ hb10 | refine ut ?_ hb11 | refine us ?_ (by omega))))) (hl.below (by with_reducible (repeat (first | exact Below.refl _ _ | refine ua ?_ | refine ud ?_ | refine ut ?_ hb9 | refine ut ?_ hb10 | refine ut ?_ hb11 | refine us ?_ (by omega)))))).mono ?_); rintro e9 w9 ⟨v9, rfl, h9, hb9⟩; have l9 := hb9.size; (try simp at l9); have TT9 : Below w8.heap.size w8 w9 := (by with_reducible (repeat (first | exact Below.refl _ _ | refine ua ?_ | refine ud ?_ | refine ut ?_ hb9 | refine ut ?_ hb10 | refine ut ?_ hb11 | refine us ?_ (by omega)))); have ll9 := TT9.size; (first | (with_reducible have D9_0 : Bx w9 (w8.heap.size) [.bool false, .slice none 0 0] 49 := Bx.below ((Bx.newAt w8 [.bool false, .slice none 0 0] 49 _ rfl).drew) hb9) | skip); obtain ⟨s9, A9, k9, c9, rfl⟩ := h9.form)
     | (go_at_call 27; (with_reducible refine (hm2 _ (hyn.below (by with_reducible (repeat (first | exact Below.refl _ _ | refine ua ?_ | refine ud ?_ | refine ut ?_ hb9 | refine ut ?_ hb10 | refine ut ?_ hb11 | refine us ?_ (by omega))))) (ht.below (by with_reducible (repeat (first | exact Below.refl _ _ | refine ua ?_ | refine ud ?_ | refine ut ?_ hb9 | refine ut ?_ hb10 | refine ut ?_ hb11 | refine us ?_ (by omega)))))).mono ?_); rintro e10 w10 ⟨v10, rfl, h10, hb10⟩; have l10 := hb10.size; (try simp at l10); have TT10 : Below w8.heap.size w8 w10 := (by with_reducible (repeat (first | exact Below.refl _ _ | refine ua ?_ | refine ud ?_ | refine ut ?_ hb9 | refine ut ?_ hb10 | refine ut ?_ hb11 | refine us ?_ (by omega)))); have ll10 := TT10.size; (first | (with_reducible replace D9_0 := D9_0.below hb10) | (with_reducible replace D9_0 := (D9_0.alloc _).below hb10) | skip); (first | (with_reducible have D10_0 : Bx w10 (w9.heap.size) [.bool false, .slice none 0 0] 49 := Bx.below (Bx.newAt w9 [.bool false, .slice none 0 0] 49 _ rfl) hb10) | skip); obtain ⟨s10, A10, k10, c10, rfl⟩ := h10.form)
     | (go_at_call 64; (with_reducible refine (ha3 _ _ _ (h9.below (by with_reducible (repeat (first | exact Below.refl _ _ | refine ua ?_ | refine ud ?_ | refine ut ?_ hb9 | refine ut ?_ hb10 | refine ut ?_ hb11 | refine us ?_ (by omega))))) (h10.below (by with_reducible (repeat (first | exact Below.refl _ _ | refine ua ?_ | refine ud ?_ | refine ut ?_ hb9 | refine ut ?_ hb10 | refine ut ?_ hb11 | refine us ?_ (by omega)))))).mono ?_); rintro e11 w11 ⟨v11, rfl, h11, hb11⟩; have l11 := hb11.size; (try simp at l11); have TT11 : Below w8.heap.size w8 w11 := (by with_reducible (repeat (first | exact Below.refl _ _ | refine ua ?_ | refine ud ?_ | refine ut ?_ hb9 | refine ut ?_ hb10 | refine ut ?_ hb11 | refine us ?_ (by omega)))); have ll11 := TT11.size; have h9z := h9.below (w' := w11) (by with_reducible (repeat (first | exact Below.refl _ _ | refine ua ?_ | refine ud ?_ | refine ut ?_ hb9 | refine ut ?_ hb10 | refine ut ?_ hb11 | refine us ?_ (by omega)))); have h10z := h10.below (w' := w11) (by with_reducible (repeat (first | exact Below.refl _ _ | refine ua ?_ | refine ud ?_ | refine ut ?_ hb9 | refine ut ?_ hb10 | refine ut ?_ hb11 | refine us ?_ (by omega)))); (first | (with_reducible replace D9_0 := D9_0.below hb11) | (with_reducible replace D9_0 := (D9_0.alloc _).below hb11) | skip); (first | (with_reducible replace D10_0 := D10_0.below hb11) | (with_reducible replace D10_0 := (D10_0.alloc _).below hb11) | skip); (first | (with_reducible have D11_0 : Bx w11 (w10.heap.size) [.bool false, .slice none 0 0] 49 := Bx.below (Bx.newAt w10 [.bool false, .slice none 0 0] 49 _ rfl) hb11) | skip); (try have D9_0_k := D9_0.g2); (try have D10_0_k := D10_0.g2); (try have D11_0_k := D11_0.g2); obtain ⟨s11, A11, k11, c11, rfl⟩ := h11.form))
   all_goals (
    go_wp2_with fail
    go_meet
    refine ⟨_, rfl, by omega, ?_⟩
    first | (with_reducible exact late1 h11 TT11) | (with_reducible exact early1 (zb D9_0) h11 TT11 (by omega)) | (with_reducible exact early1 (zb D10_0) h11 TT11 (by omega)) | (with_reducible exact early1 (zb D11_0) h11 TT11 (by omega)))
  case rest =>
   obtain ⟨g8, rfl, hg8, I8, hbc⟩ := hcut
   generalize wc = w12 at *
   have hz12 := hbc.size
   replace X8 := X8.below hbc
   replace Y8 := Y8.below hbc
   replace R8 := R8.below hbc
   replace G8 := G8.below hbc
   replace T8 := T8.below hbc
   replace hxd := hxd.below hbc
   replace hyd := hyd.below hbc
   replace h4 := h4.below hbc
   replace ht := ht.below hbc
   replace hb := hb.trans (hbc.mono hb.size)
   obtain ⟨s8, A8, k8, c8, N8, hn⟩ := I8
   clear KS hm1 hm2 ha3 hxn hyn hl L8 hbc
   replace cM := aa X8.k4 (aa Y8.k4 (aa R8.g4 (aa G8.k2 (aa T8.k2 N8.k2))))
   go_wp2_with fail
   ((with_reducible refine (isZero_any N _ _ hn (by omega)).mono ?_))
   rintro e13 w13 ⟨rfl, hb13⟩
   replace X8 := X8.below hb13
   replace Y8 := Y8.below hb13
   replace R8 := R8.below hb13
   replace G8 := G8.below hb13
   replace T8 := T8.below hb13
   replace N8 := N8.below hb13
   replace cM := aa X8.k4 (aa Y8.k4 (aa R8.g4 (aa G8.k2 (aa T8.k2 N8.k2))))
   replace hk := Keep.below hb13
   replace hxd := hxd.keep hk
   replace hyd := hyd.keep hk
   replace h4 := h4.keep hk
   replace ht := ht.keep hk
   replace hn := hn.keep hk
   replace hb := hb.trans (hb13.mono hb.size)
   by_cases hN0 : N = 0
   ·have hdd : decide (N = 0) = true := by simpa using hN0
    have HQ := Lib.hid (HZ.out hN0)
    rw [hdd]
    clear hdd hN0
    go_wp2_with fail
    obtain ⟨W6, eW6, R8, hb, hk, ff⟩ := R8.put4 hb (by omega) (.bool false) (.slice none 0 0) (.bool false) (.slice none 0 0) rfl rfl
    rw [eW6]; clear eW6
    replace cM := R8.k4
    exact bodyPost_ret (v := .agg #[.bool false, .slice none 0 0, .bool false, .slice none 0 0]) (by simp [results, Tryz.results37, go_sem, R8.k4]) rfl ⟨_, rfl, RatAt.of (IntAt.zero _) (IntAt.zero _) (by rw [HQ.out]; rfl) (by rw [HQ.out]; rfl), hb⟩
   ·have hdd : decide (N = 0) = false := by simpa using hN0
    rw [hdd]
    clear hdd
    go_wp2_with fail
    ((with_reducible refine (isOne_any gc _ _ h4 (by omega)).mono ?_))
    rintro e14 w14 ⟨rfl, hb14⟩
    replace X8 := X8.below hb14
    replace Y8 := Y8.below hb14
    replace R8 := R8.below hb14
    replace G8 := G8.below hb14
    replace T8 := T8.below hb14
    replace N8 := N8.below hb14
    replace cM := aa X8.k4 (aa Y8.k4 (aa R8.g4 (aa G8.k2 (aa T8.k2 N8.k2))))
    replace hk := Keep.below hb14
    replace hxd := hxd.keep hk
    replace hyd := hyd.keep hk
    replace h4 := h4.keep hk
    replace ht := ht.keep hk
    replace hn := hn.keep hk
    replace hb := hb.trans (hb14.mono hb.size)
    by_cases hg1 : gc = 1
    ·have hdd : decide ((gc : Int) = 1) = true := decide_eq_true (by omega)
     have HQ : Hid (q.num = N ∧ (q.den : Int) = xd * yd) := by
      obtain ⟨e1, e2⟩ := HP.out 1 (by rw [hg1]; simp)
      refine ⟨by rw [e1]; simp, ?_⟩
      rw [e2, HT.out, hg1]
      simp
     rw [hdd]
     clear hdd hg1 hN0
     have hmd := fun W h1 h2 => mul_any xd yd (.agg #[.bool s', .slice A' k' c']) (.agg #[.bool t', .slice C' l' e']) W h1 h2 (by omega)
     have bmd := nl_mul_int xd yd K K bxd byd
     have hlw := fun W v h1 h2 => lowest_any q N (xd * yd) (.agg #[.bool s8, .slice A8 k8 c8]) v W h1 h2 HQ.out.1 HQ.out.2 (by omega)
     go_wp2_with fail
     have X8_ltw14 := X8.lt
     have Y8_ltw14 := Y8.lt
     have N8_ltw14 := N8.lt
     have KS := Lib.hid (show ∀ w', Below w14.heap.size w14 w' → (w'.cell? ⟨w.heap.size, 2, none⟩ = some (.bool s') ∧ w'.cell? ⟨w.heap.size, 3, none⟩ = some (.slice A' k' c') ∧ w'.cell? ⟨w.heap.size + 1, 2, none⟩ = some (.bool t') ∧ w'.cell? ⟨w.heap.size + 1, 3, none⟩ = some (.slice C' l' e') ∧ w'.cell? ⟨g8, 0, none⟩ = some (.bool s8) ∧ w'.cell? ⟨g8, 1, none⟩ = some (.slice A8 k8 c8)) from fun w' hU => ⟨(hU.cell (p := ⟨w.heap.size, 2, none⟩) X8_ltw14).trans (X8.cell 2 rfl), (hU.cell (p := ⟨w.heap.size, 3, none⟩) X8_ltw14).trans (X8.cell 3 rfl), (hU.cell (p := ⟨w.heap.size + 1, 2, none⟩) Y8_ltw14).trans (Y8.cell 2 rfl), (hU.cell (p := ⟨w.heap.size + 1, 3, none⟩) Y8_ltw14).trans (Y8.cell 3 rfl), (hU.cell (p := ⟨g8, 0, none⟩) N8_ltw14).trans (N8.cell 0 rfl), (hU.cell (p := ⟨g8, 1, none⟩) N8_ltw14).trans (N8.cell 1 rfl)⟩)
     have n_R8_X8 : w.heap.size + 1 + 1 ≠ w.heap.size := by omega
     have n_R8_Y8 : w.heap.size + 1 + 1 ≠ w.heap.size + 1 := by omega
     have n_R8_N8 : w.heap.size + 1 + 1 ≠ g8 := by omega
     have KF := Lib.hid (show ∀ (w' : World) (u0 u1 u2 u3 : Value), Below w14.heap.size w14 w' → (((((w'.setCell ⟨w.heap.size + 1 + 1, 0, none⟩ u0).setCell ⟨w.heap.size + 1 + 1, 1, none⟩ u1).setCell ⟨w.heap.size + 1 + 1, 2, none⟩ u2).setCell ⟨w.heap.size + 1 + 1, 3, none⟩ u3).cell? ⟨w.heap.size, 2, none⟩ = some (.bool s') ∧ ((((w'.setCell ⟨w.heap.size + 1 + 1, 0, none⟩ u0).setCell ⟨w.heap.size + 1 + 1, 1, none⟩ u1).setCell ⟨w.heap.size + 1 + 1, 2, none⟩ u2).setCell ⟨w.heap.size + 1 + 1, 3, none⟩ u3).cell? ⟨w.heap.size, 3, none⟩ = some (.slice A' k' c') ∧ ((((w'.setCell ⟨w.heap.size + 1 + 1, 0, none⟩ u0).setCell ⟨w.heap.size + 1 + 1, 1, none⟩ u1).setCell ⟨w.heap.size + 1 + 1, 2, none⟩ u2).setCell ⟨w.heap.size + 1 + 1, 3, none⟩ u3).cell? ⟨w.heap.size + 1, 2, none⟩ = some (.bool t') ∧ ((((w'.setCell ⟨w.heap.size + 1 + 1, 0, none⟩ u0).setCell ⟨w.heap.size + 1 + 1, 1, none⟩ u1).setCell ⟨w.heap.size + 1 + 1, 2, none⟩ u2).setCell ⟨w.heap.size + 1 + 1, 3, none⟩ u3).cell? ⟨w.heap.size + 1, 3, none⟩ = some (.slice C' l' e') ∧ ((((w'.setCell ⟨w.heap.size + 1 + 1, 0, none⟩ u0).setCell ⟨w.heap.size + 1 + 1, 1, none⟩ u1).setCell ⟨w.heap.size + 1 + 1, 2, none⟩ u2).setCell ⟨w.heap.size + 1 + 1, 3, none⟩ u3).cell? ⟨g8, 0, none⟩ = some (.bool s8) ∧ ((((w'.setCell ⟨w.heap.size + 1 + 1, 0, none⟩ u0).setCell ⟨w.heap.size + 1 + 1, 1, none⟩ u1).setCell ⟨w.heap.size + 1 + 1, 2, none⟩ u2).setCell ⟨w.heap.size + 1 + 1, 3, none⟩ u3).cell? ⟨g8, 1, none⟩ = some (.slice A8 k8 c8)) from fun w' u0 u1 u2 u3 hU => ⟨(cell_far _ _ _ _ _ _ n_R8_X8).trans ((cell_far _ _ _ _ _ _ n_R8_X8).trans ((cell_far _ _ _ _ _ _ n_R8_X8).trans ((cell_far _ _ _ _ _ _ n_R8_X8).trans ((hU.cell (p := ⟨w.heap.size, 2, none⟩) X8_ltw14).trans (X8.cell 2 rfl))))), (cell_far _ _ _ _ _ _ n_R8_X8).trans ((cell_far _ _ _ _ _ _ n_R8_X8).trans ((cell_far _ _ _ _ _ _ n_R8_X8).trans ((cell_far _ _ _ _ _ _ n_R8_X8).trans ((hU.cell (p := ⟨w.heap.size, 3, none⟩) X8_ltw14).trans (X8.cell 3 rfl))))), (cell_far _ _ _ _ _ _ n_R8_Y8).trans ((cell_far _ _ _ _ _ _ n_R8_Y8).trans ((cell_far _ _ _ _ _ _ n_R8_Y8).trans ((cell_far _ _ _ _ _ _ n_R8_Y8).trans ((hU.cell (p := ⟨w.heap.size + 1, 2, none⟩) Y8_ltw14).trans (Y8.cell 2 rfl))))), (cell_far _ _ _ _ _ _ n_R8_Y8).trans ((cell_far _ _ _ _ _ _ n_R8_Y8).trans ((cell_far _ _ _ _ _ _ n_R8_Y8).trans ((cell_far _ _ _ _ _ _ n_R8_Y8).trans ((hU.cell (p := ⟨w.heap.size + 1, 3, none⟩) Y8_ltw14).trans (Y8.cell 3 rfl))))), (cell_far _ _ _ _ _ _ n_R8_N8).trans ((cell_far _ _ _ _ _ _ n_R8_N8).trans ((cell_far _ _ _ _ _ _ n_R8_N8).trans ((cell_far _ _ _ _ _ _ n_R8_N8).trans ((hU.cell (p := ⟨g8, 0, none⟩) N8_ltw14).trans (N8.cell 0 rfl))))), (cell_far _ _ _ _ _ _ n_R8_N8).trans ((cell_far _ _ _ _ _ _ n_R8_N8).trans ((cell_far _ _ _ _ _ _ n_R8_N8).trans ((cell_far _ _ _ _ _ _ n_R8_N8).trans ((hU.cell (p := ⟨g8, 1, none⟩) N8_ltw14).trans (N8.cell 1 rfl)))))⟩)
     go_region_held3 (fun w' => w'.cell? ⟨w.heap.size, 2, none⟩ = some (.bool s') ∧ w'.cell? ⟨w.heap.size, 3, none⟩ = some (.slice A' k' c') ∧ w'.cell? ⟨w.heap.size + 1, 2, none⟩ = some (.bool t') ∧ w'.cell? ⟨w.heap.size + 1, 3, none⟩ = some (.slice C' l' e') ∧ w'.cell? ⟨g8, 0, none⟩ = some (.bool s8) ∧ w'.cell? ⟨g8, 1, none⟩ = some (.slice A8 k8 c8))
      (first | (with_reducible exact KF.out _ _ _ _ _ (by with_reducible (repeat (first | exact Below.refl _ _ | refine ua ?_ | refine ud ?_ | refine ut ?_ hb15 | refine ut ?_ hb16 | refine us ?_ (by omega))))) | (exact KS.out _ (by with_reducible (repeat (first | exact Below.refl _ _ | refine ua ?_ | refine ud ?_ | refine ut ?_ hb15 | refine ut ?_ hb16 | refine us ?_ (by omega))))))
      (first
       | (go_at_call 27; (with_reducible refine (hmd _ (hxd.below (by with_reducible (repeat (first | exact Below.refl _ _ | refine ua ?_ | refine ud ?_ | refine ut ?_ hb15 | refine ut ?_ hb16 | refine us ?_ (by omega))))) (hyd.below (by with_reducible (repeat (first | exact Below.refl _ _ | refine ua ?_ | refine ud ?_ | refine ut ?_ hb15 | refine ut ?_ hb16 | refine us ?_ (by omega)))))).mono ?_); rintro e15 w15 ⟨v15, rfl, h15, hb15⟩; have l15 := hb15.size; (try simp at l15); have TT15 : Below w14.heap.size w14 w15 := (by with_reducible (repeat (first | exact Below.refl _ _ | refine ua ?_ | refine ud ?_ | refine ut ?_ hb15 | refine ut ?_ hb16 | refine us ?_ (by omega)))); have ll15 := TT15.size; obtain ⟨s15, A15, k15, c15, rfl⟩ := h15.form)
       | (go_at_call 67; (with_reducible refine (hlw _ _ (hn.below (by with_reducible (repeat (first | exact Below.refl _ _ | refine ua ?_ | refine ud ?_ | refine ut ?_ hb15 | refine ut ?_ hb16 | refine us ?_ (by omega))))) (h15.below (by with_reducible (repeat (first | exact Below.refl _ _ | refine ua ?_ | refine ud ?_ | refine ut ?_ hb15 | refine ut ?_ hb16 | refine us ?_ (by omega)))))).mono ?_); rintro e16 w16 ⟨v16, rfl, h16, hb16⟩; have l16 := hb16.size; (try simp at l16); have TT16 : Below w14.heap.size w14 w16 := (by with_reducible (repeat (first | exact Below.refl _ _ | refine ua ?_ | refine ud ?_ | refine ut ?_ hb15 | refine ut ?_ hb16 | refine us ?_ (by omega)))); have ll16 := TT16.size; have hU16 : Below w14.heap.size w14 w16 := (by with_reducible (repeat (first | exact Below.refl _ _ | refine ua ?_ | refine ud ?_ | refine ut ?_ hb15 | refine ut ?_ hb16 | refine us ?_ (by omega)))); have Z16 := R8.below hU16; have Z16_k := Z16.g4; obtain ⟨sa, Aa, ka, ca, sb, Ab, kb, cb, rfl⟩ := h16.form))
     all_goals (
      go_wp2_with fail
      replace hb := hb.trans (hU16.mono hb.size)
      obtain ⟨W6, eW6, Z16, hb, hk, ff⟩ := Z16.put4 hb (by omega) (.bool sa) (.slice Aa ka ca) (.bool sb) (.slice Ab kb cb) rfl rfl
      replace h16 := h16.keep hk
      rw [eW6]; clear eW6
      replace cM := Z16.k4
      exact bodyPost_ret (v := .agg #[.bool sa, .slice Aa ka ca, .bool sb, .slice Ab kb cb]) (by simp [results, Tryz.results37, go_sem, Z16.k4]) rfl ⟨_, rfl, h16, hb⟩
      )
    ·have hdd : decide ((gc : Int) = 1) = false := decide_eq_false (by omega)
     rw [hdd]
     clear hdd hg1
     go_wp2_with fail
     ((with_reducible refine (gcd_any N gc _ _ _ (hG.below hb) hn h4 (2 * K + 1) bN (by omega) (by rw [hLIM]; omega)).mono ?_))
     rintro e15 w15 ⟨v15, rfl, h15, hb15⟩
     obtain ⟨s15, A15, k15, c15, rfl⟩ := h15.form
     replace X8 := X8.below hb15
     replace Y8 := Y8.below hb15
     replace R8 := R8.below hb15
     replace G8 := G8.below hb15
     replace T8 := T8.below hb15
     replace N8 := N8.below hb15
     replace cM := aa X8.k4 (aa Y8.k4 (aa R8.g4 (aa G8.k2 (aa T8.k2 N8.k2))))
     replace hk := Keep.below hb15
     replace hxd := hxd.keep hk
     replace hyd := hyd.keep hk
     replace h4 := h4.keep hk
     replace ht := ht.keep hk
     replace hn := hn.keep hk
     replace hb := hb.trans (hb15.mono hb.size)
     obtain ⟨r, hr⟩ : ∃ r, r = Nat.gcd N.natAbs (gc : Int).natAbs := ⟨_, rfl⟩
     rw [← hr] at h15
     have HQ : Hid (q.num = N.tdiv r ∧ (q.den : Int) = T * yd.tdiv r) := HP.out r hr
     have hr0 : (r : Int) ≠ 0 := fun e => hN0 (by
      have e' : Nat.gcd N.natAbs (gc : Int).natAbs = 0 := by rw [← hr]; omega
      have := Nat.eq_zero_of_gcd_eq_zero_left e'
      omega)
     have br : nl r ≤ 2 * K + 1 := by rw [hr]; exact nl_gcd_left _ _ _ (by omega) bN
     clear hr
     go_wp2_with fail
     have X8_l := X8.lt
     have Y8_l := Y8.lt
     have R8_l := R8.lt
     have G8_l := G8.lt
     have T8_l := T8.lt
     have N8_l := N8.lt
     have hsz_ := hb.size
     obtain ⟨w16, ew16, hA, D8⟩ := box1 w15 [.bool s15, .slice A15 k15 c15] 49
     replace X8 := X8.below hA
     replace Y8 := Y8.below hA
     replace R8 := R8.below hA
     replace G8 := G8.below hA
     replace T8 := T8.below hA
     replace N8 := N8.below hA
     replace hk := Keep.below hA
     replace hb := hb.trans (hA.mono hb.size)
     replace h15 := h15.keep hk
     replace hxd := hxd.keep hk
     replace hyd := hyd.keep hk
     replace ht := ht.keep hk
     replace hn := hn.keep hk
     rw [ew16]; clear ew16
     replace cM := aa X8.k4 (aa Y8.k4 (aa R8.g4 (aa G8.k2 (aa T8.k2 (aa N8.k2 D8.k2)))))
     have hqn := fun W h1 h2 => quo_any N r (.agg #[.bool s8, .slice A8 k8 c8]) (.agg #[.bool s15, .slice A15 k15 c15]) W h1 h2 hr0 (by show _ + 4 * nl r + 4 ≤ _; omega)
     have hqd := fun W h1 h2 => quo_any yd r (.agg #[.bool t', .slice C' l' e']) (.agg #[.bool s15, .slice A15 k15 c15]) W h1 h2 hr0 (by show _ + 4 * nl r + 4 ≤ _; omega)
     have bqd := natAbs_tdiv_le yd r K byd
     have bmd := nl_mul_int T (yd.tdiv r) K K bT bqd
     have hmd := fun W v h1 h2 => mul_any T (yd.tdiv r) (.agg #[.bool s7, .slice A7 k7 c7]) v W h1 h2 (by omega)
     have hlw := fun W u v h1 h2 => lowest_any q (N.tdiv r) (T * yd.tdiv r) u v W h1 h2 HQ.out.1 HQ.out.2 (by omega)
     generalize N.tdiv r = Nr at *
     generalize T * yd.tdiv r = Dr at *
     generalize yd.tdiv r = Yr at *
     have Y8_ltw16 := Y8.lt
     have N8_ltw16 := N8.lt
     have T8_ltw16 := T8.lt
     have D8_ltw16 := D8.lt
     have KS := Lib.hid (show ∀ w', Below w16.heap.size w16 w' → (w'.cell? ⟨w.heap.size + 1, 2, none⟩ = some (.bool t') ∧ w'.cell? ⟨w.heap.size + 1, 3, none⟩ = some (.slice C' l' e') ∧ w'.cell? ⟨g8, 0, none⟩ = some (.bool s8) ∧ w'.cell? ⟨g8, 1, none⟩ = some (.slice A8 k8 c8) ∧ w'.cell? ⟨g7, 0, none⟩ = some (.bool s7) ∧ w'.cell? ⟨g7, 1, none⟩ = some (.slice A7 k7 c7) ∧ w'.cell? ⟨w15.heap.size, 0, none⟩ = some (.bool s15) ∧ w'.cell? ⟨w15.heap.size, 1, none⟩ = some (.slice A15 k15 c15)) from fun w' hU => ⟨(hU.cell (p := ⟨w.heap.size + 1, 2, none⟩) Y8_ltw16).trans (Y8.cell 2 rfl), (hU.cell (p := ⟨w.heap.size + 1, 3, none⟩) Y8_ltw16).trans (Y8.cell 3 rfl), (hU.cell (p := ⟨g8, 0, none⟩) N8_ltw16).trans (N8.cell 0 rfl), (hU.cell (p := ⟨g8, 1, none⟩) N8_ltw16).trans (N8.cell 1 rfl), (hU.cell (p := ⟨g7, 0, none⟩) T8_ltw16).trans (T8.cell 0 rfl), (hU.cell (p := ⟨g7, 1, none⟩) T8_ltw16).trans (T8.cell 1 rfl), (hU.cell (p := ⟨w15.heap.size, 0, none⟩) D8_ltw16).trans (D8.cell 0 rfl), (hU.cell (p := ⟨w15.heap.size, 1, none⟩) D8_ltw16).trans (D8.cell 1 rfl)⟩)
     have n_R8_Y8 : w.heap.size + 1 + 1 ≠ w.heap.size + 1 := by omega
     have n_R8_N8 : w.heap.size + 1 + 1 ≠ g8 := by omega
     have n_R8_T8 : w.heap.size + 1 + 1 ≠ g7 := by omega
     have n_R8_D8 : w.heap.size + 1 + 1 ≠ w15.heap.size := by omega
     have KF := Lib.hid (show ∀ (w' : World) (u0 u1 u2 u3 : Value), Below w16.heap.size w16 w' → (((((w'.setCell ⟨w.heap.size + 1 + 1, 0, none⟩ u0).setCell ⟨w.heap.size + 1 + 1, 1, none⟩ u1).setCell ⟨w.heap.size + 1 + 1, 2, none⟩ u2).setCell ⟨w.heap.size + 1 + 1, 3, none⟩ u3).cell? ⟨w.heap.size + 1, 2, none⟩ = some (.bool t') ∧ ((((w'.setCell ⟨w.heap.size + 1 + 1, 0, none⟩ u0).setCell ⟨w.heap.size + 1 + 1, 1, none⟩ u1).setCell ⟨w.heap.size + 1 + 1, 2, none⟩ u2).setCell ⟨w.heap.size + 1 + 1, 3, none⟩ u3).cell? ⟨w.heap.size + 1, 3, none⟩ = some (.slice C' l' e') ∧ ((((w'.setCell ⟨w.heap.size + 1 + 1, 0, none⟩ u0).setCell ⟨w.heap.size + 1 + 1, 1, none⟩ u1).setCell ⟨w.heap.size + 1 + 1, 2, none⟩ u2).setCell ⟨w.heap.size + 1 + 1, 3, none⟩ u3).cell? ⟨g8, 0, none⟩ = some (.bool s8) ∧ ((((w'.setCell ⟨w.heap.size + 1 + 1, 0, none⟩ u0).setCell ⟨w.heap.size + 1 + 1, 1, none⟩ u1).setCell ⟨w.heap.size + 1 + 1, 2, none⟩ u2).setCell ⟨w.heap.size + 1 + 1, 3, none⟩ u3).cell? ⟨g8, 1, none⟩ = some (.slice A8 k8 c8) ∧ ((((w'.setCell ⟨w.heap.size + 1 + 1, 0, none⟩ u0).setCell ⟨w.heap.size + 1 + 1, 1, none⟩ u1).setCell ⟨w.heap.size + 1 + 1, 2, none⟩ u2).setCell ⟨w.heap.size + 1 + 1, 3, none⟩ u3).cell? ⟨g7, 0, none⟩ = some (.bool s7) ∧ ((((w'.setCell ⟨w.heap.size + 1 + 1, 0, none⟩ u0).setCell ⟨w.heap.size + 1 + 1, 1, none⟩ u1).setCell ⟨w.heap.size + 1 + 1, 2, none⟩ u2).setCell ⟨w.heap.size + 1 + 1, 3, none⟩ u3).cell? ⟨g7, 1, none⟩ = some (.slice A7 k7 c7) ∧ ((((w'.setCell ⟨w.heap.size + 1 + 1, 0, none⟩ u0).setCell ⟨w.heap.size + 1 + 1, 1, none⟩ u1).setCell ⟨w.heap.size + 1 + 1, 2, none⟩ u2).setCell ⟨w.heap.size + 1 + 1, 3, none⟩ u3).cell? ⟨w15.heap.size, 0, none⟩ = some (.bool s15) ∧ ((((w'.setCell ⟨w.heap.size + 1 + 1, 0, none⟩ u0).setCell ⟨w.heap.size + 1 + 1, 1, none⟩ u1).setCell ⟨w.heap.size + 1 + 1, 2, none⟩ u2).setCell ⟨w.heap.size + 1 + 1, 3, none⟩ u3).cell? ⟨w15.heap.size, 1, none⟩ = some (.slice A15 k15 c15)) from fun w' u0 u1 u2 u3 hU => ⟨(cell_far _ _ _ _ _ _ n_R8_Y8).trans ((cell_far _ _ _ _ _ _ n_R8_Y8).trans ((cell_far _ _ _ _ _ _ n_R8_Y8).trans ((cell_far _ _ _ _ _ _ n_R8_Y8).trans ((hU.cell (p := ⟨w.heap.size + 1, 2, none⟩) Y8_ltw16).trans (Y8.cell 2 rfl))))), (cell_far _ _ _ _ _ _ n_R8_Y8).trans ((cell_far _ _ _ _ _ _ n_R8_Y8).trans ((cell_far _ _ _ _ _ _ n_R8_Y8).trans ((cell_far _ _ _ _ _ _ n_R8_Y8).trans ((hU.cell (p := ⟨w.heap.size + 1, 3, none⟩) Y8_ltw16).trans (Y8.cell 3 rfl))))), (cell_far _ _ _ _ _ _ n_R8_N8).trans ((cell_far _ _ _ _ _ _ n_R8_N8).trans ((cell_far _ _ _ _ _ _ n_R8_N8).trans ((cell_far _ _ _ _ _ _ n_R8_N8).trans ((hU.cell (p := ⟨g8, 0, none⟩) N8_ltw16).trans (N8.cell 0 rfl))))), (cell_far _ _ _ _ _ _ n_R8_N8).trans ((cell_far _ _ _ _ _ _ n_R8_N8).trans ((cell_far _ _ _ _ _ _ n_R8_N8).trans ((cell_far _ _ _ _ _ _ n_R8_N8).trans ((hU.cell (p := ⟨g8, 1, none⟩) N8_ltw16).trans (N8.cell 1 rfl))))), (cell_far _ _ _ _ _ _ n_R8_T8).trans ((cell_far _ _ _ _ _ _ n_R8_T8).trans ((cell_far _ _ _ _ _ _ n_R8_T8).trans ((cell_far _ _ _ _ _ _ n_R8_T8).trans ((hU.cell (p := ⟨g7, 0, none⟩) T8_ltw16).trans (T8.cell 0 rfl))))), (cell_far _ _ _ _ _ _ n_R8_T8).trans ((cell_far _ _ _ _ _ _ n_R8_T8).trans ((cell_far _ _ _ _ _ _ n_R8_T8).trans ((cell_far _ _ _ _ _ _ n_R8_T8).trans ((hU.cell (p := ⟨g7, 1, none⟩) T8_ltw16).trans (T8.cell 1 rfl))))), (cell_far _ _ _ _ _ _ n_R8_D8).trans ((cell_far _ _ _ _ _ _ n_R8_D8).trans ((cell_far _ _ _ _ _ _ n_R8_D8).trans ((cell_far _ _ _ _ _ _ n_R8_D8).trans ((hU.cell (p := ⟨w15.heap.size, 0, none⟩) D8_ltw16).trans (D8.cell 0 rfl))))), (cell_far _ _ _ _ _ _ n_R8_D8).trans ((cell_far _ _ _ _ _ _ n_R8_D8).trans ((cell_far _ _ _ _ _ _ n_R8_D8).trans ((cell_far _ _ _ _ _ _ n_R8_D8).trans ((hU.cell (p := ⟨w15.heap.size, 1, none⟩) D8_ltw16).trans (D8.cell 1 rfl)))))⟩)
     go_region_held3 (fun w' => w'.cell? ⟨w.heap.size + 1, 2, none⟩ = some (.bool t') ∧ w'.cell? ⟨w.heap.size + 1, 3, none⟩ = some (.slice C' l' e') ∧ w'.cell? ⟨g8, 0, none⟩ = some (.bool s8) ∧ w'.cell? ⟨g8, 1, none⟩ = some (.slice A8 k8 c8) ∧ w'.cell? ⟨g7, 0, none⟩ = some (.bool s7) ∧ w'.cell? ⟨g7, 1, none⟩ = some (.slice A7 k7 c7) ∧ w'.cell? ⟨w15.heap.size, 0, none⟩ = some (.bool s15) ∧ w'.cell? ⟨w15.heap.size, 1, none⟩ = some (.slice A15 k15 c15))
      (first | (with_reducible exact KF.out _ _ _ _ _ (by with_reducible (repeat (first | exact Below.refl _ _ | refine ua ?_ | refine ud ?_ | refine ut ?_ hb17 | refine ut ?_ hb18 | refine ut ?_ hb19 | refine ut ?_ hb20 | refine us ?_ (by omega))))) | (exact KS.out _ (by with_reducible (repeat (first | exact Below.refl _ _ | refine ua ?_ | refine ud ?_ | refine ut ?_ hb17 | refine ut ?_ hb18 | refine ut ?_ hb19 | refine ut ?_ hb20 | refine us ?_ (by omega))))))
      (first
       | (go_at_call 66; (with_reducible refine (hqn _ (hn.below (by with_reducible (repeat (first | exact Below.refl _ _ | refine ua ?_ | refine ud ?_ | refine ut ?_ hb17 | refine ut ?_ hb18 | refine ut ?_ hb19 | refine ut ?_ hb20 | refine us ?_ (by omega))))) (h15.below (by with_reducible (repeat (first | exact Below.refl _ _ | refine ua ?_ | refine ud ?_ | refine ut ?_ hb17 | refine ut ?_ hb18 | refine ut ?_ hb19 | refine ut ?_ hb20 | refine us ?_ (by omega)))))).mono ?_); rintro e17 w17 ⟨v17, rfl, h17, hb17⟩; have l17 := hb17.size; (try simp at l17); have TT17 : Below w16.heap.size w16 w17 := (by with_reducible (repeat (first | exact Below.refl _ _ | refine ua ?_ | refine ud ?_ | refine ut ?_ hb17 | refine ut ?_ hb18 | refine ut ?_ hb19 | refine ut ?_ hb20 | refine us ?_ (by omega)))); have ll17 := TT17.size; obtain ⟨s17, A17, k17, c17, rfl⟩ := h17.form)
       | (go_at_call 66; (with_reducible refine (hqd _ (hyd.below (by with_reducible (repeat (first | exact Below.refl _ _ | refine ua ?_ | refine ud ?_ | refine ut ?_ hb17 | refine ut ?_ hb18 | refine ut ?_ hb19 | refine ut ?_ hb20 | refine us ?_ (by omega))))) (h15.below (by with_reducible (repeat (first | exact Below.refl _ _ | refine ua ?_ | refine ud ?_ | refine ut ?_ hb17 | refine ut ?_ hb18 | refine ut ?_ hb19 | refine ut ?_ hb20 | refine us ?_ (by omega)))))).mono ?_); rintro e18 w18 ⟨v18, rfl, h18, hb18⟩; have l18 := hb18.size; (try simp at l18); have TT18 : Below w16.heap.size w16 w18 := (by with_reducible (repeat (first | exact Below.refl _ _ | refine ua ?_ | refine ud ?_ | refine ut ?_ hb17 | refine ut ?_ hb18 | refine ut ?_ hb19 | refine ut ?_ hb20 | refine us ?_ (by omega)))); have ll18 := TT18.size; obtain ⟨s18, A18, k18, c18, rfl⟩ := h18.form)
       | (go_at_call 27; (with_reducible refine (hmd _ _ (ht.below (by with_reducible (repeat (first | exact Below.refl _ _ | refine ua ?_ | refine ud ?_ | refine ut ?_ hb17 | refine ut ?_ hb18 | refine ut ?_ hb19 | refine ut ?_ hb20 | refine us ?_ (by omega))))) (h18.below (by with_reducible (repeat (first | exact Below.refl _ _ | refine ua ?_ | refine ud ?_ | refine ut ?_ hb17 | refine ut ?_ hb18 | refine ut ?_ hb19 | refine ut ?_ hb20 | refine us ?_ (by omega)))))).mono ?_); rintro e19 w19 ⟨v19, rfl, h19, hb19⟩; have l19 := hb19.size; (try simp at l19); have TT19 : Below w16.heap.size w16 w19 := (by with_reducible (repeat (first | exact Below.refl _ _ | refine ua ?_ | refine ud ?_ | refine ut ?_ hb17 | refine ut ?_ hb18 | refine ut ?_ hb19 | refine ut ?_ hb20 | refine us ?_ (by omega)))); have ll19 := TT19.size; obtain ⟨s19, A19, k19, c19, rfl⟩ := h19.form)
       | (go_at_call 67; (with_reducible refine (hlw _ _ _ (h17.below (by with_reducible (repeat (first | exact Below.refl _ _ | refine ua ?_ | refine ud ?_ | refine ut ?_ hb17 | refine ut ?_ hb18 | refine ut ?_ hb19 | refine ut ?_ hb20 | refine us ?_ (by omega))))) (h19.below (by with_reducible (repeat (first | exact Below.refl _ _ | refine ua ?_ | refine ud ?_ | refine ut ?_ hb17 | refine ut ?_ hb18 | refine ut ?_ hb19 | refine ut ?_ hb20 | refine us ?_ (by omega)))))).mono ?_); rintro e20 w20 ⟨v20, rfl, h20, hb20⟩; have l20 := hb20.size; (try simp at l20); have TT20 : Below w16.heap.size w16 w20 := (by with_reducible (repeat (first | exact Below.refl _ _ | refine ua ?_ | refine ud ?_ | refine ut ?_ hb17 | refine ut ?_ hb18 | refine ut ?_ hb19 | refine ut ?_ hb20 | refine us ?_ (by omega)))); have ll20 := TT20.size; have hU20 : Below w16.heap.size w16 w20 := (by with_reducible (repeat (first | exact Below.refl _ _ | refine ua ?_ | refine ud ?_ | refine ut ?_ hb17 | refine ut ?_ hb18 | refine ut ?_ hb19 | refine ut ?_ hb20 | refine us ?_ (by omega)))); have Z20 := R8.below hU20; have Z20_k := Z20.g4; obtain ⟨sa, Aa, ka, ca, sb, Ab, kb, cb, rfl⟩ := h20.form))
     all_goals (
      go_wp2_with fail
      replace hb := hb.trans (hU20.mono hb.size)
      obtain ⟨W6, eW6, Z20, hb, hk, ff⟩ := Z20.put4 hb (by omega) (.bool sa) (.slice Aa ka ca) (.bool sb) (.slice Ab kb cb) rfl rfl
      replace h20 := h20.keep hk
      rw [eW6]; clear eW6
      replace cM := Z20.k4
      exact bodyPost_ret (v := .agg #[.bool sa, .slice Aa ka ca, .bool sb, .slice Ab kb cb]) (by simp [results, Tryz.results37, go_sem, Z20.k4]) rfl ⟨_, rfl, h20, hb⟩
      )
end Go.Proofs.YtoimnlnaaklinaaGreatDoor
