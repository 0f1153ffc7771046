/-
  Contracts of functions that the statement reaches, and plain laws: SubA.
-/
import Derived.Test.YtoimnlnaaklinaaGreatDoorB29
set_option linter.unusedVariables false
set_option linter.unusedSimpArgs false
set_option maxHeartbeats 8000000
namespace Go.Proofs.YtoimnlnaaklinaaGreatDoor
open Go.RowKit Sos
theorem nl_small {x : Int} (h : x.natAbs < BN) : nl x.natAbs ≤ 1 := nl_le (by rw [Nat.pow_one]; exact h)
theorem NatAt.unique {w : World} {u : Value} {a b : Nat} (ha : NatAt w u a) (hb : NatAt w u b) : a = b := by
 obtain ⟨A, c, rfl, _, hr, _⟩ := ha
 obtain ⟨A', c', e, _, hr', _⟩ := hb
 simp only [Value.slice.injEq] at e
 obtain ⟨rfl, el, _⟩ := e
 have hd : dg a = dg b := by
  refine List.ext_getElem? (fun i => ?_)
  by_cases hi : i < nl a
  ·have hi' : i < nl b := by omega
   rcases hr with h | ⟨g, off, rfl, _, hc⟩
   ·rw [← dg_len, h] at hi; simp at hi
   ·rcases hr' with h | ⟨g', off', e', _, hc'⟩
    ·rw [← dg_len, h] at hi'; simp at hi'
    ·simp only [Option.some.injEq, Addr.mk.injEq] at e'
     obtain ⟨rfl, rfl, _⟩ := e'
     have h1 := hc i (by rw [dg_len]; exact hi)
     have h2 := hc' i (by rw [dg_len]; exact hi')
     rw [h1] at h2
     simp only [Option.some.injEq, Value.int.injEq, true_and] at h2
     rw [List.getElem?_eq_getElem (by rw [dg_len]; exact hi), List.getElem?_eq_getElem (by rw [dg_len]; exact hi')]
     rw [List.getD_eq_getElem?_getD, List.getD_eq_getElem?_getD, List.getElem?_eq_getElem (by rw [dg_len]; exact hi), List.getElem?_eq_getElem (by rw [dg_len]; exact hi')] at h2
     exact congrArg some h2
  ·rw [List.getElem?_eq_none (by rw [dg_len]; omega), List.getElem?_eq_none (by rw [dg_len]; omega)]
 have h1 := val_dg a
 have h2 := val_dg b
 rw [hd, h2] at h1
 omega
theorem IntAt.unique {w : World} {v : Value} {x y : Int} (hx : IntAt w v x) (hy : IntAt w v y) : x = y := by
 obtain ⟨u, rfl, h1⟩ := hx
 obtain ⟨u', e, h2⟩ := hy
 simp at e
 obtain ⟨e1, rfl⟩ := e
 have := h1.unique h2
 omega
theorem WholeAt.off {w : World} {A : Option Addr} {l c g : Nat} {x m : Int} {ns : List Int} (h : WholeAt w (.slice A l c) (x :: ns)) (hG : IntBx w g m) (hne : x ≠ m) : ∀ b, A = some ⟨b, 0, none⟩ → b ≠ g := fun b e eb => by
 subst eb
 obtain ⟨b', s, B, l', d, e', _, g0, g1, hi⟩ := h.at_ (i := 0) (n := x) rfl
 rw [e] at e'
 simp only [Option.some.injEq, Addr.mk.injEq] at e'
 obtain ⟨rfl, _⟩ := e'
 obtain ⟨s', A', k', c', C, hi'⟩ := hG
 have h0 := C.cell 0 rfl
 have h1 := C.cell 1 rfl
 rw [Nat.zero_mul] at g0 g1
 rw [g0] at h0
 rw [g1] at h1
 injection h0 with h0
 injection h1 with h1
 rw [h0, h1] at hi
 exact hne (hi.unique hi')
set_option maxRecDepth 100000 in
theorem qop_any (g h : Int) (n : Nat) (vg vh : Value) (w : World) (hg : IntAt w vg g) (hh : IntAt w vh h) (h0 : h ≠ 0) (hn : n < BN) (hlim : 20 * (n * (nl g.natAbs + nl h.natAbs) + nl g.natAbs + nl h.natAbs + 4) ≤ LIM) :
  Calls Tryz.prog 112 #[vg, vh, .int .u64 n] w (RetInt w (if n = 0 then h else (g ^ n).tdiv (h ^ (n - 1)))) := by
 unfold LIM at hlim
 obtain ⟨sg, Ag, kg, cg, rfl⟩ := hg.form
 obtain ⟨sh, Ah, kh, ch, rfl⟩ := hh.form
 have X : Bx (((w.alloc (.cells #[.bool sg, .slice Ag kg cg] 49)).alloc (.cells #[.bool sh, .slice Ah kh ch] 49)).alloc (.cells #[.bool false, .slice none 0 0] 49)) (w.heap.size) [.bool sg, .slice Ag kg cg] 49 := ((Bx.newAt w [.bool sg, .slice Ag kg cg] 49 (w.heap.size) (by simp)).alloc (.cells #[.bool sh, .slice Ah kh ch] 49)).alloc (.cells #[.bool false, .slice none 0 0] 49)
 have Y : Bx (((w.alloc (.cells #[.bool sg, .slice Ag kg cg] 49)).alloc (.cells #[.bool sh, .slice Ah kh ch] 49)).alloc (.cells #[.bool false, .slice none 0 0] 49)) (w.heap.size + 1) [.bool sh, .slice Ah kh ch] 49 := (Bx.newAt (w.alloc (.cells #[.bool sg, .slice Ag kg cg] 49)) [.bool sh, .slice Ah kh ch] 49 (w.heap.size + 1) (by simp)).alloc (.cells #[.bool false, .slice none 0 0] 49)
 have R : Bx (((w.alloc (.cells #[.bool sg, .slice Ag kg cg] 49)).alloc (.cells #[.bool sh, .slice Ah kh ch] 49)).alloc (.cells #[.bool false, .slice none 0 0] 49)) (w.heap.size + 1 + 1) [.bool false, .slice none 0 0] 49 := Bx.newAt ((w.alloc (.cells #[.bool sg, .slice Ag kg cg] 49)).alloc (.cells #[.bool sh, .slice Ah kh ch] 49)) [.bool false, .slice none 0 0] 49 (w.heap.size + 1 + 1) (by simp)
 have hb : Below w.heap.size w (((w.alloc (.cells #[.bool sg, .slice Ag kg cg] 49)).alloc (.cells #[.bool sh, .slice Ah kh ch] 49)).alloc (.cells #[.bool false, .slice none 0 0] 49)) := (((Below.refl _ _).alloc (by simp) _).alloc (by simp <;> omega) _).alloc (by simp <;> omega) _
 by_cases hn0 : n = 0
 ·subst hn0
  rw [if_pos rfl]
  go_enter Tryz.func112, Tryz.ntmps112
  go_wp2_with fail
  have hbR := (((Below.refl w.heap.size w).alloc (Nat.le_refl _) (.cells #[.bool sg, .slice Ag kg cg] 49)).alloc (by simp) (.cells #[.bool sh, .slice Ah kh ch] 49)).alloc (by simp; omega) (.cells #[.bool sh, .slice Ah kh ch] 49)
  exact bodyPost_ret (v := .agg #[.bool sh, .slice Ah kh ch]) (by simp [results, Tryz.results112, go_sem]) rfl ⟨_, rfl, hh.below hbR, hbR⟩
 ·have q0 : ((n : Int) == 0) = false := by rw [beq_eq_false_iff_ne]; omega
  rw [if_neg hn0]
  obtain ⟨m, hm⟩ : ∃ m, n = m + 1 := ⟨n - 1, by omega⟩
  have hmw : IntKind.u64.wrap ((n : Int) - 1) = (m : Int) := by unfold BN at hn; rw [IntKind.wrap_u64]; omega
  have e1 : n - 1 = m := by omega
  rw [e1]
  have b1 := nl_pow g.natAbs n
  have b2 := nl_pow h.natAbs m
  have b3 : m * nl h.natAbs ≤ n * nl h.natAbs := Nat.mul_le_mul_right _ (by omega)
  rw [Nat.mul_add n] at hlim
  have hpg := fun W h1 => pow_any g n (.agg #[.bool sg, .slice Ag kg cg]) W h1 hn (by unfold LIM; omega)
  have hph := fun W h1 => pow_any h m (.agg #[.bool sh, .slice Ah kh ch]) W h1 (by omega) (by unfold LIM; omega)
  have hqu := fun W v u h1 h2 => quo_any (g ^ n) (h ^ m) v u W h1 h2 (Int.pow_ne_zero h0) (by rw [Int.natAbs_pow, Int.natAbs_pow]; omega)
  clear b1 b2 b3 e1 hm hlim
  generalize g ^ n = G at *
  generalize h ^ m = H at *
  generalize G.tdiv H = Z at *
  replace hg := hg.below hb
  replace hh := hh.below hb
  go_enter Tryz.func112, Tryz.ntmps112
  go_wp2_with fail
  generalize ((w.alloc (.cells #[.bool sg, .slice Ag kg cg] 49)).alloc (.cells #[.bool sh, .slice Ah kh ch] 49)).alloc (.cells #[.bool false, .slice none 0 0] 49) = W at *
  replace hg := hg.drew
  replace hh := hh.drew
  replace X := X.drew
  replace Y := Y.drew
  replace R := R.drew
  replace hb := hb.drew
  replace X_0 := X.cell 0 rfl
  replace X_1 := X.cell 1 rfl
  replace Y_0 := Y.cell 0 rfl
  replace Y_1 := Y.cell 1 rfl
  replace R_0 := R.cell 0 rfl
  replace R_f0 := R.free 0
  replace R_1 := R.cell 1 rfl
  replace R_f1 := R.free 1
  have n_R_X : w.heap.size + 1 + 1 ≠ w.heap.size := by omega
  have n_R_Y : w.heap.size + 1 + 1 ≠ w.heap.size + 1 := by omega
  go_region_held3 (fun w' => w'.cell? ⟨w.heap.size, 0, none⟩ = some (.bool sg) ∧ w'.cell? ⟨w.heap.size, 1, none⟩ = some (.slice Ag kg cg) ∧ w'.cell? ⟨w.heap.size + 1, 0, none⟩ = some (.bool sh) ∧ w'.cell? ⟨w.heap.size + 1, 1, none⟩ = some (.slice Ah kh ch))
   (first | (with_reducible exact ⟨X_0, X_1, Y_0, Y_1⟩)
          | (with_reducible exact ⟨((cell_far _ _ _ _ _ _ n_R_X).trans ((cell_far _ _ _ _ _ _ n_R_X).trans X_0)), ((cell_far _ _ _ _ _ _ n_R_X).trans ((cell_far _ _ _ _ _ _ n_R_X).trans X_1)), ((cell_far _ _ _ _ _ _ n_R_Y).trans ((cell_far _ _ _ _ _ _ n_R_Y).trans Y_0)), ((cell_far _ _ _ _ _ _ n_R_Y).trans ((cell_far _ _ _ _ _ _ n_R_Y).trans Y_1))⟩))
   (first
    | (go_at_call 109; (with_reducible refine (hpg _ hg).mono ?_); rintro e1 w1 ⟨v1, rfl, h1, hb1⟩; obtain ⟨s1, A1, k1, c1, rfl⟩ := h1.form; replace X := X.below hb1; replace X_0 := X.cell 0 rfl; replace X_1 := X.cell 1 rfl; replace Y := Y.below hb1; replace Y_0 := Y.cell 0 rfl; replace Y_1 := Y.cell 1 rfl; replace R := R.below hb1; replace R_0 := R.cell 0 rfl; replace R_f0 := R.free 0; replace R_1 := R.cell 1 rfl; replace R_f1 := R.free 1; replace hk := Keep.below hb1; replace hg := hg.keep hk; replace hh := hh.keep hk; (try replace h2 := h2.keep hk); (try replace h3 := h3.keep hk); replace hb := hb.trans (hb1.mono hb.size))
    | (go_at_call 109; (with_reducible refine (hph _ hh).mono ?_); rintro e2 w2 ⟨v2, rfl, h2, hb2⟩; obtain ⟨s2, A2, k2, c2, rfl⟩ := h2.form; replace X := X.below hb2; replace X_0 := X.cell 0 rfl; replace X_1 := X.cell 1 rfl; replace Y := Y.below hb2; replace Y_0 := Y.cell 0 rfl; replace Y_1 := Y.cell 1 rfl; replace R := R.below hb2; replace R_0 := R.cell 0 rfl; replace R_f0 := R.free 0; replace R_1 := R.cell 1 rfl; replace R_f1 := R.free 1; replace hk := Keep.below hb2; replace hg := hg.keep hk; replace hh := hh.keep hk; (try replace h1 := h1.keep hk); (try replace h3 := h3.keep hk); replace hb := hb.trans (hb2.mono hb.size))
    | (go_at_call 66; (with_reducible refine (hqu _ _ _ h1 h2).mono ?_); rintro e3 w3 ⟨v3, rfl, h3, hb3⟩; obtain ⟨s3, A3, k3, c3, rfl⟩ := h3.form; replace X := X.below hb3; replace X_0 := X.cell 0 rfl; replace X_1 := X.cell 1 rfl; replace Y := Y.below hb3; replace Y_0 := Y.cell 0 rfl; replace Y_1 := Y.cell 1 rfl; replace R := R.below hb3; replace R_0 := R.cell 0 rfl; replace R_f0 := R.free 0; replace R_1 := R.cell 1 rfl; replace R_f1 := R.free 1; replace hk := Keep.below hb3; replace hg := hg.keep hk; replace hh := hh.keep hk; (try replace h1 := h1.keep hk); (try replace h2 := h2.keep hk); replace hb := hb.trans (hb3.mono hb.size)))
  go_wp2_with fail
  obtain ⟨z0, z1, -, hbz, hk⟩ := int_stored (s := s3) (u := .slice A3 k3 c3) hb (by omega) R
  have hz := h3.keep hk
  generalize (w3.setCell ⟨w.heap.size + 1 + 1, 0, none⟩ (.bool s3)).setCell ⟨w.heap.size + 1 + 1, 1, none⟩ (.slice A3 k3 c3) = W6 at *
  exact bodyPost_ret (v := .agg #[.bool s3, .slice A3 k3 c3]) (by simp [results, Tryz.results112, go_sem, z0, z1]) rfl ⟨_, rfl, hz, hbz⟩
theorem pq_ex1_b (K : Nat) (hK : 1 ≤ K) : (∀ n ∈ ([-1, 1] : List Int), nl n.natAbs ≤ K) ∧ (∀ n ∈ ([-3, 1] : List Int), nl n.natAbs ≤ K) ∧ (∀ n ∈ ([2] : List Int), nl n.natAbs ≤ K) := by
 refine ⟨fun n hn => ?_, fun n hn => ?_, fun n hn => ?_⟩
 all_goals
  refine Nat.le_trans (nl_small ?_) hK
  simp at hn
  first
   | (rcases hn with rfl | rfl <;> decide)
   | (subst hn; decide)
def SubSt (k : Nat) (a b : List Int) (ng : Bool) (gI hI : Int) : Prop :=
 (k = 1 ∧ a = [-1, 1] ∧ b = [-3, 1] ∧ ng = false ∧ gI = 1 ∧ hI = 1) ∨ (k = 0 ∧ a = [-3, 1] ∧ b = [2] ∧ ng = true ∧ gI = 1 ∧ hI = 1)
set_option maxRecDepth 100000 in
theorem subres_ex (va vb : Value) (w : World) (ha : WholeAt w va [-1, 1]) (hb' : WholeAt w vb [-3, 1]) :
  Calls Tryz.prog 79 #[va, vb] w (RetInt w (-2)) := by
 obtain ⟨A, c, rfl, hc⟩ := ha.form
 obtain ⟨A', c', rfl, hc'⟩ := hb'.form
 obtain ⟨ka, kb, k2'⟩ := pq_ex1_b 1 (Nat.le_refl _)
 have R : Bx (w.alloc (.cells #[.bool false, .slice none 0 0] 49)) (w.heap.size) [.bool false, .slice none 0 0] 49 := Bx.newAt w [.bool false, .slice none 0 0] 49 (w.heap.size) (by simp)
 have hb : Below w.heap.size w (w.alloc (.cells #[.bool false, .slice none 0 0] 49)) := (Below.refl _ _).alloc (by simp) _
 go_enter Tryz.func79, Tryz.ntmps79
 go_wp2_with fail
 generalize w.alloc (.cells #[.bool false, .slice none 0 0] 49) = W at *
 ((with_reducible refine (new_any 1 _ (by decide) (by decide)).mono ?_))
 rintro e1 w1 ⟨v1, rfl, h1, hb1⟩
 obtain ⟨s1, A1, k1, c1, rfl⟩ := h1.form
 replace R := R.below hb1
 replace R_0 := R.cell 0 rfl
 replace R_f0 := R.free 0
 replace R_1 := R.cell 1 rfl
 replace R_f1 := R.free 1
 replace hk := Keep.below hb1
 replace hb := hb.trans (hb1.mono hb.size)
 go_wp2_with fail
 ((with_reducible refine (new_any 1 _ (by decide) (by decide)).mono ?_))
 rintro e2 w2 ⟨v2, rfl, h2, hb2⟩
 obtain ⟨s2, A2, k2, c2, rfl⟩ := h2.form
 replace R := R.below hb2
 replace R_0 := R.cell 0 rfl
 replace R_f0 := R.free 0
 replace R_1 := R.cell 1 rfl
 replace R_f1 := R.free 1
 replace hk := Keep.below hb2
 replace h1 := h1.keep hk
 replace hb := hb.trans (hb2.mono hb.size)
 go_wp2_with fail
 have R_ltw2 := R.lt
 have hszw2 := hb.size
 replace R := R.alloc (.cells #[.bool s1, .slice A1 k1 c1] 49)
 have G := Bx.newAt w2 [.bool s1, .slice A1 k1 c1] 49 (w2.heap.size) (by simp)
 replace hb := hb.alloc hb.size (.cells #[.bool s1, .slice A1 k1 c1] 49)
 replace hk := Keep.alloc w2 (.cells #[.bool s1, .slice A1 k1 c1] 49)
 replace h1 := h1.keep hk
 replace h2 := h2.keep hk
 replace R := R.alloc (.cells #[.bool s2, .slice A2 k2 c2] 49)
 replace G := G.alloc (.cells #[.bool s2, .slice A2 k2 c2] 49)
 have H := Bx.newAt (w2.alloc (.cells #[.bool s1, .slice A1 k1 c1] 49)) [.bool s2, .slice A2 k2 c2] 49 (w2.heap.size + 1) (by simp)
 replace hb := hb.alloc hb.size (.cells #[.bool s2, .slice A2 k2 c2] 49)
 replace hk := Keep.alloc (w2.alloc (.cells #[.bool s1, .slice A1 k1 c1] 49)) (.cells #[.bool s2, .slice A2 k2 c2] 49)
 replace h1 := h1.keep hk
 replace h2 := h2.keep hk
 generalize (w2.alloc (.cells #[.bool s1, .slice A1 k1 c1] 49)).alloc (.cells #[.bool s2, .slice A2 k2 c2] 49) = W2 at *
 replace R_0 := R.cell 0 rfl
 replace R_1 := R.cell 1 rfl
 replace G_0 := G.cell 0 rfl
 replace G_1 := G.cell 1 rfl
 replace H_0 := H.cell 0 rfl
 replace H_1 := H.cell 1 rfl
 have hG0 : IntBx W2 w2.heap.size 1 := ⟨_, _, _, _, G, h1⟩
 have hH0 : IntBx W2 (w2.heap.size + 1) 1 := ⟨_, _, _, _, H, h2⟩
 have hg6 : w.heap.size < w2.heap.size := by have := R_ltw2; omega
 clear G H h1 h2 hk G_0 G_1 H_0 H_1 R_0 R_1
 generalize w2.heap.size = g6 at *
 have ha0 := ha.below hb
 have hb0 := hb'.below hb
 clear ha hb'
 go_loopg [0, 1, 5] 1 (fun k va vb vn wr => ∃ a b ng gI hI A c A' c', va = .slice A a.length c ∧ vb = .slice A' b.length c' ∧ vn = .bool ng ∧ WholeAt wr (.slice A a.length c) a ∧ WholeAt wr (.slice A' b.length c') b ∧ IntBx wr g6 gI ∧ IntBx wr (g6 + 1) hI ∧ Bx wr w.heap.size [.bool false, .slice none 0 0] 49 ∧ Hid (SubSt k a b ng gI hI) ∧ Below w.heap.size w wr)
 case atStart => exact ⟨[-1, 1], [-3, 1], false, 1, 1, A, c, A', c', rfl, rfl, rfl, ha0, hb0, hG0, hH0, R, .inl ⟨rfl, rfl, rfl, rfl, rfl, rfl⟩, hb⟩
 case round =>
  clear ha0 hb0 hG0 hH0 R hb hc hc'
  obtain ⟨a, b, ng, gI, hI, A, c, A', c', rfl, rfl, rfl, ha, hbb, hG, hH, R, HS, hb⟩ := hrel
  generalize wr = wy at *
  rcases HS.out with ⟨e0, e1, e2, e3, e4, e5⟩ | ⟨e0, e1, e2, e3, e4, e5⟩
  ·subst e0; subst e1; subst e2; subst e3; subst e4; subst e5
   have hdg : ∀ (B : Option Addr) (d : Nat) (W : World), Calls Tryz.prog 43 #[.slice B 2 d] W fun e w' => e = .returned (.int .i64 1) ∧ W = w' := fun B d W => (degree_any 2 d B W (by decide)).mono (fun e w' h => ⟨h.1, h.2.symm⟩)
   have hpq := fun W h1 h2 => pqr_whole [-1, 1] [-3, 1] (.slice A 2 c) (.slice A' 2 c') W h1 h2 (by decide) (trimmed_by rfl) (trimmed_by rfl) 1 10 ka kb (by decide) (by decide) (by decide) (by decide) (by decide)
   unfold RetPQR at hpq
   go_wp2_with (go_at_call 43; (with_reducible refine (hdg _ _ _).mono ?_); rintro e w ⟨rfl, rfl⟩)
   ((with_reducible refine (hpq _ ha hbb).mono ?_))
   rintro e5 w5 ⟨vq, vr, vm, q, r, m, rfl, hq, hr, hm, hres, hb5⟩
   obtain ⟨rfl, rfl⟩ := pq_ex1 hres
   obtain ⟨Aq, cq, rfl, hcq⟩ := hq.form
   obtain ⟨Ar, cr, rfl, hcr⟩ := hr.form
   obtain ⟨sm, Am, km, cm, rfl⟩ := hm.form
   have hbX : Below w5.heap.size w5 (w5.alloc (.cells #[.bool sm, .slice Am km cm] 49)) := (Below.refl _ _).alloc (Nat.le_refl _) _
   have M := Bx.new w5 [.bool sm, .slice Am km cm] 49
   replace hbb := (hbb.below hb5).below hbX
   replace hr := hr.below hbX
   replace hm := hm.below hbX
   replace hG := (hG.below hb5).below hbX
   replace hH := (hH.below hb5).below hbX
   replace R := (R.below hb5).below hbX
   replace hb := hb.trans (hb5.mono hb.size)
   replace hb := hb.trans (hbX.mono hb.size)
   clear hpq hres hdg hq ha hb5
   go_upto_region 11 with fail
   clear hbX
   generalize w5.heap.size = gm at *
   generalize w5.alloc (.cells #[.bool sm, .slice Am km cm] 49) = w6 at *
   have hle : ∀ W, WholeAt W (.slice A' 2 c') [-3, 1] → Calls Tryz.prog 47 #[.slice A' 2 c'] W (RetInt W 1) := fun W h => lead_whole [-3, 1] (.slice A' 2 c') W h (by decide) (by decide)
   have hw1 : IntKind.u64.wrap 1 = 1 := by decide
   have n1 : nl (1 : Int).natAbs ≤ 1 := nl_small (by decide)
   have hpw : ∀ W v, IntAt W v 1 → Calls Tryz.prog 109 #[v, .int .u64 1] W (RetInt W 1) := fun W v h => pow_any 1 1 v W h (by decide) (by unfold LIM; omega)
   have hqu : ∀ W v u, IntAt W v 1 → IntAt W u 1 → Calls Tryz.prog 66 #[v, u] W (RetInt W 1) := fun W v u h1 h2 => quo_any 1 1 v u W h1 h2 (by decide) (by omega)
   have hZ : Below w6.heap.size w6 (w6.alloc (.cells #[.bool false, .slice none 0 0] 49)) := (Below.refl _ _).alloc (Nat.le_refl _) _
   have DN := Bx.new w6 [.bool false, .slice none 0 0] 49
   have M_0 := M.cell 0 rfl
   have M_1 := M.cell 1 rfl
   have M_lt := M.lt
   have M_l0 := M.lt
   have lt0 := Nat.le_refl w6.heap.size
   go_cut [12] (fun s wx => ∃ gd, s = .pointer (some ⟨gd, 0, none⟩) ∧ w6.heap.size ≤ gd ∧ IntBx wx gd (1) ∧ Below w6.heap.size w6 wx)
   case first =>
    go_region_held3 (fun w' => w'.cell? ⟨gm, 0, none⟩ = some (.bool sm) ∧ w'.cell? ⟨gm, 1, none⟩ = some (.slice Am km cm))
     (first | (exact ⟨M_0, M_1⟩) | (exact ⟨(((Below.refl _ _).alloc (Nat.le_refl _) _).cell (p := ⟨gm, 0, none⟩) M_lt).trans M_0, (((Below.refl _ _).alloc (Nat.le_refl _) _).cell (p := ⟨gm, 1, none⟩) M_lt).trans M_1⟩) | (exact ⟨(cell_far _ _ _ _ _ _ (show w6.heap.size ≠ gm by omega)).trans ((cell_far _ _ _ _ _ _ (show w6.heap.size ≠ gm by omega)).trans M_0), (cell_far _ _ _ _ _ _ (show w6.heap.size ≠ gm by omega)).trans ((cell_far _ _ _ _ _ _ (show w6.heap.size ≠ gm by omega)).trans M_1)⟩) | (exact ⟨(cell_far _ _ _ _ _ _ (show w7.heap.size ≠ gm by omega)).trans ((cell_far _ _ _ _ _ _ (show w7.heap.size ≠ gm by omega)).trans M_0), (cell_far _ _ _ _ _ _ (show w7.heap.size ≠ gm by omega)).trans ((cell_far _ _ _ _ _ _ (show w7.heap.size ≠ gm by omega)).trans M_1)⟩) | (exact ⟨(cell_far _ _ _ _ _ _ (show w8.heap.size ≠ gm by omega)).trans ((cell_far _ _ _ _ _ _ (show w8.heap.size ≠ gm by omega)).trans M_0), (cell_far _ _ _ _ _ _ (show w8.heap.size ≠ gm by omega)).trans ((cell_far _ _ _ _ _ _ (show w8.heap.size ≠ gm by omega)).trans M_1)⟩) | (exact ⟨(cell_far _ _ _ _ _ _ (show w9.heap.size ≠ gm by omega)).trans ((cell_far _ _ _ _ _ _ (show w9.heap.size ≠ gm by omega)).trans M_0), (cell_far _ _ _ _ _ _ (show w9.heap.size ≠ gm by omega)).trans ((cell_far _ _ _ _ _ _ (show w9.heap.size ≠ gm by omega)).trans M_1)⟩) | go_keep)
     (first
      | (go_at_call 47; (with_reducible refine (hle _ ((hbb).drew)).mono ?_); rintro e7 w7 ⟨v7, rfl, h7, hb7⟩; have T7 : Below w6.heap.size w6 w7 := (Below.refl w6.heap.size w6).drew.trans hb7; replace M := M.below T7; replace M_0 := M.cell 0 rfl; replace M_1 := M.cell 1 rfl; replace M_lt := M.lt; (try replace hm := hm.below T7); have l7 := T7.size; have TT := T7; obtain ⟨s7, A7, k7, c7, rfl⟩ := h7.form)
      | (go_at_call 47; (with_reducible refine (hle _ (((hbb).below hZ).drew)).mono ?_); rintro e7 w7 ⟨v7, rfl, h7, hb7⟩; have T7 : Below w6.heap.size w6 w7 := hZ.drew.trans (hb7.mono hZ.size); have D := DN.drew.below hb7; replace M := M.below T7; replace M_0 := M.cell 0 rfl; replace M_1 := M.cell 1 rfl; replace M_lt := M.lt; (try replace hm := hm.below T7); have l7 := T7.size; have TT := T7; obtain ⟨s7, A7, k7, c7, rfl⟩ := h7.form)
      | (go_at_call 109; (with_reducible refine (hpw _ _ (h7)).mono ?_); rintro e8 w8 ⟨v8, rfl, h8, hb8⟩; have T8 : Below w7.heap.size w7 w8 := hb8; (try replace D := D.below hb8); replace M := M.below T8; replace M_0 := M.cell 0 rfl; replace M_1 := M.cell 1 rfl; replace M_lt := M.lt; (try replace hm := hm.below T8); have l8 := T8.size; replace TT := TT.trans (T8.mono TT.size); obtain ⟨s8, A8, k8, c8, rfl⟩ := h8.form)
      | (go_at_call 109; (with_reducible refine (hpw _ _ ((h7).below ((Below.refl w7.heap.size w7).alloc (Nat.le_refl _) (.cells #[.bool false, .slice none 0 0] 49)))).mono ?_); rintro e8 w8 ⟨v8, rfl, h8, hb8⟩; have T8 : Below w7.heap.size w7 w8 := ((Below.refl w7.heap.size w7).alloc (Nat.le_refl _) (.cells #[.bool false, .slice none 0 0] 49)).trans (hb8.mono ((Below.refl w7.heap.size w7).alloc (Nat.le_refl _) (.cells #[.bool false, .slice none 0 0] 49)).size); have D := (Bx.new w7 [.bool false, .slice none 0 0] 49).below hb8; replace M := M.below T8; replace M_0 := M.cell 0 rfl; replace M_1 := M.cell 1 rfl; replace M_lt := M.lt; (try replace hm := hm.below T8); have l8 := T8.size; replace TT := TT.trans (T8.mono TT.size); obtain ⟨s8, A8, k8, c8, rfl⟩ := h8.form)
      | (go_at_call 66; (with_reducible refine (hqu _ _ _ (h8) (hm)).mono ?_); rintro e9 w9 ⟨v9, rfl, h9, hb9⟩; have T9 : Below w8.heap.size w8 w9 := hb9; (try replace D := D.below hb9); replace M := M.below T9; replace M_0 := M.cell 0 rfl; replace M_1 := M.cell 1 rfl; replace M_lt := M.lt; (try replace hm := hm.below T9); have l9 := T9.size; replace TT := TT.trans (T9.mono TT.size); obtain ⟨s9, A9, k9, c9, rfl⟩ := h9.form; (try have D_0 := D.cell 0 rfl); (try have D_1 := D.cell 1 rfl); (try have D_f0 := D.free 0); (try have D_f1 := D.free 1))
      | (go_at_call 66; (with_reducible refine (hqu _ _ _ ((h8).below ((Below.refl w8.heap.size w8).alloc (Nat.le_refl _) (.cells #[.bool false, .slice none 0 0] 49))) ((hm).below ((Below.refl w8.heap.size w8).alloc (Nat.le_refl _) (.cells #[.bool false, .slice none 0 0] 49)))).mono ?_); rintro e9 w9 ⟨v9, rfl, h9, hb9⟩; have T9 : Below w8.heap.size w8 w9 := ((Below.refl w8.heap.size w8).alloc (Nat.le_refl _) (.cells #[.bool false, .slice none 0 0] 49)).trans (hb9.mono ((Below.refl w8.heap.size w8).alloc (Nat.le_refl _) (.cells #[.bool false, .slice none 0 0] 49)).size); have D := (Bx.new w8 [.bool false, .slice none 0 0] 49).below hb9; replace M := M.below T9; replace M_0 := M.cell 0 rfl; replace M_1 := M.cell 1 rfl; replace M_lt := M.lt; (try replace hm := hm.below T9); have l9 := T9.size; replace TT := TT.trans (T9.mono TT.size); obtain ⟨s9, A9, k9, c9, rfl⟩ := h9.form; (try have D_0 := D.cell 0 rfl); (try have D_1 := D.cell 1 rfl); (try have D_f0 := D.free 0); (try have D_f1 := D.free 1)))
    all_goals (
     go_wp2_with fail
     go_meet
     first
      | exact ⟨_, rfl, by omega, (IntBx.stored (m := 0) ⟨_, _, _, _, D, IntAt.zero _⟩ h9).1, below_step TT (IntBx.stored (m := 0) ⟨_, _, _, _, D, IntAt.zero _⟩ h9).2 (by omega)⟩
      | exact ⟨_, rfl, by omega, ⟨_, _, _, _, Bx.new w9 [.bool s9, .slice A9 k9 c9] 49, h9.keep (Keep.alloc _ _)⟩, TT.alloc TT.size _⟩)
   case rest =>
    obtain ⟨gf, rfl, hgf, hF, hbf⟩ := hcut
    have hMl := M.lt
    replace hbb := hbb.below hbf
    replace hr := hr.below hbf
    replace hG := hG.below hbf
    replace hH := hH.below hbf
    replace R := R.below hbf
    replace hb := hb.trans (hbf.mono hb.size)
    clear hle hpw hqu M hm hZ DN M_0 M_1 M_lt M_l0 hbf
    have hsc : ∀ W u, WholeAt W (.slice Ar 1 cr) [2] → IntAt W u 1 → Calls Tryz.prog 35 #[.slice Ar 1 cr, u] W fun e w' => ∃ v', e = .returned v' ∧ WholeAt w' v' [2] ∧ Below W.heap.size W w' := fun W u h1 h2 => scale_whole [2] 1 (.slice Ar 1 cr) u W h1 h2 1 k2' n1 (by decide) (by decide)
    have hp0 : ∀ W v, IntAt W v 1 → Calls Tryz.prog 109 #[v, .int .u64 0] W (RetInt W 1) := fun W v h => pow_any 1 0 v W h (by decide) (by unfold LIM; omega)
    have hmu : ∀ W v u, IntAt W v 1 → IntAt W u 1 → Calls Tryz.prog 27 #[v, u] W (RetInt W 1) := fun W v u h1 h2 => mul_any 1 1 v u W h1 h2 (by omega)
    have hdi : ∀ W v u, WholeAt W v [2] → IntAt W u 1 → Calls Tryz.prog 76 #[v, u] W fun e w' => ∃ v', e = .returned v' ∧ WholeAt w' v' [2] ∧ Below W.heap.size W w' := fun W v u h1 h2 => divide_whole [2] 1 v u W h1 h2 (fun _ => by decide) 1 k2' n1 (by unfold LIM; decide) (by decide)
    obtain ⟨sf, Af, kf, cf', F, hFv⟩ := hF
    obtain ⟨sg, Ag, kg, cg, G, hGv⟩ := id hG
    obtain ⟨sh, Ah, kh, ch, H, hHv⟩ := id hH
    replace hr := hr.drew
    replace hFv := hFv.drew
    replace hGv := hGv.drew
    replace hHv := hHv.drew
    replace hbb := hbb.drew
    replace hG := hG.below (Below.refl _ _).drew
    replace hH := hH.below (Below.refl _ _).drew
    replace R := R.drew
    replace F := F.drew
    replace G := G.drew
    replace H := H.drew
    replace hb := hb.drew
    replace F_0 := F.cell 0 rfl
    replace F_1 := F.cell 1 rfl
    replace G_0 := G.cell 0 rfl
    replace G_1 := G.cell 1 rfl
    replace H_0 := H.cell 0 rfl
    replace H_1 := H.cell 1 rfl
    go_upto_region 12 with fail
    go_region_held3 (fun w' => w'.cell? ⟨gf, 0, none⟩ = some (.bool sf) ∧ w'.cell? ⟨gf, 1, none⟩ = some (.slice Af kf cf') ∧ w'.cell? ⟨g6, 0, none⟩ = some (.bool sg) ∧ w'.cell? ⟨g6, 1, none⟩ = some (.slice Ag kg cg) ∧ w'.cell? ⟨g6 + 1, 0, none⟩ = some (.bool sh) ∧ w'.cell? ⟨g6 + 1, 1, none⟩ = some (.slice Ah kh ch))
     (first | (with_reducible exact ⟨F_0, F_1, G_0, G_1, H_0, H_1⟩) | (exact ⟨F_0, F_1, G_0, G_1, H_0, H_1⟩))
     (first
      | (go_at_call 35; (with_reducible refine (hsc _ _ hr hFv).mono ?_); rintro eA wA ⟨vA, rfl, hA, hbA⟩; replace F := F.below hbA; replace F_0 := F.cell 0 rfl; replace F_1 := F.cell 1 rfl; replace G := G.below hbA; replace G_0 := G.cell 0 rfl; replace G_1 := G.cell 1 rfl; replace H := H.below hbA; replace H_0 := H.cell 0 rfl; replace H_1 := H.cell 1 rfl; (try replace hGv := hGv.below hbA); (try replace hHv := hHv.below hbA); (try replace hbb := hbb.below hbA); (try replace hG := hG.below hbA); (try replace hH := hH.below hbA); (try replace R := R.below hbA); (try replace hB := hB.below hbA); (try replace hC := hC.below hbA); replace hb := hb.trans (hbA.mono hb.size))
      | (go_at_call 109; (with_reducible refine (hp0 _ _ hHv).mono ?_); rintro eB wB ⟨vB, rfl, hB, hbB⟩; replace F := F.below hbB; replace F_0 := F.cell 0 rfl; replace F_1 := F.cell 1 rfl; replace G := G.below hbB; replace G_0 := G.cell 0 rfl; replace G_1 := G.cell 1 rfl; replace H := H.below hbB; replace H_0 := H.cell 0 rfl; replace H_1 := H.cell 1 rfl; (try replace hGv := hGv.below hbB); (try replace hr := hr.below hbB); (try replace hFv := hFv.below hbB); (try replace hbb := hbb.below hbB); (try replace hG := hG.below hbB); (try replace hH := hH.below hbB); (try replace R := R.below hbB); (try replace hA := hA.below hbB); replace hb := hb.trans (hbB.mono hb.size))
      | (go_at_call 27; (with_reducible refine (hmu _ _ _ hGv hB).mono ?_); rintro eC wC ⟨vC, rfl, hC, hbC⟩; replace F := F.below hbC; replace F_0 := F.cell 0 rfl; replace F_1 := F.cell 1 rfl; replace G := G.below hbC; replace G_0 := G.cell 0 rfl; replace G_1 := G.cell 1 rfl; replace H := H.below hbC; replace H_0 := H.cell 0 rfl; replace H_1 := H.cell 1 rfl; (try replace hr := hr.below hbC); (try replace hFv := hFv.below hbC); (try replace hbb := hbb.below hbC); (try replace hG := hG.below hbC); (try replace hH := hH.below hbC); (try replace R := R.below hbC); (try replace hA := hA.below hbC); replace hb := hb.trans (hbC.mono hb.size))
      | (go_at_call 76; (with_reducible refine (hdi _ _ _ hA hC).mono ?_); rintro eE wE ⟨vE, rfl, hE, hbE⟩; replace F := F.below hbE; replace F_0 := F.cell 0 rfl; replace F_1 := F.cell 1 rfl; replace G := G.below hbE; replace G_0 := G.cell 0 rfl; replace G_1 := G.cell 1 rfl; replace H := H.below hbE; replace H_0 := H.cell 0 rfl; replace H_1 := H.cell 1 rfl; (try replace hbb := hbb.below hbE); (try replace hG := hG.below hbE); (try replace hH := hH.below hbE); (try replace R := R.below hbE); replace hb := hb.trans (hbE.mono hb.size)))
    obtain ⟨AE, cE, rfl, hcE⟩ := hE.form
    obtain ⟨sg', Ag', kg', cg', G', hGv'⟩ := id hG
    have G_0' := G'.cell 0 rfl
    have G_1' := G'.cell 1 rfl
    have hle : ∀ W, WholeAt W (.slice A' 2 c') [-3, 1] → Calls Tryz.prog 47 #[.slice A' 2 c'] W (RetInt W 1) := fun W h => lead_whole [-3, 1] (.slice A' 2 c') W h (by decide) (by decide)
    clear F G H F_0 F_1 G_0 G_1 H_0 H_1 hsc hp0 hmu hdi hA hC hB
    go_wp2_with fail
    ((with_reducible refine (hle _ hbb).mono ?_))
    rintro eL wL ⟨vL, rfl, hL, hbL⟩
    obtain ⟨sL, AL, kL, cL, rfl⟩ := hL.form
    replace hbb := hbb.below hbL
    replace hE := hE.below hbL
    replace hG := hG.below hbL
    replace hH := hH.below hbL
    replace R := R.below hbL
    replace G' := G'.below hbL
    replace hb := hb.trans (hbL.mono hb.size)
    have G_0 := G'.cell 0 rfl
    have G_1 := G'.cell 1 rfl
    have G_f0 := G'.free 0
    have G_f1 := G'.free 1
    obtain ⟨hG2, hst⟩ := IntBx.stored (m := 1) ⟨_, _, _, _, G', hGv'.below hbL⟩ hL
    have hH2 := hH.step hst (by omega)
    have R2 : Bx _ w.heap.size [.bool false, .slice none 0 0] 49 := (hst.2.1 w.heap.size (by omega)).trans R
    have hbb2 := hbb.step hst (hbb.off hG (by decide))
    have hE2 := hE.step hst (hE.off hG (by decide))
    have hb2 := below_step hb hst (by omega)
    clear hst hH R hbb hE hb hG
    go_upto_region 14 with fail
    clear G' G_0 G_1 G_0' G_1' G_f0 G_f1 hGv' hL hle hbL
    generalize (wL.setCell ⟨g6, 0, none⟩ (.bool sL)).setCell ⟨g6, 1, none⟩ (.slice AL kL cL) = wS at *
    obtain ⟨sg2, Ag2, kg2, cg2, G2, hGv2⟩ := id hG2
    obtain ⟨sh2, Ah2, kh2, ch2, H2, hHv2⟩ := id hH2
    have G2_0 := G2.cell 0 rfl
    have G2_1 := G2.cell 1 rfl
    have H2_0 := H2.cell 0 rfl
    have H2_1 := H2.cell 1 rfl
    have hq0 : ∀ W v u, IntAt W v 1 → IntAt W u 1 → Calls Tryz.prog 112 #[v, u, .int .u64 0] W (RetInt W 1) := fun W v u h1 h2 => qop_any 1 1 0 v u W h1 h2 (by decide) (by decide) (by unfold LIM; omega)
    go_wp2_with fail
    ((with_reducible refine (hq0 _ _ _ hGv2 hHv2).mono ?_))
    rintro eP wP ⟨vP, rfl, hP, hbP⟩
    obtain ⟨sP, AP, kP, cP, rfl⟩ := hP.form
    replace hbb2 := hbb2.below hbP
    replace hE2 := hE2.below hbP
    replace hG2 := hG2.below hbP
    replace hH2 := hH2.below hbP
    replace R2 := R2.below hbP
    replace H2 := H2.below hbP
    replace hb2 := hb2.trans (hbP.mono hb2.size)
    replace H2_0 := H2.cell 0 rfl
    replace H2_1 := H2.cell 1 rfl
    have H2_f0 := H2.free 0
    have H2_f1 := H2.free 1
    obtain ⟨hH3, hst⟩ := IntBx.stored (m := 1) ⟨_, _, _, _, H2, hHv2.below hbP⟩ hP
    have hG3 := hG2.step hst (by omega)
    have R3 : Bx _ w.heap.size [.bool false, .slice none 0 0] 49 := (hst.2.1 w.heap.size (by omega)).trans R2
    have hbb3 := hbb2.step hst (hbb2.off hH2 (by decide))
    have hE3 := hE2.step hst (hE2.off hH2 (by decide))
    have hb3 := below_step hb2 hst (by omega)
    clear hst hH2 hG2 R2 hbb2 hE2 hb2 hq0
    go_wp2_with fail
    go_roundg 0
    case rel => exact ⟨[-3, 1], [2], true, 1, 1, A', c', AE, cE, rfl, rfl, rfl, hbb3, hE3, hG3, hH3, R3, .inr ⟨rfl, rfl, rfl, rfl, rfl, rfl⟩, hb3⟩
    case measure => omega
  ·subst e0; subst e1; subst e2; subst e3; subst e4; subst e5
   have hdg : ∀ (B : Option Addr) (d : Nat) (W : World), Calls Tryz.prog 43 #[.slice B 1 d] W fun e w' => e = .returned (.int .i64 0) ∧ W = w' := fun B d W => (degree_any 1 d B W (by decide)).mono (fun e w' h => ⟨h.1, h.2.symm⟩)
   have hdg2 : ∀ (B : Option Addr) (d : Nat) (W : World), Calls Tryz.prog 43 #[.slice B 2 d] W fun e w' => e = .returned (.int .i64 1) ∧ W = w' := fun B d W => (degree_any 2 d B W (by decide)).mono (fun e w' h => ⟨h.1, h.2.symm⟩)
   have n1 : nl (1 : Int).natAbs ≤ 1 := nl_small (by decide)
   have n2 : nl (2 : Int).natAbs ≤ 1 := nl_small (by decide)
   have hw1 : IntKind.u64.wrap 1 = 1 := by decide
   have hle : ∀ W, WholeAt W (.slice A' 1 c') [2] → Calls Tryz.prog 47 #[.slice A' 1 c'] W (RetInt W 2) := fun W h => lead_whole [2] (.slice A' 1 c') W h (by decide) (by decide)
   have hqo : ∀ W v u, IntAt W v 2 → IntAt W u 1 → Calls Tryz.prog 112 #[v, u, .int .u64 1] W (RetInt W 2) := fun W v u h1 h2 => qop_any 2 1 1 v u W h1 h2 (by decide) (by decide) (by unfold LIM; omega)
   obtain ⟨sh, Ah, kh, ch, H, hHv⟩ := id hH
   go_upto_region 17 with (go_at_call 43; (with_reducible refine (hdg _ _ _).mono ?_); rintro eD wD ⟨rfl, rfl⟩)
   have hZ : Below wy.heap.size wy (wy.alloc (.cells #[.bool false, .slice none 0 0] 49)) := (Below.refl _ _).alloc (Nat.le_refl _) _
   have DN := Bx.new wy [.bool false, .slice none 0 0] 49
   have H_0 := H.cell 0 rfl
   have H_1 := H.cell 1 rfl
   have H_lt := H.lt
   have H_l0 := H.lt
   have lt0 := Nat.le_refl wy.heap.size
   go_cut [13] (fun s wx => ∃ gd, s = .pointer (some ⟨gd, 0, none⟩) ∧ wy.heap.size ≤ gd ∧ IntBx wx gd (2) ∧ Below wy.heap.size wy wx)
   case first =>
    go_region_held3 (fun w' => w'.cell? ⟨g6 + 1, 0, none⟩ = some (.bool sh) ∧ w'.cell? ⟨g6 + 1, 1, none⟩ = some (.slice Ah kh ch))
     (first | (exact ⟨H_0, H_1⟩) | (exact ⟨(((Below.refl _ _).alloc (Nat.le_refl _) _).cell (p := ⟨g6 + 1, 0, none⟩) H_lt).trans H_0, (((Below.refl _ _).alloc (Nat.le_refl _) _).cell (p := ⟨g6 + 1, 1, none⟩) H_lt).trans H_1⟩) | (exact ⟨(cell_far _ _ _ _ _ _ (show wy.heap.size ≠ g6 + 1 by omega)).trans ((cell_far _ _ _ _ _ _ (show wy.heap.size ≠ g6 + 1 by omega)).trans H_0), (cell_far _ _ _ _ _ _ (show wy.heap.size ≠ g6 + 1 by omega)).trans ((cell_far _ _ _ _ _ _ (show wy.heap.size ≠ g6 + 1 by omega)).trans H_1)⟩) | (exact ⟨(cell_far _ _ _ _ _ _ (show w7.heap.size ≠ g6 + 1 by omega)).trans ((cell_far _ _ _ _ _ _ (show w7.heap.size ≠ g6 + 1 by omega)).trans H_0), (cell_far _ _ _ _ _ _ (show w7.heap.size ≠ g6 + 1 by omega)).trans ((cell_far _ _ _ _ _ _ (show w7.heap.size ≠ g6 + 1 by omega)).trans H_1)⟩) | (exact ⟨(cell_far _ _ _ _ _ _ (show w8.heap.size ≠ g6 + 1 by omega)).trans ((cell_far _ _ _ _ _ _ (show w8.heap.size ≠ g6 + 1 by omega)).trans H_0), (cell_far _ _ _ _ _ _ (show w8.heap.size ≠ g6 + 1 by omega)).trans ((cell_far _ _ _ _ _ _ (show w8.heap.size ≠ g6 + 1 by omega)).trans H_1)⟩) | go_keep)
     (first
      | (go_at_call 47; (with_reducible refine (hle _ ((hbb).drew)).mono ?_); rintro e7 w7 ⟨v7, rfl, h7, hb7⟩; have T7 : Below wy.heap.size wy w7 := (Below.refl wy.heap.size wy).drew.trans hb7; replace H := H.below T7; replace H_0 := H.cell 0 rfl; replace H_1 := H.cell 1 rfl; replace H_lt := H.lt; (try replace hHv := hHv.below T7); have l7 := T7.size; have TT := T7; obtain ⟨s7, A7, k7, c7, rfl⟩ := h7.form)
      | (go_at_call 47; (with_reducible refine (hle _ (((hbb).below hZ).drew)).mono ?_); rintro e7 w7 ⟨v7, rfl, h7, hb7⟩; have T7 : Below wy.heap.size wy w7 := hZ.drew.trans (hb7.mono hZ.size); have D := DN.drew.below hb7; replace H := H.below T7; replace H_0 := H.cell 0 rfl; replace H_1 := H.cell 1 rfl; replace H_lt := H.lt; (try replace hHv := hHv.below T7); have l7 := T7.size; have TT := T7; obtain ⟨s7, A7, k7, c7, rfl⟩ := h7.form)
      | (go_at_call 112; (with_reducible refine (hqo _ _ _ (h7) (hHv)).mono ?_); rintro e8 w8 ⟨v8, rfl, h8, hb8⟩; have T8 : Below w7.heap.size w7 w8 := hb8; (try replace D := D.below hb8); replace H := H.below T8; replace H_0 := H.cell 0 rfl; replace H_1 := H.cell 1 rfl; replace H_lt := H.lt; (try replace hHv := hHv.below T8); have l8 := T8.size; replace TT := TT.trans (T8.mono TT.size); obtain ⟨s8, A8, k8, c8, rfl⟩ := h8.form; (try have D_0 := D.cell 0 rfl); (try have D_1 := D.cell 1 rfl); (try have D_f0 := D.free 0); (try have D_f1 := D.free 1))
      | (go_at_call 112; (with_reducible refine (hqo _ _ _ ((h7).below ((Below.refl w7.heap.size w7).alloc (Nat.le_refl _) (.cells #[.bool false, .slice none 0 0] 49))) ((hHv).below ((Below.refl w7.heap.size w7).alloc (Nat.le_refl _) (.cells #[.bool false, .slice none 0 0] 49)))).mono ?_); rintro e8 w8 ⟨v8, rfl, h8, hb8⟩; have T8 : Below w7.heap.size w7 w8 := ((Below.refl w7.heap.size w7).alloc (Nat.le_refl _) (.cells #[.bool false, .slice none 0 0] 49)).trans (hb8.mono ((Below.refl w7.heap.size w7).alloc (Nat.le_refl _) (.cells #[.bool false, .slice none 0 0] 49)).size); have D := (Bx.new w7 [.bool false, .slice none 0 0] 49).below hb8; replace H := H.below T8; replace H_0 := H.cell 0 rfl; replace H_1 := H.cell 1 rfl; replace H_lt := H.lt; (try replace hHv := hHv.below T8); have l8 := T8.size; replace TT := TT.trans (T8.mono TT.size); obtain ⟨s8, A8, k8, c8, rfl⟩ := h8.form; (try have D_0 := D.cell 0 rfl); (try have D_1 := D.cell 1 rfl); (try have D_f0 := D.free 0); (try have D_f1 := D.free 1))
      | (go_at_call 43; (with_reducible refine (hdg2 _ _ _).mono ?_); rintro eD wD ⟨rfl, rfl⟩))
    all_goals (
     go_wp2_with fail
     go_meet
     first
      | exact ⟨_, rfl, by omega, (IntBx.stored (m := 0) ⟨_, _, _, _, D, IntAt.zero _⟩ h8).1, below_step TT (IntBx.stored (m := 0) ⟨_, _, _, _, D, IntAt.zero _⟩ h8).2 (by omega)⟩
      | exact ⟨_, rfl, by omega, ⟨_, _, _, _, Bx.new w8 [.bool s8, .slice A8 k8 c8] 49, h8.keep (Keep.alloc _ _)⟩, TT.alloc TT.size _⟩)
   case rest =>
    obtain ⟨gf, rfl, hgf, hF, hbf⟩ := hcut
    replace R := R.below hbf
    replace hb := hb.trans (hbf.mono hb.size)
    obtain ⟨sf, Af, kf, cf', F, hFv⟩ := hF
    have F_0 := F.cell 0 rfl
    have F_1 := F.cell 1 rfl
    clear hle hqo H hHv hZ DN H_0 H_1 H_lt H_l0 hbf ha hbb hG hH hdg hdg2
    go_wp2_with fail
    ((with_reducible refine (neg_any 2 _ _ hFv (by omega)).mono ?_))
    rintro eN wN ⟨vN, rfl, hN, hbN⟩
    obtain ⟨sN, AN, kN, cN, rfl⟩ := hN.form
    replace R := R.below hbN
    replace hb := hb.trans (hbN.mono hb.size)
    replace R_0 := R.cell 0 rfl
    replace R_f0 := R.free 0
    replace R_1 := R.cell 1 rfl
    replace R_f1 := R.free 1
    go_wp2_with fail
    obtain ⟨z0, z1, -, hbz, hk⟩ := int_stored (s := sN) (u := .slice AN kN cN) hb (by omega) R
    have hz := hN.keep hk
    generalize (wN.setCell ⟨w.heap.size, 0, none⟩ (.bool sN)).setCell ⟨w.heap.size, 1, none⟩ (.slice AN kN cN) = W6 at *
    exact bodyPost_ret (v := .agg #[.bool sN, .slice AN kN cN]) (by simp [results, Tryz.results79, go_sem, z0, z1]) rfl ⟨_, rfl, hz, hbz⟩
end Go.Proofs.YtoimnlnaaklinaaGreatDoor
