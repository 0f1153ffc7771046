/-
  Contracts of functions that the statement reaches, and plain laws: SubA, SubB, UniF, KeepA, RowJ, WhoD, SqfA, AwkP.
-/
import Derived.Test.YtoimnlnaaklinaaGreatDoorA19
import Derived.Test.YtoimnlnaaklinaaGreatDoorA24
set_option linter.unusedVariables false
set_option linter.unusedSimpArgs false
set_option maxHeartbeats 8000000
namespace Go.Proofs.YtoimnlnaaklinaaGreatDoor
open Go.RowKit Sos
theorem nl_small {x : Int} (h : x.natAbs < BN) : nl x.natAbs ≤ 1 := nl_le (by rw [Nat.pow_one]; exact h)
theorem NatAt.unique {w : World} {u : Value} {a b : Nat} (ha : NatAt w u a) (hb : NatAt w u b) : a = b := by
 obtain ⟨A, c, rfl, _, hr, _⟩ := ha
 obtain ⟨A', c', e, _, hr', _⟩ := hb
 simp only [Value.slice.injEq] at e
 obtain ⟨rfl, el, _⟩ := e
 have hd : dg a = dg b := by
  refine List.ext_getElem? (fun i => ?_)
  by_cases hi : i < nl a
  ·have hi' : i < nl b := by omega
   rcases hr with h | ⟨g, off, rfl, _, hc⟩
   ·rw [← dg_len, h] at hi; simp at hi
   ·rcases hr' with h | ⟨g', off', e', _, hc'⟩
    ·rw [← dg_len, h] at hi'; simp at hi'
    ·simp only [Option.some.injEq, Addr.mk.injEq] at e'
     obtain ⟨rfl, rfl, _⟩ := e'
     have h1 := hc i (by rw [dg_len]; exact hi)
     have h2 := hc' i (by rw [dg_len]; exact hi')
     rw [h1] at h2
     simp only [Option.some.injEq, Value.int.injEq, true_and] at h2
     rw [List.getElem?_eq_getElem (by rw [dg_len]; exact hi), List.getElem?_eq_getElem (by rw [dg_len]; exact hi')]
     rw [List.getD_eq_getElem?_getD, List.getD_eq_getElem?_getD, List.getElem?_eq_getElem (by rw [dg_len]; exact hi), List.getElem?_eq_getElem (by rw [dg_len]; exact hi')] at h2
     exact congrArg some h2
  ·rw [List.getElem?_eq_none (by rw [dg_len]; omega), List.getElem?_eq_none (by rw [dg_len]; omega)]
 have h1 := val_dg a
 have h2 := val_dg b
 rw [hd, h2] at h1
 omega
theorem IntAt.unique {w : World} {v : Value} {x y : Int} (hx : IntAt w v x) (hy : IntAt w v y) : x = y := by
 obtain ⟨u, rfl, h1⟩ := hx
 obtain ⟨u', e, h2⟩ := hy
 simp at e
 obtain ⟨e1, rfl⟩ := e
 have := h1.unique h2
 omega
theorem WholeAt.off {w : World} {A : Option Addr} {l c g : Nat} {x m : Int} {ns : List Int} (h : WholeAt w (.slice A l c) (x :: ns)) (hG : IntBx w g m) (hne : x ≠ m) : ∀ b, A = some ⟨b, 0, none⟩ → b ≠ g := fun b e eb => by
 subst eb
 obtain ⟨b', s, B, l', d, e', _, g0, g1, hi⟩ := h.at_ (i := 0) (n := x) rfl
 rw [e] at e'
 simp only [Option.some.injEq, Addr.mk.injEq] at e'
 obtain ⟨rfl, _⟩ := e'
 obtain ⟨s', A', k', c', C, hi'⟩ := hG
 have h0 := C.cell 0 rfl
 have h1 := C.cell 1 rfl
 rw [Nat.zero_mul] at g0 g1
 rw [g0] at h0
 rw [g1] at h1
 injection h0 with h0
 injection h1 with h1
 rw [h0, h1] at hi
 exact hne (hi.unique hi')
set_option maxRecDepth 100000 in
theorem qop_any (g h : Int) (n : Nat) (vg vh : Value) (w : World) (hg : IntAt w vg g) (hh : IntAt w vh h) (h0 : h ≠ 0) (hn : n < BN) (hlim : 20 * (n * (nl g.natAbs + nl h.natAbs) + nl g.natAbs + nl h.natAbs + 4) ≤ LIM) :
  Calls Tryz.prog 112 #[vg, vh, .int .u64 n] w (RetInt w (if n = 0 then h else (g ^ n).tdiv (h ^ (n - 1)))) := by
 unfold LIM at hlim
 obtain ⟨sg, Ag, kg, cg, rfl⟩ := hg.form
 obtain ⟨sh, Ah, kh, ch, rfl⟩ := hh.form
 have X : Bx (((w.alloc (.cells #[.bool sg, .slice Ag kg cg] 49)).alloc (.cells #[.bool sh, .slice Ah kh ch] 49)).alloc (.cells #[.bool false, .slice none 0 0] 49)) (w.heap.size) [.bool sg, .slice Ag kg cg] 49 := ((Bx.newAt w [.bool sg, .slice Ag kg cg] 49 (w.heap.size) (by simp)).alloc (.cells #[.bool sh, .slice Ah kh ch] 49)).alloc (.cells #[.bool false, .slice none 0 0] 49)
 have Y : Bx (((w.alloc (.cells #[.bool sg, .slice Ag kg cg] 49)).alloc (.cells #[.bool sh, .slice Ah kh ch] 49)).alloc (.cells #[.bool false, .slice none 0 0] 49)) (w.heap.size + 1) [.bool sh, .slice Ah kh ch] 49 := (Bx.newAt (w.alloc (.cells #[.bool sg, .slice Ag kg cg] 49)) [.bool sh, .slice Ah kh ch] 49 (w.heap.size + 1) (by simp)).alloc (.cells #[.bool false, .slice none 0 0] 49)
 have R : Bx (((w.alloc (.cells #[.bool sg, .slice Ag kg cg] 49)).alloc (.cells #[.bool sh, .slice Ah kh ch] 49)).alloc (.cells #[.bool false, .slice none 0 0] 49)) (w.heap.size + 1 + 1) [.bool false, .slice none 0 0] 49 := Bx.newAt ((w.alloc (.cells #[.bool sg, .slice Ag kg cg] 49)).alloc (.cells #[.bool sh, .slice Ah kh ch] 49)) [.bool false, .slice none 0 0] 49 (w.heap.size + 1 + 1) (by simp)
 have hb : Below w.heap.size w (((w.alloc (.cells #[.bool sg, .slice Ag kg cg] 49)).alloc (.cells #[.bool sh, .slice Ah kh ch] 49)).alloc (.cells #[.bool false, .slice none 0 0] 49)) := (((Below.refl _ _).alloc (by simp) _).alloc (by simp <;> omega) _).alloc (by simp <;> omega) _
 by_cases hn0 : n = 0
 ·subst hn0
  rw [if_pos rfl]
  go_enter Tryz.func112, Tryz.ntmps112
  go_wp2_with fail
  have hbR := (((Below.refl w.heap.size w).alloc (Nat.le_refl _) (.cells #[.bool sg, .slice Ag kg cg] 49)).alloc (by simp) (.cells #[.bool sh, .slice Ah kh ch] 49)).alloc (by simp; omega) (.cells #[.bool sh, .slice Ah kh ch] 49)
  exact bodyPost_ret (v := .agg #[.bool sh, .slice Ah kh ch]) (by simp [results, Tryz.results112, go_sem]) rfl ⟨_, rfl, hh.below hbR, hbR⟩
 ·have q0 : ((n : Int) == 0) = false := by rw [beq_eq_false_iff_ne]; omega
  rw [if_neg hn0]
  obtain ⟨m, hm⟩ : ∃ m, n = m + 1 := ⟨n - 1, by omega⟩
  have hmw : IntKind.u64.wrap ((n : Int) - 1) = (m : Int) := by unfold BN at hn; rw [IntKind.wrap_u64]; omega
  have e1 : n - 1 = m := by omega
  rw [e1]
  have b1 := nl_pow g.natAbs n
  have b2 := nl_pow h.natAbs m
  have b3 : m * nl h.natAbs ≤ n * nl h.natAbs := Nat.mul_le_mul_right _ (by omega)
  rw [Nat.mul_add n] at hlim
  have hpg := fun W h1 => pow_any g n (.agg #[.bool sg, .slice Ag kg cg]) W h1 hn (by unfold LIM; omega)
  have hph := fun W h1 => pow_any h m (.agg #[.bool sh, .slice Ah kh ch]) W h1 (by omega) (by unfold LIM; omega)
  have hqu := fun W v u h1 h2 => quo_any (g ^ n) (h ^ m) v u W h1 h2 (Int.pow_ne_zero h0) (by rw [Int.natAbs_pow, Int.natAbs_pow]; omega)
  clear b1 b2 b3 e1 hm hlim
  generalize g ^ n = G at *
  generalize h ^ m = H at *
  generalize G.tdiv H = Z at *
  replace hg := hg.below hb
  replace hh := hh.below hb
  go_enter Tryz.func112, Tryz.ntmps112
  go_wp2_with fail
  generalize ((w.alloc (.cells #[.bool sg, .slice Ag kg cg] 49)).alloc (.cells #[.bool sh, .slice Ah kh ch] 49)).alloc (.cells #[.bool false, .slice none 0 0] 49) = W at *
  replace hg := hg.drew
  replace hh := hh.drew
  replace X := X.drew
  replace Y := Y.drew
  replace R := R.drew
  replace hb := hb.drew
  replace X_0 := X.cell 0 rfl
  replace X_1 := X.cell 1 rfl
  replace Y_0 := Y.cell 0 rfl
  replace Y_1 := Y.cell 1 rfl
  replace R_0 := R.cell 0 rfl
  replace R_f0 := R.free 0
  replace R_1 := R.cell 1 rfl
  replace R_f1 := R.free 1
  have n_R_X : w.heap.size + 1 + 1 ≠ w.heap.size := by omega
  have n_R_Y : w.heap.size + 1 + 1 ≠ w.heap.size + 1 := by omega
  go_region_held3 (fun w' => w'.cell? ⟨w.heap.size, 0, none⟩ = some (.bool sg) ∧ w'.cell? ⟨w.heap.size, 1, none⟩ = some (.slice Ag kg cg) ∧ w'.cell? ⟨w.heap.size + 1, 0, none⟩ = some (.bool sh) ∧ w'.cell? ⟨w.heap.size + 1, 1, none⟩ = some (.slice Ah kh ch))
   (first | (with_reducible exact ⟨X_0, X_1, Y_0, Y_1⟩)
          | (with_reducible exact ⟨((cell_far _ _ _ _ _ _ n_R_X).trans ((cell_far _ _ _ _ _ _ n_R_X).trans X_0)), ((cell_far _ _ _ _ _ _ n_R_X).trans ((cell_far _ _ _ _ _ _ n_R_X).trans X_1)), ((cell_far _ _ _ _ _ _ n_R_Y).trans ((cell_far _ _ _ _ _ _ n_R_Y).trans Y_0)), ((cell_far _ _ _ _ _ _ n_R_Y).trans ((cell_far _ _ _ _ _ _ n_R_Y).trans Y_1))⟩))
   (first
    | (go_at_call 109; (with_reducible refine (hpg _ hg).mono ?_); rintro e1 w1 ⟨v1, rfl, h1, hb1⟩; obtain ⟨s1, A1, k1, c1, rfl⟩ := h1.form; replace X := X.below hb1; replace X_0 := X.cell 0 rfl; replace X_1 := X.cell 1 rfl; replace Y := Y.below hb1; replace Y_0 := Y.cell 0 rfl; replace Y_1 := Y.cell 1 rfl; replace R := R.below hb1; replace R_0 := R.cell 0 rfl; replace R_f0 := R.free 0; replace R_1 := R.cell 1 rfl; replace R_f1 := R.free 1; replace hk := Keep.below hb1; replace hg := hg.keep hk; replace hh := hh.keep hk; (try replace h2 := h2.keep hk); (try replace h3 := h3.keep hk); replace hb := hb.trans (hb1.mono hb.size))
    | (go_at_call 109; (with_reducible refine (hph _ hh).mono ?_); rintro e2 w2 ⟨v2, rfl, h2, hb2⟩; obtain ⟨s2, A2, k2, c2, rfl⟩ := h2.form; replace X := X.below hb2; replace X_0 := X.cell 0 rfl; replace X_1 := X.cell 1 rfl; replace Y := Y.below hb2; replace Y_0 := Y.cell 0 rfl; replace Y_1 := Y.cell 1 rfl; replace R := R.below hb2; replace R_0 := R.cell 0 rfl; replace R_f0 := R.free 0; replace R_1 := R.cell 1 rfl; replace R_f1 := R.free 1; replace hk := Keep.below hb2; replace hg := hg.keep hk; replace hh := hh.keep hk; (try replace h1 := h1.keep hk); (try replace h3 := h3.keep hk); replace hb := hb.trans (hb2.mono hb.size))
    | (go_at_call 66; (with_reducible refine (hqu _ _ _ h1 h2).mono ?_); rintro e3 w3 ⟨v3, rfl, h3, hb3⟩; obtain ⟨s3, A3, k3, c3, rfl⟩ := h3.form; replace X := X.below hb3; replace X_0 := X.cell 0 rfl; replace X_1 := X.cell 1 rfl; replace Y := Y.below hb3; replace Y_0 := Y.cell 0 rfl; replace Y_1 := Y.cell 1 rfl; replace R := R.below hb3; replace R_0 := R.cell 0 rfl; replace R_f0 := R.free 0; replace R_1 := R.cell 1 rfl; replace R_f1 := R.free 1; replace hk := Keep.below hb3; replace hg := hg.keep hk; replace hh := hh.keep hk; (try replace h1 := h1.keep hk); (try replace h2 := h2.keep hk); replace hb := hb.trans (hb3.mono hb.size)))
  go_wp2_with fail
  obtain ⟨z0, z1, -, hbz, hk⟩ := int_stored (s := s3) (u := .slice A3 k3 c3) hb (by omega) R
  have hz := h3.keep hk
  generalize (w3.setCell ⟨w.heap.size + 1 + 1, 0, none⟩ (.bool s3)).setCell ⟨w.heap.size + 1 + 1, 1, none⟩ (.slice A3 k3 c3) = W6 at *
  exact bodyPost_ret (v := .agg #[.bool s3, .slice A3 k3 c3]) (by simp [results, Tryz.results112, go_sem, z0, z1]) rfl ⟨_, rfl, hz, hbz⟩
theorem pq_ex1_b (K : Nat) (hK : 1 ≤ K) : (∀ n ∈ ([-1, 1] : List Int), nl n.natAbs ≤ K) ∧ (∀ n ∈ ([-3, 1] : List Int), nl n.natAbs ≤ K) ∧ (∀ n ∈ ([2] : List Int), nl n.natAbs ≤ K) := by
 refine ⟨fun n hn => ?_, fun n hn => ?_, fun n hn => ?_⟩
 all_goals
  refine Nat.le_trans (nl_small ?_) hK
  simp at hn
  first
   | (rcases hn with rfl | rfl <;> decide)
   | (subst hn; decide)
def SubSt (k : Nat) (a b : List Int) (ng : Bool) (gI hI : Int) : Prop :=
 (k = 1 ∧ a = [-1, 1] ∧ b = [-3, 1] ∧ ng = false ∧ gI = 1 ∧ hI = 1) ∨ (k = 0 ∧ a = [-3, 1] ∧ b = [2] ∧ ng = true ∧ gI = 1 ∧ hI = 1)
set_option maxRecDepth 100000 in
theorem subres_ex (va vb : Value) (w : World) (ha : WholeAt w va [-1, 1]) (hb' : WholeAt w vb [-3, 1]) :
  Calls Tryz.prog 79 #[va, vb] w (RetInt w (-2)) := by
 obtain ⟨A, c, rfl, hc⟩ := ha.form
 obtain ⟨A', c', rfl, hc'⟩ := hb'.form
 obtain ⟨ka, kb, k2'⟩ := pq_ex1_b 1 (Nat.le_refl _)
 have R : Bx (w.alloc (.cells #[.bool false, .slice none 0 0] 49)) (w.heap.size) [.bool false, .slice none 0 0] 49 := Bx.newAt w [.bool false, .slice none 0 0] 49 (w.heap.size) (by simp)
 have hb : Below w.heap.size w (w.alloc (.cells #[.bool false, .slice none 0 0] 49)) := (Below.refl _ _).alloc (by simp) _
 go_enter Tryz.func79, Tryz.ntmps79
 go_wp2_with fail
 generalize w.alloc (.cells #[.bool false, .slice none 0 0] 49) = W at *
 ((with_reducible refine (new_any 1 _ (by decide) (by decide)).mono ?_))
 rintro e1 w1 ⟨v1, rfl, h1, hb1⟩
 obtain ⟨s1, A1, k1, c1, rfl⟩ := h1.form
 replace R := R.below hb1
 replace R_0 := R.cell 0 rfl
 replace R_f0 := R.free 0
 replace R_1 := R.cell 1 rfl
 replace R_f1 := R.free 1
 replace hk := Keep.below hb1
 replace hb := hb.trans (hb1.mono hb.size)
 go_wp2_with fail
 ((with_reducible refine (new_any 1 _ (by decide) (by decide)).mono ?_))
 rintro e2 w2 ⟨v2, rfl, h2, hb2⟩
 obtain ⟨s2, A2, k2, c2, rfl⟩ := h2.form
 replace R := R.below hb2
 replace R_0 := R.cell 0 rfl
 replace R_f0 := R.free 0
 replace R_1 := R.cell 1 rfl
 replace R_f1 := R.free 1
 replace hk := Keep.below hb2
 replace h1 := h1.keep hk
 replace hb := hb.trans (hb2.mono hb.size)
 go_wp2_with fail
 have R_ltw2 := R.lt
 have hszw2 := hb.size
 replace R := R.alloc (.cells #[.bool s1, .slice A1 k1 c1] 49)
 have G := Bx.newAt w2 [.bool s1, .slice A1 k1 c1] 49 (w2.heap.size) (by simp)
 replace hb := hb.alloc hb.size (.cells #[.bool s1, .slice A1 k1 c1] 49)
 replace hk := Keep.alloc w2 (.cells #[.bool s1, .slice A1 k1 c1] 49)
 replace h1 := h1.keep hk
 replace h2 := h2.keep hk
 replace R := R.alloc (.cells #[.bool s2, .slice A2 k2 c2] 49)
 replace G := G.alloc (.cells #[.bool s2, .slice A2 k2 c2] 49)
 have H := Bx.newAt (w2.alloc (.cells #[.bool s1, .slice A1 k1 c1] 49)) [.bool s2, .slice A2 k2 c2] 49 (w2.heap.size + 1) (by simp)
 replace hb := hb.alloc hb.size (.cells #[.bool s2, .slice A2 k2 c2] 49)
 replace hk := Keep.alloc (w2.alloc (.cells #[.bool s1, .slice A1 k1 c1] 49)) (.cells #[.bool s2, .slice A2 k2 c2] 49)
 replace h1 := h1.keep hk
 replace h2 := h2.keep hk
 generalize (w2.alloc (.cells #[.bool s1, .slice A1 k1 c1] 49)).alloc (.cells #[.bool s2, .slice A2 k2 c2] 49) = W2 at *
 replace R_0 := R.cell 0 rfl
 replace R_1 := R.cell 1 rfl
 replace G_0 := G.cell 0 rfl
 replace G_1 := G.cell 1 rfl
 replace H_0 := H.cell 0 rfl
 replace H_1 := H.cell 1 rfl
 have hG0 : IntBx W2 w2.heap.size 1 := ⟨_, _, _, _, G, h1⟩
 have hH0 : IntBx W2 (w2.heap.size + 1) 1 := ⟨_, _, _, _, H, h2⟩
 have hg6 : w.heap.size < w2.heap.size := by have := R_ltw2; omega
 clear G H h1 h2 hk G_0 G_1 H_0 H_1 R_0 R_1
 generalize w2.heap.size = g6 at *
 have ha0 := ha.below hb
 have hb0 := hb'.below hb
 clear ha hb'
 go_loopg [0, 1, 5] 1 (fun k va vb vn wr => ∃ a b ng gI hI A c A' c', va = .slice A a.length c ∧ vb = .slice A' b.length c' ∧ vn = .bool ng ∧ WholeAt wr (.slice A a.length c) a ∧ WholeAt wr (.slice A' b.length c') b ∧ IntBx wr g6 gI ∧ IntBx wr (g6 + 1) hI ∧ Bx wr w.heap.size [.bool false, .slice none 0 0] 49 ∧ Hid (SubSt k a b ng gI hI) ∧ Below w.heap.size w wr)
 case atStart => exact ⟨[-1, 1], [-3, 1], false, 1, 1, A, c, A', c', rfl, rfl, rfl, ha0, hb0, hG0, hH0, R, .inl ⟨rfl, rfl, rfl, rfl, rfl, rfl⟩, hb⟩
 case round =>
  clear ha0 hb0 hG0 hH0 R hb hc hc'
  obtain ⟨a, b, ng, gI, hI, A, c, A', c', rfl, rfl, rfl, ha, hbb, hG, hH, R, HS, hb⟩ := hrel
  generalize wr = wy at *
  rcases HS.out with ⟨e0, e1, e2, e3, e4, e5⟩ | ⟨e0, e1, e2, e3, e4, e5⟩
  ·subst e0; subst e1; subst e2; subst e3; subst e4; subst e5
   have hdg : ∀ (B : Option Addr) (d : Nat) (W : World), Calls Tryz.prog 43 #[.slice B 2 d] W fun e w' => e = .returned (.int .i64 1) ∧ W = w' := fun B d W => (degree_any 2 d B W (by decide)).mono (fun e w' h => ⟨h.1, h.2.symm⟩)
   have hpq := fun W h1 h2 => pqr_whole [-1, 1] [-3, 1] (.slice A 2 c) (.slice A' 2 c') W h1 h2 (by decide) (trimmed_by rfl) (trimmed_by rfl) 1 10 ka kb (by decide) (by decide) (by decide) (by decide) (by decide)
   unfold RetPQR at hpq
   go_wp2_with (go_at_call 43; (with_reducible refine (hdg _ _ _).mono ?_); rintro e w ⟨rfl, rfl⟩)
   ((with_reducible refine (hpq _ ha hbb).mono ?_))
   rintro e5 w5 ⟨vq, vr, vm, q, r, m, rfl, hq, hr, hm, hres, hb5⟩
   obtain ⟨rfl, rfl⟩ := pq_ex1 hres
   obtain ⟨Aq, cq, rfl, hcq⟩ := hq.form
   obtain ⟨Ar, cr, rfl, hcr⟩ := hr.form
   obtain ⟨sm, Am, km, cm, rfl⟩ := hm.form
   have hbX : Below w5.heap.size w5 (w5.alloc (.cells #[.bool sm, .slice Am km cm] 49)) := (Below.refl _ _).alloc (Nat.le_refl _) _
   have M := Bx.new w5 [.bool sm, .slice Am km cm] 49
   replace hbb := (hbb.below hb5).below hbX
   replace hr := hr.below hbX
   replace hm := hm.below hbX
   replace hG := (hG.below hb5).below hbX
   replace hH := (hH.below hb5).below hbX
   replace R := (R.below hb5).below hbX
   replace hb := hb.trans (hb5.mono hb.size)
   replace hb := hb.trans (hbX.mono hb.size)
   clear hpq hres hdg hq ha hb5
   go_upto_region 11 with fail
   clear hbX
   generalize w5.heap.size = gm at *
   generalize w5.alloc (.cells #[.bool sm, .slice Am km cm] 49) = w6 at *
   have hle : ∀ W, WholeAt W (.slice A' 2 c') [-3, 1] → Calls Tryz.prog 47 #[.slice A' 2 c'] W (RetInt W 1) := fun W h => lead_whole [-3, 1] (.slice A' 2 c') W h (by decide) (by decide)
   have hw1 : IntKind.u64.wrap 1 = 1 := by decide
   have n1 : nl (1 : Int).natAbs ≤ 1 := nl_small (by decide)
   have hpw : ∀ W v, IntAt W v 1 → Calls Tryz.prog 109 #[v, .int .u64 1] W (RetInt W 1) := fun W v h => pow_any 1 1 v W h (by decide) (by unfold LIM; omega)
   have hqu : ∀ W v u, IntAt W v 1 → IntAt W u 1 → Calls Tryz.prog 66 #[v, u] W (RetInt W 1) := fun W v u h1 h2 => quo_any 1 1 v u W h1 h2 (by decide) (by omega)
   have hZ : Below w6.heap.size w6 (w6.alloc (.cells #[.bool false, .slice none 0 0] 49)) := (Below.refl _ _).alloc (Nat.le_refl _) _
   have DN := Bx.new w6 [.bool false, .slice none 0 0] 49
   have M_0 := M.cell 0 rfl
   have M_1 := M.cell 1 rfl
   have M_lt := M.lt
   have M_l0 := M.lt
   have lt0 := Nat.le_refl w6.heap.size
   go_cut [12] (fun s wx => ∃ gd, s = .pointer (some ⟨gd, 0, none⟩) ∧ w6.heap.size ≤ gd ∧ IntBx wx gd (1) ∧ Below w6.heap.size w6 wx)
   case first =>
    go_region_held3 (fun w' => w'.cell? ⟨gm, 0, none⟩ = some (.bool sm) ∧ w'.cell? ⟨gm, 1, none⟩ = some (.slice Am km cm))
     (first | (exact ⟨M_0, M_1⟩) | (exact ⟨(((Below.refl _ _).alloc (Nat.le_refl _) _).cell (p := ⟨gm, 0, none⟩) M_lt).trans M_0, (((Below.refl _ _).alloc (Nat.le_refl _) _).cell (p := ⟨gm, 1, none⟩) M_lt).trans M_1⟩) | (exact ⟨(cell_far _ _ _ _ _ _ (show w6.heap.size ≠ gm by omega)).trans ((cell_far _ _ _ _ _ _ (show w6.heap.size ≠ gm by omega)).trans M_0), (cell_far _ _ _ _ _ _ (show w6.heap.size ≠ gm by omega)).trans ((cell_far _ _ _ _ _ _ (show w6.heap.size ≠ gm by omega)).trans M_1)⟩) | (exact ⟨(cell_far _ _ _ _ _ _ (show w7.heap.size ≠ gm by omega)).trans ((cell_far _ _ _ _ _ _ (show w7.heap.size ≠ gm by omega)).trans M_0), (cell_far _ _ _ _ _ _ (show w7.heap.size ≠ gm by omega)).trans ((cell_far _ _ _ _ _ _ (show w7.heap.size ≠ gm by omega)).trans M_1)⟩) | (exact ⟨(cell_far _ _ _ _ _ _ (show w8.heap.size ≠ gm by omega)).trans ((cell_far _ _ _ _ _ _ (show w8.heap.size ≠ gm by omega)).trans M_0), (cell_far _ _ _ _ _ _ (show w8.heap.size ≠ gm by omega)).trans ((cell_far _ _ _ _ _ _ (show w8.heap.size ≠ gm by omega)).trans M_1)⟩) | (exact ⟨(cell_far _ _ _ _ _ _ (show w9.heap.size ≠ gm by omega)).trans ((cell_far _ _ _ _ _ _ (show w9.heap.size ≠ gm by omega)).trans M_0), (cell_far _ _ _ _ _ _ (show w9.heap.size ≠ gm by omega)).trans ((cell_far _ _ _ _ _ _ (show w9.heap.size ≠ gm by omega)).trans M_1)⟩) | go_keep)
     (first
      | (go_at_call 47; (with_reducible refine (hle _ ((hbb).drew)).mono ?_); rintro e7 w7 ⟨v7, rfl, h7, hb7⟩; have T7 : Below w6.heap.size w6 w7 := (Below.refl w6.heap.size w6).drew.trans hb7; replace M := M.below T7; replace M_0 := M.cell 0 rfl; replace M_1 := M.cell 1 rfl; replace M_lt := M.lt; (try replace hm := hm.below T7); have l7 := T7.size; have TT := T7; obtain ⟨s7, A7, k7, c7, rfl⟩ := h7.form)
      | (go_at_call 47; (with_reducible refine (hle _ (((hbb).below hZ).drew)).mono ?_); rintro e7 w7 ⟨v7, rfl, h7, hb7⟩; have T7 : Below w6.heap.size w6 w7 := hZ.drew.trans (hb7.mono hZ.size); have D := DN.drew.below hb7; replace M := M.below T7; replace M_0 := M.cell 0 rfl; replace M_1 := M.cell 1 rfl; replace M_lt := M.lt; (try replace hm := hm.below T7); have l7 := T7.size; have TT := T7; obtain ⟨s7, A7, k7, c7, rfl⟩ := h7.form)
      | (go_at_call 109; (with_reducible refine (hpw _ _ (h7)).mono ?_); rintro e8 w8 ⟨v8, rfl, h8, hb8⟩; have T8 : Below w7.heap.size w7 w8 := hb8; (try replace D := D.below hb8); replace M := M.below T8; replace M_0 := M.cell 0 rfl; replace M_1 := M.cell 1 rfl; replace M_lt := M.lt; (try replace hm := hm.below T8); have l8 := T8.size; replace TT := TT.trans (T8.mono TT.size); obtain ⟨s8, A8, k8, c8, rfl⟩ := h8.form)
      | (go_at_call 109; (with_reducible refine (hpw _ _ ((h7).below ((Below.refl w7.heap.size w7).alloc (Nat.le_refl _) (.cells #[.bool false, .slice none 0 0] 49)))).mono ?_); rintro e8 w8 ⟨v8, rfl, h8, hb8⟩; have T8 : Below w7.heap.size w7 w8 := ((Below.refl w7.heap.size w7).alloc (Nat.le_refl _) (.cells #[.bool false, .slice none 0 0] 49)).trans (hb8.mono ((Below.refl w7.heap.size w7).alloc (Nat.le_refl _) (.cells #[.bool false, .slice none 0 0] 49)).size); have D := (Bx.new w7 [.bool false, .slice none 0 0] 49).below hb8; replace M := M.below T8; replace M_0 := M.cell 0 rfl; replace M_1 := M.cell 1 rfl; replace M_lt := M.lt; (try replace hm := hm.below T8); have l8 := T8.size; replace TT := TT.trans (T8.mono TT.size); obtain ⟨s8, A8, k8, c8, rfl⟩ := h8.form)
      | (go_at_call 66; (with_reducible refine (hqu _ _ _ (h8) (hm)).mono ?_); rintro e9 w9 ⟨v9, rfl, h9, hb9⟩; have T9 : Below w8.heap.size w8 w9 := hb9; (try replace D := D.below hb9); replace M := M.below T9; replace M_0 := M.cell 0 rfl; replace M_1 := M.cell 1 rfl; replace M_lt := M.lt; (try replace hm := hm.below T9); have l9 := T9.size; replace TT := TT.trans (T9.mono TT.size); obtain ⟨s9, A9, k9, c9, rfl⟩ := h9.form; (try have D_0 := D.cell 0 rfl); (try have D_1 := D.cell 1 rfl); (try have D_f0 := D.free 0); (try have D_f1 := D.free 1))
      | (go_at_call 66; (with_reducible refine (hqu _ _ _ ((h8).below ((Below.refl w8.heap.size w8).alloc (Nat.le_refl _) (.cells #[.bool false, .slice none 0 0] 49))) ((hm).below ((Below.refl w8.heap.size w8).alloc (Nat.le_refl _) (.cells #[.bool false, .slice none 0 0] 49)))).mono ?_); rintro e9 w9 ⟨v9, rfl, h9, hb9⟩; have T9 : Below w8.heap.size w8 w9 := ((Below.refl w8.heap.size w8).alloc (Nat.le_refl _) (.cells #[.bool false, .slice none 0 0] 49)).trans (hb9.mono ((Below.refl w8.heap.size w8).alloc (Nat.le_refl _) (.cells #[.bool false, .slice none 0 0] 49)).size); have D := (Bx.new w8 [.bool false, .slice none 0 0] 49).below hb9; replace M := M.below T9; replace M_0 := M.cell 0 rfl; replace M_1 := M.cell 1 rfl; replace M_lt := M.lt; (try replace hm := hm.below T9); have l9 := T9.size; replace TT := TT.trans (T9.mono TT.size); obtain ⟨s9, A9, k9, c9, rfl⟩ := h9.form; (try have D_0 := D.cell 0 rfl); (try have D_1 := D.cell 1 rfl); (try have D_f0 := D.free 0); (try have D_f1 := D.free 1)))
    all_goals (
     go_wp2_with fail
     go_meet
     first
      | exact ⟨_, rfl, by omega, (IntBx.stored (m := 0) ⟨_, _, _, _, D, IntAt.zero _⟩ h9).1, below_step TT (IntBx.stored (m := 0) ⟨_, _, _, _, D, IntAt.zero _⟩ h9).2 (by omega)⟩
      | exact ⟨_, rfl, by omega, ⟨_, _, _, _, Bx.new w9 [.bool s9, .slice A9 k9 c9] 49, h9.keep (Keep.alloc _ _)⟩, TT.alloc TT.size _⟩)
   case rest =>
    obtain ⟨gf, rfl, hgf, hF, hbf⟩ := hcut
    have hMl := M.lt
    replace hbb := hbb.below hbf
    replace hr := hr.below hbf
    replace hG := hG.below hbf
    replace hH := hH.below hbf
    replace R := R.below hbf
    replace hb := hb.trans (hbf.mono hb.size)
    clear hle hpw hqu M hm hZ DN M_0 M_1 M_lt M_l0 hbf
    have hsc : ∀ W u, WholeAt W (.slice Ar 1 cr) [2] → IntAt W u 1 → Calls Tryz.prog 35 #[.slice Ar 1 cr, u] W fun e w' => ∃ v', e = .returned v' ∧ WholeAt w' v' [2] ∧ Below W.heap.size W w' := fun W u h1 h2 => scale_whole [2] 1 (.slice Ar 1 cr) u W h1 h2 1 k2' n1 (by decide) (by decide)
    have hp0 : ∀ W v, IntAt W v 1 → Calls Tryz.prog 109 #[v, .int .u64 0] W (RetInt W 1) := fun W v h => pow_any 1 0 v W h (by decide) (by unfold LIM; omega)
    have hmu : ∀ W v u, IntAt W v 1 → IntAt W u 1 → Calls Tryz.prog 27 #[v, u] W (RetInt W 1) := fun W v u h1 h2 => mul_any 1 1 v u W h1 h2 (by omega)
    have hdi : ∀ W v u, WholeAt W v [2] → IntAt W u 1 → Calls Tryz.prog 76 #[v, u] W fun e w' => ∃ v', e = .returned v' ∧ WholeAt w' v' [2] ∧ Below W.heap.size W w' := fun W v u h1 h2 => divide_whole [2] 1 v u W h1 h2 (fun _ => by decide) 1 k2' n1 (by unfold LIM; decide) (by decide)
    obtain ⟨sf, Af, kf, cf', F, hFv⟩ := hF
    obtain ⟨sg, Ag, kg, cg, G, hGv⟩ := id hG
    obtain ⟨sh, Ah, kh, ch, H, hHv⟩ := id hH
    replace hr := hr.drew
    replace hFv := hFv.drew
    replace hGv := hGv.drew
    replace hHv := hHv.drew
    replace hbb := hbb.drew
    replace hG := hG.below (Below.refl _ _).drew
    replace hH := hH.below (Below.refl _ _).drew
    replace R := R.drew
    replace F := F.drew
    replace G := G.drew
    replace H := H.drew
    replace hb := hb.drew
    replace F_0 := F.cell 0 rfl
    replace F_1 := F.cell 1 rfl
    replace G_0 := G.cell 0 rfl
    replace G_1 := G.cell 1 rfl
    replace H_0 := H.cell 0 rfl
    replace H_1 := H.cell 1 rfl
    go_upto_region 12 with fail
    go_region_held3 (fun w' => w'.cell? ⟨gf, 0, none⟩ = some (.bool sf) ∧ w'.cell? ⟨gf, 1, none⟩ = some (.slice Af kf cf') ∧ w'.cell? ⟨g6, 0, none⟩ = some (.bool sg) ∧ w'.cell? ⟨g6, 1, none⟩ = some (.slice Ag kg cg) ∧ w'.cell? ⟨g6 + 1, 0, none⟩ = some (.bool sh) ∧ w'.cell? ⟨g6 + 1, 1, none⟩ = some (.slice Ah kh ch))
     (first | (with_reducible exact ⟨F_0, F_1, G_0, G_1, H_0, H_1⟩) | (exact ⟨F_0, F_1, G_0, G_1, H_0, H_1⟩))
     (first
      | (go_at_call 35; (with_reducible refine (hsc _ _ hr hFv).mono ?_); rintro eA wA ⟨vA, rfl, hA, hbA⟩; replace F := F.below hbA; replace F_0 := F.cell 0 rfl; replace F_1 := F.cell 1 rfl; replace G := G.below hbA; replace G_0 := G.cell 0 rfl; replace G_1 := G.cell 1 rfl; replace H := H.below hbA; replace H_0 := H.cell 0 rfl; replace H_1 := H.cell 1 rfl; (try replace hGv := hGv.below hbA); (try replace hHv := hHv.below hbA); (try replace hbb := hbb.below hbA); (try replace hG := hG.below hbA); (try replace hH := hH.below hbA); (try replace R := R.below hbA); (try replace hB := hB.below hbA); (try replace hC := hC.below hbA); replace hb := hb.trans (hbA.mono hb.size))
      | (go_at_call 109; (with_reducible refine (hp0 _ _ hHv).mono ?_); rintro eB wB ⟨vB, rfl, hB, hbB⟩; replace F := F.below hbB; replace F_0 := F.cell 0 rfl; replace F_1 := F.cell 1 rfl; replace G := G.below hbB; replace G_0 := G.cell 0 rfl; replace G_1 := G.cell 1 rfl; replace H := H.below hbB; replace H_0 := H.cell 0 rfl; replace H_1 := H.cell 1 rfl; (try replace hGv := hGv.below hbB); (try replace hr := hr.below hbB); (try replace hFv := hFv.below hbB); (try replace hbb := hbb.below hbB); (try replace hG := hG.below hbB); (try replace hH := hH.below hbB); (try replace R := R.below hbB); (try replace hA := hA.below hbB); replace hb := hb.trans (hbB.mono hb.size))
      | (go_at_call 27; (with_reducible refine (hmu _ _ _ hGv hB).mono ?_); rintro eC wC ⟨vC, rfl, hC, hbC⟩; replace F := F.below hbC; replace F_0 := F.cell 0 rfl; replace F_1 := F.cell 1 rfl; replace G := G.below hbC; replace G_0 := G.cell 0 rfl; replace G_1 := G.cell 1 rfl; replace H := H.below hbC; replace H_0 := H.cell 0 rfl; replace H_1 := H.cell 1 rfl; (try replace hr := hr.below hbC); (try replace hFv := hFv.below hbC); (try replace hbb := hbb.below hbC); (try replace hG := hG.below hbC); (try replace hH := hH.below hbC); (try replace R := R.below hbC); (try replace hA := hA.below hbC); replace hb := hb.trans (hbC.mono hb.size))
      | (go_at_call 76; (with_reducible refine (hdi _ _ _ hA hC).mono ?_); rintro eE wE ⟨vE, rfl, hE, hbE⟩; replace F := F.below hbE; replace F_0 := F.cell 0 rfl; replace F_1 := F.cell 1 rfl; replace G := G.below hbE; replace G_0 := G.cell 0 rfl; replace G_1 := G.cell 1 rfl; replace H := H.below hbE; replace H_0 := H.cell 0 rfl; replace H_1 := H.cell 1 rfl; (try replace hbb := hbb.below hbE); (try replace hG := hG.below hbE); (try replace hH := hH.below hbE); (try replace R := R.below hbE); replace hb := hb.trans (hbE.mono hb.size)))
    obtain ⟨AE, cE, rfl, hcE⟩ := hE.form
    obtain ⟨sg', Ag', kg', cg', G', hGv'⟩ := id hG
    have G_0' := G'.cell 0 rfl
    have G_1' := G'.cell 1 rfl
    have hle : ∀ W, WholeAt W (.slice A' 2 c') [-3, 1] → Calls Tryz.prog 47 #[.slice A' 2 c'] W (RetInt W 1) := fun W h => lead_whole [-3, 1] (.slice A' 2 c') W h (by decide) (by decide)
    clear F G H F_0 F_1 G_0 G_1 H_0 H_1 hsc hp0 hmu hdi hA hC hB
    go_wp2_with fail
    ((with_reducible refine (hle _ hbb).mono ?_))
    rintro eL wL ⟨vL, rfl, hL, hbL⟩
    obtain ⟨sL, AL, kL, cL, rfl⟩ := hL.form
    replace hbb := hbb.below hbL
    replace hE := hE.below hbL
    replace hG := hG.below hbL
    replace hH := hH.below hbL
    replace R := R.below hbL
    replace G' := G'.below hbL
    replace hb := hb.trans (hbL.mono hb.size)
    have G_0 := G'.cell 0 rfl
    have G_1 := G'.cell 1 rfl
    have G_f0 := G'.free 0
    have G_f1 := G'.free 1
    obtain ⟨hG2, hst⟩ := IntBx.stored (m := 1) ⟨_, _, _, _, G', hGv'.below hbL⟩ hL
    have hH2 := hH.step hst (by omega)
    have R2 : Bx _ w.heap.size [.bool false, .slice none 0 0] 49 := (hst.2.1 w.heap.size (by omega)).trans R
    have hbb2 := hbb.step hst (hbb.off hG (by decide))
    have hE2 := hE.step hst (hE.off hG (by decide))
    have hb2 := below_step hb hst (by omega)
    clear hst hH R hbb hE hb hG
    go_upto_region 14 with fail
    clear G' G_0 G_1 G_0' G_1' G_f0 G_f1 hGv' hL hle hbL
    generalize (wL.setCell ⟨g6, 0, none⟩ (.bool sL)).setCell ⟨g6, 1, none⟩ (.slice AL kL cL) = wS at *
    obtain ⟨sg2, Ag2, kg2, cg2, G2, hGv2⟩ := id hG2
    obtain ⟨sh2, Ah2, kh2, ch2, H2, hHv2⟩ := id hH2
    have G2_0 := G2.cell 0 rfl
    have G2_1 := G2.cell 1 rfl
    have H2_0 := H2.cell 0 rfl
    have H2_1 := H2.cell 1 rfl
    have hq0 : ∀ W v u, IntAt W v 1 → IntAt W u 1 → Calls Tryz.prog 112 #[v, u, .int .u64 0] W (RetInt W 1) := fun W v u h1 h2 => qop_any 1 1 0 v u W h1 h2 (by decide) (by decide) (by unfold LIM; omega)
    go_wp2_with fail
    ((with_reducible refine (hq0 _ _ _ hGv2 hHv2).mono ?_))
    rintro eP wP ⟨vP, rfl, hP, hbP⟩
    obtain ⟨sP, AP, kP, cP, rfl⟩ := hP.form
    replace hbb2 := hbb2.below hbP
    replace hE2 := hE2.below hbP
    replace hG2 := hG2.below hbP
    replace hH2 := hH2.below hbP
    replace R2 := R2.below hbP
    replace H2 := H2.below hbP
    replace hb2 := hb2.trans (hbP.mono hb2.size)
    replace H2_0 := H2.cell 0 rfl
    replace H2_1 := H2.cell 1 rfl
    have H2_f0 := H2.free 0
    have H2_f1 := H2.free 1
    obtain ⟨hH3, hst⟩ := IntBx.stored (m := 1) ⟨_, _, _, _, H2, hHv2.below hbP⟩ hP
    have hG3 := hG2.step hst (by omega)
    have R3 : Bx _ w.heap.size [.bool false, .slice none 0 0] 49 := (hst.2.1 w.heap.size (by omega)).trans R2
    have hbb3 := hbb2.step hst (hbb2.off hH2 (by decide))
    have hE3 := hE2.step hst (hE2.off hH2 (by decide))
    have hb3 := below_step hb2 hst (by omega)
    clear hst hH2 hG2 R2 hbb2 hE2 hb2 hq0
    go_wp2_with fail
    go_roundg 0
    case rel => exact ⟨[-3, 1], [2], true, 1, 1, A', c', AE, cE, rfl, rfl, rfl, hbb3, hE3, hG3, hH3, R3, .inr ⟨rfl, rfl, rfl, rfl, rfl, rfl⟩, hb3⟩
    case measure => omega
  ·subst e0; subst e1; subst e2; subst e3; subst e4; subst e5
   have hdg : ∀ (B : Option Addr) (d : Nat) (W : World), Calls Tryz.prog 43 #[.slice B 1 d] W fun e w' => e = .returned (.int .i64 0) ∧ W = w' := fun B d W => (degree_any 1 d B W (by decide)).mono (fun e w' h => ⟨h.1, h.2.symm⟩)
   have hdg2 : ∀ (B : Option Addr) (d : Nat) (W : World), Calls Tryz.prog 43 #[.slice B 2 d] W fun e w' => e = .returned (.int .i64 1) ∧ W = w' := fun B d W => (degree_any 2 d B W (by decide)).mono (fun e w' h => ⟨h.1, h.2.symm⟩)
   have n1 : nl (1 : Int).natAbs ≤ 1 := nl_small (by decide)
   have n2 : nl (2 : Int).natAbs ≤ 1 := nl_small (by decide)
   have hw1 : IntKind.u64.wrap 1 = 1 := by decide
   have hle : ∀ W, WholeAt W (.slice A' 1 c') [2] → Calls Tryz.prog 47 #[.slice A' 1 c'] W (RetInt W 2) := fun W h => lead_whole [2] (.slice A' 1 c') W h (by decide) (by decide)
   have hqo : ∀ W v u, IntAt W v 2 → IntAt W u 1 → Calls Tryz.prog 112 #[v, u, .int .u64 1] W (RetInt W 2) := fun W v u h1 h2 => qop_any 2 1 1 v u W h1 h2 (by decide) (by decide) (by unfold LIM; omega)
   obtain ⟨sh, Ah, kh, ch, H, hHv⟩ := id hH
   go_upto_region 17 with (go_at_call 43; (with_reducible refine (hdg _ _ _).mono ?_); rintro eD wD ⟨rfl, rfl⟩)
   have hZ : Below wy.heap.size wy (wy.alloc (.cells #[.bool false, .slice none 0 0] 49)) := (Below.refl _ _).alloc (Nat.le_refl _) _
   have DN := Bx.new wy [.bool false, .slice none 0 0] 49
   have H_0 := H.cell 0 rfl
   have H_1 := H.cell 1 rfl
   have H_lt := H.lt
   have H_l0 := H.lt
   have lt0 := Nat.le_refl wy.heap.size
   go_cut [13] (fun s wx => ∃ gd, s = .pointer (some ⟨gd, 0, none⟩) ∧ wy.heap.size ≤ gd ∧ IntBx wx gd (2) ∧ Below wy.heap.size wy wx)
   case first =>
    go_region_held3 (fun w' => w'.cell? ⟨g6 + 1, 0, none⟩ = some (.bool sh) ∧ w'.cell? ⟨g6 + 1, 1, none⟩ = some (.slice Ah kh ch))
     (first | (exact ⟨H_0, H_1⟩) | (exact ⟨(((Below.refl _ _).alloc (Nat.le_refl _) _).cell (p := ⟨g6 + 1, 0, none⟩) H_lt).trans H_0, (((Below.refl _ _).alloc (Nat.le_refl _) _).cell (p := ⟨g6 + 1, 1, none⟩) H_lt).trans H_1⟩) | (exact ⟨(cell_far _ _ _ _ _ _ (show wy.heap.size ≠ g6 + 1 by omega)).trans ((cell_far _ _ _ _ _ _ (show wy.heap.size ≠ g6 + 1 by omega)).trans H_0), (cell_far _ _ _ _ _ _ (show wy.heap.size ≠ g6 + 1 by omega)).trans ((cell_far _ _ _ _ _ _ (show wy.heap.size ≠ g6 + 1 by omega)).trans H_1)⟩) | (exact ⟨(cell_far _ _ _ _ _ _ (show w7.heap.size ≠ g6 + 1 by omega)).trans ((cell_far _ _ _ _ _ _ (show w7.heap.size ≠ g6 + 1 by omega)).trans H_0), (cell_far _ _ _ _ _ _ (show w7.heap.size ≠ g6 + 1 by omega)).trans ((cell_far _ _ _ _ _ _ (show w7.heap.size ≠ g6 + 1 by omega)).trans H_1)⟩) | (exact ⟨(cell_far _ _ _ _ _ _ (show w8.heap.size ≠ g6 + 1 by omega)).trans ((cell_far _ _ _ _ _ _ (show w8.heap.size ≠ g6 + 1 by omega)).trans H_0), (cell_far _ _ _ _ _ _ (show w8.heap.size ≠ g6 + 1 by omega)).trans ((cell_far _ _ _ _ _ _ (show w8.heap.size ≠ g6 + 1 by omega)).trans H_1)⟩) | go_keep)
     (first
      | (go_at_call 47; (with_reducible refine (hle _ ((hbb).drew)).mono ?_); rintro e7 w7 ⟨v7, rfl, h7, hb7⟩; have T7 : Below wy.heap.size wy w7 := (Below.refl wy.heap.size wy).drew.trans hb7; replace H := H.below T7; replace H_0 := H.cell 0 rfl; replace H_1 := H.cell 1 rfl; replace H_lt := H.lt; (try replace hHv := hHv.below T7); have l7 := T7.size; have TT := T7; obtain ⟨s7, A7, k7, c7, rfl⟩ := h7.form)
      | (go_at_call 47; (with_reducible refine (hle _ (((hbb).below hZ).drew)).mono ?_); rintro e7 w7 ⟨v7, rfl, h7, hb7⟩; have T7 : Below wy.heap.size wy w7 := hZ.drew.trans (hb7.mono hZ.size); have D := DN.drew.below hb7; replace H := H.below T7; replace H_0 := H.cell 0 rfl; replace H_1 := H.cell 1 rfl; replace H_lt := H.lt; (try replace hHv := hHv.below T7); have l7 := T7.size; have TT := T7; obtain ⟨s7, A7, k7, c7, rfl⟩ := h7.form)
      | (go_at_call 112; (with_reducible refine (hqo _ _ _ (h7) (hHv)).mono ?_); rintro e8 w8 ⟨v8, rfl, h8, hb8⟩; have T8 : Below w7.heap.size w7 w8 := hb8; (try replace D := D.below hb8); replace H := H.below T8; replace H_0 := H.cell 0 rfl; replace H_1 := H.cell 1 rfl; replace H_lt := H.lt; (try replace hHv := hHv.below T8); have l8 := T8.size; replace TT := TT.trans (T8.mono TT.size); obtain ⟨s8, A8, k8, c8, rfl⟩ := h8.form; (try have D_0 := D.cell 0 rfl); (try have D_1 := D.cell 1 rfl); (try have D_f0 := D.free 0); (try have D_f1 := D.free 1))
      | (go_at_call 112; (with_reducible refine (hqo _ _ _ ((h7).below ((Below.refl w7.heap.size w7).alloc (Nat.le_refl _) (.cells #[.bool false, .slice none 0 0] 49))) ((hHv).below ((Below.refl w7.heap.size w7).alloc (Nat.le_refl _) (.cells #[.bool false, .slice none 0 0] 49)))).mono ?_); rintro e8 w8 ⟨v8, rfl, h8, hb8⟩; have T8 : Below w7.heap.size w7 w8 := ((Below.refl w7.heap.size w7).alloc (Nat.le_refl _) (.cells #[.bool false, .slice none 0 0] 49)).trans (hb8.mono ((Below.refl w7.heap.size w7).alloc (Nat.le_refl _) (.cells #[.bool false, .slice none 0 0] 49)).size); have D := (Bx.new w7 [.bool false, .slice none 0 0] 49).below hb8; replace H := H.below T8; replace H_0 := H.cell 0 rfl; replace H_1 := H.cell 1 rfl; replace H_lt := H.lt; (try replace hHv := hHv.below T8); have l8 := T8.size; replace TT := TT.trans (T8.mono TT.size); obtain ⟨s8, A8, k8, c8, rfl⟩ := h8.form; (try have D_0 := D.cell 0 rfl); (try have D_1 := D.cell 1 rfl); (try have D_f0 := D.free 0); (try have D_f1 := D.free 1))
      | (go_at_call 43; (with_reducible refine (hdg2 _ _ _).mono ?_); rintro eD wD ⟨rfl, rfl⟩))
    all_goals (
     go_wp2_with fail
     go_meet
     first
      | exact ⟨_, rfl, by omega, (IntBx.stored (m := 0) ⟨_, _, _, _, D, IntAt.zero _⟩ h8).1, below_step TT (IntBx.stored (m := 0) ⟨_, _, _, _, D, IntAt.zero _⟩ h8).2 (by omega)⟩
      | exact ⟨_, rfl, by omega, ⟨_, _, _, _, Bx.new w8 [.bool s8, .slice A8 k8 c8] 49, h8.keep (Keep.alloc _ _)⟩, TT.alloc TT.size _⟩)
   case rest =>
    obtain ⟨gf, rfl, hgf, hF, hbf⟩ := hcut
    replace R := R.below hbf
    replace hb := hb.trans (hbf.mono hb.size)
    obtain ⟨sf, Af, kf, cf', F, hFv⟩ := hF
    have F_0 := F.cell 0 rfl
    have F_1 := F.cell 1 rfl
    clear hle hqo H hHv hZ DN H_0 H_1 H_lt H_l0 hbf ha hbb hG hH hdg hdg2
    go_wp2_with fail
    ((with_reducible refine (neg_any 2 _ _ hFv (by omega)).mono ?_))
    rintro eN wN ⟨vN, rfl, hN, hbN⟩
    obtain ⟨sN, AN, kN, cN, rfl⟩ := hN.form
    replace R := R.below hbN
    replace hb := hb.trans (hbN.mono hb.size)
    replace R_0 := R.cell 0 rfl
    replace R_f0 := R.free 0
    replace R_1 := R.cell 1 rfl
    replace R_f1 := R.free 1
    go_wp2_with fail
    obtain ⟨z0, z1, -, hbz, hk⟩ := int_stored (s := sN) (u := .slice AN kN cN) hb (by omega) R
    have hz := hN.keep hk
    generalize (wN.setCell ⟨w.heap.size, 0, none⟩ (.bool sN)).setCell ⟨w.heap.size, 1, none⟩ (.slice AN kN cN) = W6 at *
    exact bodyPost_ret (v := .agg #[.bool sN, .slice AN kN cN]) (by simp [results, Tryz.results79, go_sem, z0, z1]) rfl ⟨_, rfl, hz, hbz⟩
theorem gcd_one_ex {D : Int} (hD : 0 < D) (x : Int) : (gcdAll [x * D, D] : Int) = D := by
 rw [gcdAll_cons, gcdAll_cons, gcdAll_nil, Nat.gcd_zero_left, Int.natAbs_mul, Nat.gcd_comm, Nat.gcd_mul_left_left]
 omega
theorem div_ex {D : Int} (hD : 0 < D) (x : Int) : divL [x * D, D] D = [x, 1] := by
 unfold divL
 show [(x * D).tdiv D, D.tdiv D] = [x, 1]
 rw [Int.mul_tdiv_cancel _ (by omega), Int.tdiv_self (by omega)]
theorem frac_self {D : Int} (hD : 0 < D) : (D : Rat) / (D : Rat) = ((1 : Int) : Rat) := by
 have h : (D : Rat) ≠ 0 := fun e => (show D ≠ 0 by omega) (Rat.intCast_inj.1 e)
 rw [Rat.div_def, Rat.mul_inv_cancel _ h]
 rfl
set_option maxRecDepth 100000 in
theorem resultant_ex (D E : Int) (hD0 : 0 < D) (hE0 : 0 < E) (hDk : nl D.natAbs ≤ 1000) (hEk : nl E.natAbs ≤ 1000) (va vb vd ve : Value) (w : World) (hG : Glob w) (ha : WholeAt w va [-1 * D, D]) (hb' : WholeAt w vb [-3 * E, E]) (hd : IntAt w vd D) (he : IntAt w ve E) :
  Calls Tryz.prog 49 #[va, vb, vd, ve] w (RetRat w ((-2 : Int) : Rat)) := by
 obtain ⟨A, c, rfl, hc⟩ := ha.form
 obtain ⟨A', c', rfl, hc'⟩ := hb'.form
 replace ha : WholeAt w (.slice A 2 c) [-1 * D, D] := ha
 replace hb' : WholeAt w (.slice A' 2 c') [-3 * E, E] := hb'
 obtain ⟨sd, Ad, kd, cd, rfl⟩ := hd.form
 obtain ⟨se, Ae, ke, ce, rfl⟩ := he.form
 have n1 : nl (1 : Int).natAbs ≤ 1 := nl_small (by decide)
 have n2 : nl (-2 : Int).natAbs ≤ 1 := nl_small (by decide)
 have n3 : nl (-1 : Int).natAbs ≤ 1 := nl_small (by decide)
 have n4 : nl (-3 : Int).natAbs ≤ 1 := nl_small (by decide)
 have kA : ∀ n ∈ [-1 * D, D], nl n.natAbs ≤ 1001 := fun n hn => by
  simp only [List.mem_cons, List.not_mem_nil, or_false] at hn
  rcases hn with rfl | rfl
  ·exact Nat.le_trans (nl_mul_int _ _ _ _ n3 hDk) (by decide)
  ·omega
 have kB : ∀ n ∈ [-3 * E, E], nl n.natAbs ≤ 1001 := fun n hn => by
  simp only [List.mem_cons, List.not_mem_nil, or_false] at hn
  rcases hn with rfl | rfl
  ·exact Nat.le_trans (nl_mul_int _ _ _ _ n4 hEk) (by decide)
  ·omega
 have hcA : ∀ W, Glob W → WholeAt W (.slice A 2 c) [-1 * D, D] → Calls Tryz.prog 75 #[.slice A 2 c] W (RetInt W D) := fun W h1 h2 => by
  have := content_whole [-1 * D, D] (.slice A 2 c) W h1 h2 1001 kA (by unfold LIM; decide) (by show 2 ≤ 1099511627776; decide)
  rw [gcd_one_ex hD0] at this
  exact this
 have hcB : ∀ W, Glob W → WholeAt W (.slice A' 2 c') [-3 * E, E] → Calls Tryz.prog 75 #[.slice A' 2 c'] W (RetInt W E) := fun W h1 h2 => by
  have := content_whole [-3 * E, E] (.slice A' 2 c') W h1 h2 1001 kB (by unfold LIM; decide) (by show 2 ≤ 1099511627776; decide)
  rw [gcd_one_ex hE0] at this
  exact this
 have hdA : ∀ W u, WholeAt W (.slice A 2 c) [-1 * D, D] → IntAt W u D → Calls Tryz.prog 76 #[.slice A 2 c, u] W fun e w' => ∃ v', e = .returned v' ∧ WholeAt w' v' [-1, 1] ∧ Below W.heap.size W w' := fun W u h1 h2 => by
  have := divide_whole [-1 * D, D] D (.slice A 2 c) u W h1 h2 (fun _ => by omega) 1001 kA (by omega) (by unfold LIM; decide) (by show 2 ≤ 1099511627776; decide)
  rw [div_ex hD0] at this
  exact this
 have hdB : ∀ W u, WholeAt W (.slice A' 2 c') [-3 * E, E] → IntAt W u E → Calls Tryz.prog 76 #[.slice A' 2 c', u] W fun e w' => ∃ v', e = .returned v' ∧ WholeAt w' v' [-3, 1] ∧ Below W.heap.size W w' := fun W u h1 h2 => by
  have := divide_whole [-3 * E, E] E (.slice A' 2 c') u W h1 h2 (fun _ => by omega) 1001 kB (by omega) (by unfold LIM; decide) (by show 2 ≤ 1099511627776; decide)
  rw [div_ex hE0] at this
  exact this
 have hfD : ∀ W v u, Glob W → IntAt W v D → IntAt W u D → Calls Tryz.prog 58 #[v, u] W (RetRat W ((1 : Int) : Rat)) := fun W v u hG h1 h2 => by
  have := fraction_any D D v u W hG h1 h2 1000 hDk hDk (by unfold LIM; decide)
  rw [frac_self hD0] at this
  exact this
 have hfE : ∀ W v u, Glob W → IntAt W v E → IntAt W u E → Calls Tryz.prog 58 #[v, u] W (RetRat W ((1 : Int) : Rat)) := fun W v u hG h1 h2 => by
  have := fraction_any E E v u W hG h1 h2 1000 hEk hEk (by unfold LIM; decide)
  rw [frac_self hE0] at this
  exact this
 have hpo : ∀ W v, RatAt W v ((1 : Int) : Rat) → Calls Tryz.prog 77 #[v, .int .u64 1] W (RetRat W ((1 : Int) : Rat)) := fun W v h => ratPow_int 1 1 v W h (by decide) (by unfold LIM; omega)
 have hm1 : ∀ W v u, RatAt W v ((1 : Int) : Rat) → RatAt W u ((1 : Int) : Rat) → Calls Tryz.prog 78 #[v, u] W (RetRat W ((1 : Int) : Rat)) := fun W v u h1 h2 => ratMul_int 1 1 v u W h1 h2 (by omega)
 have hm2 : ∀ W v u, RatAt W v ((1 : Int) : Rat) → RatAt W u ((-2 : Int) : Rat) → Calls Tryz.prog 78 #[v, u] W (RetRat W ((-2 : Int) : Rat)) := fun W v u h1 h2 => ratMul_int 1 (-2) v u W h1 h2 (by omega)
 have hdg : ∀ (B : Option Addr) (d : Nat) (W : World), Calls Tryz.prog 43 #[.slice B 2 d] W fun e w' => e = .returned (.int .i64 1) ∧ W = w' := fun B d W => (degree_any 2 d B W (by decide)).mono (fun e w' h => ⟨h.1, h.2.symm⟩)
 have hdgB : ∀ (B : Option Addr) (d : Nat) (W : World), Calls Tryz.prog 43 #[.slice B 2 d] W fun e w' => e = .returned (.int .i64 1) ∧ Below W.heap.size W w' := fun B d W => (degree_any 2 d B W (by decide)).mono (fun e w' h => ⟨h.1, by rw [h.2]; exact Below.refl _ _⟩)
 have hw1 : IntKind.u64.wrap 1 = 1 := by decide
 have B1 : Bx (((w.alloc (.cells #[.bool sd, .slice Ad kd cd] 49)).alloc (.cells #[.bool se, .slice Ae ke ce] 49)).alloc (.cells #[.bool false, .slice none 0 0, .bool false, .slice none 0 0] 71)) (w.heap.size) [.bool sd, .slice Ad kd cd] 49 := ((Bx.newAt w [.bool sd, .slice Ad kd cd] 49 (w.heap.size) (by simp)).alloc (.cells #[.bool se, .slice Ae ke ce] 49)).alloc (.cells #[.bool false, .slice none 0 0, .bool false, .slice none 0 0] 71)
 have B2 : Bx (((w.alloc (.cells #[.bool sd, .slice Ad kd cd] 49)).alloc (.cells #[.bool se, .slice Ae ke ce] 49)).alloc (.cells #[.bool false, .slice none 0 0, .bool false, .slice none 0 0] 71)) (w.heap.size + 1) [.bool se, .slice Ae ke ce] 49 := (Bx.newAt (w.alloc (.cells #[.bool sd, .slice Ad kd cd] 49)) [.bool se, .slice Ae ke ce] 49 (w.heap.size + 1) (by simp)).alloc (.cells #[.bool false, .slice none 0 0, .bool false, .slice none 0 0] 71)
 have R : Bx (((w.alloc (.cells #[.bool sd, .slice Ad kd cd] 49)).alloc (.cells #[.bool se, .slice Ae ke ce] 49)).alloc (.cells #[.bool false, .slice none 0 0, .bool false, .slice none 0 0] 71)) (w.heap.size + 1 + 1) [.bool false, .slice none 0 0, .bool false, .slice none 0 0] 71 := Bx.newAt ((w.alloc (.cells #[.bool sd, .slice Ad kd cd] 49)).alloc (.cells #[.bool se, .slice Ae ke ce] 49)) [.bool false, .slice none 0 0, .bool false, .slice none 0 0] 71 (w.heap.size + 1 + 1) (by simp)
 have hb : Below w.heap.size w (((w.alloc (.cells #[.bool sd, .slice Ad kd cd] 49)).alloc (.cells #[.bool se, .slice Ae ke ce] 49)).alloc (.cells #[.bool false, .slice none 0 0, .bool false, .slice none 0 0] 71)) := (((Below.refl _ _).alloc (by simp) _).alloc (by simp <;> omega) _).alloc (by simp <;> omega) _
 go_enter Tryz.func49, Tryz.ntmps49
 go_wp2_with fail
 generalize ((w.alloc (.cells #[.bool sd, .slice Ad kd cd] 49)).alloc (.cells #[.bool se, .slice Ae ke ce] 49)).alloc (.cells #[.bool false, .slice none 0 0, .bool false, .slice none 0 0] 71) = W at *
 replace hd := hd.below hb
 replace he := he.below hb
 ((with_reducible refine (hcA _ (hG.below hb) (ha.below hb)).mono ?_))
 rintro e1 w1 ⟨v1, rfl, h1, hb1⟩
 obtain ⟨s1, A1, k1, c1, rfl⟩ := h1.form
 replace B1 := B1.below hb1
 replace B1_0 := B1.cell 0 rfl
 replace B1_1 := B1.cell 1 rfl
 replace B2 := B2.below hb1
 replace B2_0 := B2.cell 0 rfl
 replace B2_1 := B2.cell 1 rfl
 replace R := R.below hb1
 replace R_0 := R.cell 0 rfl
 replace R_f0 := R.free 0
 replace R_1 := R.cell 1 rfl
 replace R_f1 := R.free 1
 replace R_2 := R.cell 2 rfl
 replace R_f2 := R.free 2
 replace R_3 := R.cell 3 rfl
 replace R_f3 := R.free 3
 replace hk := Keep.below hb1
 replace hd := hd.keep hk
 replace he := he.keep hk
 replace hb := hb.trans (hb1.mono hb.size)
 go_wp2_with fail
 ((with_reducible refine (hcB _ (hG.below hb) (hb'.below hb)).mono ?_))
 rintro e2 w2 ⟨v2, rfl, h2, hb2⟩
 obtain ⟨s2, A2, k2, c2, rfl⟩ := h2.form
 replace B1 := B1.below hb2
 replace B1_0 := B1.cell 0 rfl
 replace B1_1 := B1.cell 1 rfl
 replace B2 := B2.below hb2
 replace B2_0 := B2.cell 0 rfl
 replace B2_1 := B2.cell 1 rfl
 replace R := R.below hb2
 replace R_0 := R.cell 0 rfl
 replace R_f0 := R.free 0
 replace R_1 := R.cell 1 rfl
 replace R_f1 := R.free 1
 replace R_2 := R.cell 2 rfl
 replace R_f2 := R.free 2
 replace R_3 := R.cell 3 rfl
 replace R_f3 := R.free 3
 replace hk := Keep.below hb2
 replace hd := hd.keep hk
 replace he := he.keep hk
 replace h1 := h1.keep hk
 replace hb := hb.trans (hb2.mono hb.size)
 have B1_c20 : ∀ o0 o1 : Obj, ((w2.alloc o0).alloc o1).cell? ⟨w.heap.size, 0, none⟩ = some (.bool sd) := fun o0 o1 => ((B1.alloc o0).alloc o1).cell 0 rfl
 have B1_g20 : ∀ o0 o1 : Obj, ((w2.alloc o0).alloc o1).frozen? ⟨w.heap.size, 0, none⟩ = false := fun o0 o1 => ((B1.alloc o0).alloc o1).free 0
 have B1_c21 : ∀ o0 o1 : Obj, ((w2.alloc o0).alloc o1).cell? ⟨w.heap.size, 1, none⟩ = some (.slice Ad kd cd) := fun o0 o1 => ((B1.alloc o0).alloc o1).cell 1 rfl
 have B1_g21 : ∀ o0 o1 : Obj, ((w2.alloc o0).alloc o1).frozen? ⟨w.heap.size, 1, none⟩ = false := fun o0 o1 => ((B1.alloc o0).alloc o1).free 1
 go_wp2_with fail
 have B1_ltw2 := B1.lt
 have B2_ltw2 := B2.lt
 have R_ltw2 := R.lt
 have hszw2 := hb.size
 replace B1 := B1.alloc (.cells #[.bool s1, .slice A1 k1 c1] 49)
 replace B2 := B2.alloc (.cells #[.bool s1, .slice A1 k1 c1] 49)
 replace R := R.alloc (.cells #[.bool s1, .slice A1 k1 c1] 49)
 have C1 := Bx.newAt w2 [.bool s1, .slice A1 k1 c1] 49 (w2.heap.size) (by simp)
 replace hb := hb.alloc hb.size (.cells #[.bool s1, .slice A1 k1 c1] 49)
 replace hk := Keep.alloc w2 (.cells #[.bool s1, .slice A1 k1 c1] 49)
 replace hd := hd.keep hk
 replace he := he.keep hk
 replace h1 := h1.keep hk
 replace h2 := h2.keep hk
 replace B1 := B1.alloc (.cells #[.bool s2, .slice A2 k2 c2] 49)
 replace B2 := B2.alloc (.cells #[.bool s2, .slice A2 k2 c2] 49)
 replace R := R.alloc (.cells #[.bool s2, .slice A2 k2 c2] 49)
 replace C1 := C1.alloc (.cells #[.bool s2, .slice A2 k2 c2] 49)
 have C2 := Bx.newAt (w2.alloc (.cells #[.bool s1, .slice A1 k1 c1] 49)) [.bool s2, .slice A2 k2 c2] 49 (w2.heap.size + 1) (by simp)
 replace hb := hb.alloc hb.size (.cells #[.bool s2, .slice A2 k2 c2] 49)
 replace hk := Keep.alloc (w2.alloc (.cells #[.bool s1, .slice A1 k1 c1] 49)) (.cells #[.bool s2, .slice A2 k2 c2] 49)
 replace hd := hd.keep hk
 replace he := he.keep hk
 replace h1 := h1.keep hk
 replace h2 := h2.keep hk
 generalize (w2.alloc (.cells #[.bool s1, .slice A1 k1 c1] 49)).alloc (.cells #[.bool s2, .slice A2 k2 c2] 49) = w3 at *
 replace B1_0 := B1.cell 0 rfl
 replace B1_1 := B1.cell 1 rfl
 replace B2_0 := B2.cell 0 rfl
 replace B2_1 := B2.cell 1 rfl
 replace R_0 := R.cell 0 rfl
 replace R_f0 := R.free 0
 replace R_1 := R.cell 1 rfl
 replace R_f1 := R.free 1
 replace R_2 := R.cell 2 rfl
 replace R_f2 := R.free 2
 replace R_3 := R.cell 3 rfl
 replace R_f3 := R.free 3
 replace C1_0 := C1.cell 0 rfl
 replace C1_1 := C1.cell 1 rfl
 replace C2_0 := C2.cell 0 rfl
 replace C2_1 := C2.cell 1 rfl
 clear B1_c20 B1_c21 B1_g20 B1_g21
 ((with_reducible refine (hfD _ _ _ (hG.below hb) h1 hd).mono ?_))
 rintro e4 w4 ⟨v4, rfl, h4, hb4⟩
 replace B1 := B1.below hb4
 replace B1_0 := B1.cell 0 rfl
 replace B1_1 := B1.cell 1 rfl
 replace B2 := B2.below hb4
 replace B2_0 := B2.cell 0 rfl
 replace B2_1 := B2.cell 1 rfl
 replace R := R.below hb4
 replace R_0 := R.cell 0 rfl
 replace R_f0 := R.free 0
 replace R_1 := R.cell 1 rfl
 replace R_f1 := R.free 1
 replace R_2 := R.cell 2 rfl
 replace R_f2 := R.free 2
 replace R_3 := R.cell 3 rfl
 replace R_f3 := R.free 3
 replace C1 := C1.below hb4
 replace C1_0 := C1.cell 0 rfl
 replace C1_1 := C1.cell 1 rfl
 replace C2 := C2.below hb4
 replace C2_0 := C2.cell 0 rfl
 replace C2_1 := C2.cell 1 rfl
 replace hk := Keep.below hb4
 replace hd := hd.keep hk
 replace he := he.keep hk
 replace h1 := h1.keep hk
 replace h2 := h2.keep hk
 replace hb := hb.trans (hb4.mono hb.size)
 go_wp2_with (go_at_call 43; (with_reducible refine (hdg _ _ _).mono ?_); rintro eD wD ⟨rfl, rfl⟩)
 ((with_reducible refine (hpo _ _ h4).mono ?_))
 rintro e5 w5 ⟨v5, rfl, h5, hb5⟩
 replace B1 := B1.below hb5
 replace B1_0 := B1.cell 0 rfl
 replace B1_1 := B1.cell 1 rfl
 replace B2 := B2.below hb5
 replace B2_0 := B2.cell 0 rfl
 replace B2_1 := B2.cell 1 rfl
 replace R := R.below hb5
 replace R_0 := R.cell 0 rfl
 replace R_f0 := R.free 0
 replace R_1 := R.cell 1 rfl
 replace R_f1 := R.free 1
 replace R_2 := R.cell 2 rfl
 replace R_f2 := R.free 2
 replace R_3 := R.cell 3 rfl
 replace R_f3 := R.free 3
 replace C1 := C1.below hb5
 replace C1_0 := C1.cell 0 rfl
 replace C1_1 := C1.cell 1 rfl
 replace C2 := C2.below hb5
 replace C2_0 := C2.cell 0 rfl
 replace C2_1 := C2.cell 1 rfl
 replace hk := Keep.below hb5
 replace hd := hd.keep hk
 replace he := he.keep hk
 replace h1 := h1.keep hk
 replace h2 := h2.keep hk
 replace hb := hb.trans (hb5.mono hb.size)
 obtain ⟨s5, A5, k5, c5, t5, E5, l5, d5, rfl⟩ := h5.form
 go_upto_region 5 with fail
 have B1_ltw5 := B1.lt
 have B2_ltw5 := B2.lt
 have R_ltw5 := R.lt
 have C1_ltw5 := C1.lt
 have C2_ltw5 := C2.lt
 have hszw5 := hb.size
 replace B1 := B1.alloc (.cells #[.bool s5, .slice A5 k5 c5, .bool t5, .slice E5 l5 d5] 71)
 replace B2 := B2.alloc (.cells #[.bool s5, .slice A5 k5 c5, .bool t5, .slice E5 l5 d5] 71)
 replace R := R.alloc (.cells #[.bool s5, .slice A5 k5 c5, .bool t5, .slice E5 l5 d5] 71)
 replace C1 := C1.alloc (.cells #[.bool s5, .slice A5 k5 c5, .bool t5, .slice E5 l5 d5] 71)
 replace C2 := C2.alloc (.cells #[.bool s5, .slice A5 k5 c5, .bool t5, .slice E5 l5 d5] 71)
 have Fc := Bx.newAt w5 [.bool s5, .slice A5 k5 c5, .bool t5, .slice E5 l5 d5] 71 (w5.heap.size) (by simp)
 replace hb := hb.alloc hb.size (.cells #[.bool s5, .slice A5 k5 c5, .bool t5, .slice E5 l5 d5] 71)
 replace hk := Keep.alloc w5 (.cells #[.bool s5, .slice A5 k5 c5, .bool t5, .slice E5 l5 d5] 71)
 replace hd := hd.keep hk
 replace he := he.keep hk
 replace h1 := h1.keep hk
 replace h2 := h2.keep hk
 replace h5 := h5.keep hk
 generalize w5.alloc (.cells #[.bool s5, .slice A5 k5 c5, .bool t5, .slice E5 l5 d5] 71) = w6 at *
 replace B1_0 := B1.cell 0 rfl
 replace B1_1 := B1.cell 1 rfl
 replace B2_0 := B2.cell 0 rfl
 replace B2_1 := B2.cell 1 rfl
 replace R_0 := R.cell 0 rfl
 replace R_f0 := R.free 0
 replace R_1 := R.cell 1 rfl
 replace R_f1 := R.free 1
 replace R_2 := R.cell 2 rfl
 replace R_f2 := R.free 2
 replace R_3 := R.cell 3 rfl
 replace R_f3 := R.free 3
 replace C1_0 := C1.cell 0 rfl
 replace C1_1 := C1.cell 1 rfl
 replace C2_0 := C2.cell 0 rfl
 replace C2_1 := C2.cell 1 rfl
 replace Fc_0 := Fc.cell 0 rfl
 replace Fc_f0 := Fc.free 0
 replace Fc_1 := Fc.cell 1 rfl
 replace Fc_f1 := Fc.free 1
 replace Fc_2 := Fc.cell 2 rfl
 replace Fc_f2 := Fc.free 2
 replace Fc_3 := Fc.cell 3 rfl
 replace Fc_f3 := Fc.free 3
 go_cut [] (fun wx => ∃ s A k c t E' l d, Bx wx w5.heap.size [.bool s, .slice A k c, .bool t, .slice E' l d] 71 ∧ RatAt wx (.agg #[.bool s, .slice A k c, .bool t, .slice E' l d]) ((1 : Int) : Rat) ∧ Bx wx w2.heap.size [.bool s1, .slice A1 k1 c1] 49 ∧ Bx wx (w2.heap.size + 1) [.bool s2, .slice A2 k2 c2] 49 ∧
  Bx wx (w.heap.size + 1 + 1) [.bool false, .slice none 0 0, .bool false, .slice none 0 0] 71 ∧ IntAt wx (.agg #[.bool s1, .slice A1 k1 c1]) D ∧ IntAt wx (.agg #[.bool s2, .slice A2 k2 c2]) E ∧ Below w.heap.size w wx)
 case first =>
  replace hd := hd.drew
  replace he := he.drew
  replace h1 := h1.drew
  replace h2 := h2.drew
  replace h5 := h5.drew
  replace B1 := B1.drew
  replace B2 := B2.drew
  replace R := R.drew
  replace C1 := C1.drew
  replace C2 := C2.drew
  replace Fc := Fc.drew
  replace hb := hb.drew
  have n_Fc_C2 : w5.heap.size ≠ w2.heap.size + 1 := by omega
  have n_Fc_B2 : w5.heap.size ≠ w.heap.size + 1 := by omega
  go_region_with (first
    | (go_at_call 58; (with_reducible refine (hfE _ _ _ (hG.below hb) h2 he).mono ?_); rintro e7 w7 ⟨v7, rfl, h7, hb7⟩; replace B1 := B1.below hb7; replace B1_0 := B1.cell 0 rfl; replace B1_1 := B1.cell 1 rfl; replace B2 := B2.below hb7; replace B2_0 := B2.cell 0 rfl; replace B2_1 := B2.cell 1 rfl; replace R := R.below hb7; replace R_0 := R.cell 0 rfl; replace R_f0 := R.free 0; replace R_1 := R.cell 1 rfl; replace R_f1 := R.free 1; replace R_2 := R.cell 2 rfl; replace R_f2 := R.free 2; replace R_3 := R.cell 3 rfl; replace R_f3 := R.free 3; replace C1 := C1.below hb7; replace C1_0 := C1.cell 0 rfl; replace C1_1 := C1.cell 1 rfl; replace C2 := C2.below hb7; replace C2_0 := C2.cell 0 rfl; replace C2_1 := C2.cell 1 rfl; replace Fc := Fc.below hb7; replace Fc_0 := Fc.cell 0 rfl; replace Fc_f0 := Fc.free 0; replace Fc_1 := Fc.cell 1 rfl; replace Fc_f1 := Fc.free 1; replace Fc_2 := Fc.cell 2 rfl; replace Fc_f2 := Fc.free 2; replace Fc_3 := Fc.cell 3 rfl; replace Fc_f3 := Fc.free 3; replace hk := Keep.below hb7; replace hd := hd.keep hk; replace he := he.keep hk; replace h1 := h1.keep hk; replace h2 := h2.keep hk; replace h5 := h5.keep hk; (try replace h8 := h8.keep hk); (try replace h9 := h9.keep hk); (try replace h0 := h0.keep hk); replace hb := hb.trans (hb7.mono hb.size))
    | (go_at_call 43; (with_reducible refine (hdgB _ _ _).mono ?_); rintro e8 w8 ⟨rfl, hb8⟩; replace B1 := B1.below hb8; replace B1_0 := B1.cell 0 rfl; replace B1_1 := B1.cell 1 rfl; replace B2 := B2.below hb8; replace B2_0 := B2.cell 0 rfl; replace B2_1 := B2.cell 1 rfl; replace R := R.below hb8; replace R_0 := R.cell 0 rfl; replace R_f0 := R.free 0; replace R_1 := R.cell 1 rfl; replace R_f1 := R.free 1; replace R_2 := R.cell 2 rfl; replace R_f2 := R.free 2; replace R_3 := R.cell 3 rfl; replace R_f3 := R.free 3; replace C1 := C1.below hb8; replace C1_0 := C1.cell 0 rfl; replace C1_1 := C1.cell 1 rfl; replace C2 := C2.below hb8; replace C2_0 := C2.cell 0 rfl; replace C2_1 := C2.cell 1 rfl; replace Fc := Fc.below hb8; replace Fc_0 := Fc.cell 0 rfl; replace Fc_f0 := Fc.free 0; replace Fc_1 := Fc.cell 1 rfl; replace Fc_f1 := Fc.free 1; replace Fc_2 := Fc.cell 2 rfl; replace Fc_f2 := Fc.free 2; replace Fc_3 := Fc.cell 3 rfl; replace Fc_f3 := Fc.free 3; replace hk := Keep.below hb8; replace hd := hd.keep hk; replace he := he.keep hk; replace h1 := h1.keep hk; replace h2 := h2.keep hk; replace h5 := h5.keep hk; (try replace h7 := h7.keep hk); (try replace h9 := h9.keep hk); (try replace h0 := h0.keep hk); replace hb := hb.trans (hb8.mono hb.size))
    | (go_at_call 77; (with_reducible refine (hpo _ _ h7).mono ?_); rintro e9 w9 ⟨v9, rfl, h9, hb9⟩; replace B1 := B1.below hb9; replace B1_0 := B1.cell 0 rfl; replace B1_1 := B1.cell 1 rfl; replace B2 := B2.below hb9; replace B2_0 := B2.cell 0 rfl; replace B2_1 := B2.cell 1 rfl; replace R := R.below hb9; replace R_0 := R.cell 0 rfl; replace R_f0 := R.free 0; replace R_1 := R.cell 1 rfl; replace R_f1 := R.free 1; replace R_2 := R.cell 2 rfl; replace R_f2 := R.free 2; replace R_3 := R.cell 3 rfl; replace R_f3 := R.free 3; replace C1 := C1.below hb9; replace C1_0 := C1.cell 0 rfl; replace C1_1 := C1.cell 1 rfl; replace C2 := C2.below hb9; replace C2_0 := C2.cell 0 rfl; replace C2_1 := C2.cell 1 rfl; replace Fc := Fc.below hb9; replace Fc_0 := Fc.cell 0 rfl; replace Fc_f0 := Fc.free 0; replace Fc_1 := Fc.cell 1 rfl; replace Fc_f1 := Fc.free 1; replace Fc_2 := Fc.cell 2 rfl; replace Fc_f2 := Fc.free 2; replace Fc_3 := Fc.cell 3 rfl; replace Fc_f3 := Fc.free 3; replace hk := Keep.below hb9; replace hd := hd.keep hk; replace he := he.keep hk; replace h1 := h1.keep hk; replace h2 := h2.keep hk; replace h5 := h5.keep hk; (try replace h7 := h7.keep hk); (try replace h8 := h8.keep hk); (try replace h0 := h0.keep hk); replace hb := hb.trans (hb9.mono hb.size))
    | (go_at_call 78; (with_reducible refine (hm1 _ _ _ h5 h9).mono ?_); rintro e0 w0 ⟨v0, rfl, h0, hb0⟩; obtain ⟨s0, A0, k0, c0, t0, E0, l0, d0, rfl⟩ := h0.form; replace B1 := B1.below hb0; replace B1_0 := B1.cell 0 rfl; replace B1_1 := B1.cell 1 rfl; replace B2 := B2.below hb0; replace B2_0 := B2.cell 0 rfl; replace B2_1 := B2.cell 1 rfl; replace R := R.below hb0; replace R_0 := R.cell 0 rfl; replace R_f0 := R.free 0; replace R_1 := R.cell 1 rfl; replace R_f1 := R.free 1; replace R_2 := R.cell 2 rfl; replace R_f2 := R.free 2; replace R_3 := R.cell 3 rfl; replace R_f3 := R.free 3; replace C1 := C1.below hb0; replace C1_0 := C1.cell 0 rfl; replace C1_1 := C1.cell 1 rfl; replace C2 := C2.below hb0; replace C2_0 := C2.cell 0 rfl; replace C2_1 := C2.cell 1 rfl; replace Fc := Fc.below hb0; replace Fc_0 := Fc.cell 0 rfl; replace Fc_f0 := Fc.free 0; replace Fc_1 := Fc.cell 1 rfl; replace Fc_f1 := Fc.free 1; replace Fc_2 := Fc.cell 2 rfl; replace Fc_f2 := Fc.free 2; replace Fc_3 := Fc.cell 3 rfl; replace Fc_f3 := Fc.free 3; replace hk := Keep.below hb0; replace hd := hd.keep hk; replace he := he.keep hk; replace h1 := h1.keep hk; replace h2 := h2.keep hk; replace h5 := h5.keep hk; (try replace h7 := h7.keep hk); (try replace h8 := h8.keep hk); (try replace h9 := h9.keep hk); replace hb := hb.trans (hb0.mono hb.size)))
  all_goals (
   go_wp2_with fail
   have B1_ltw0 := B1.lt
   have B2_ltw0 := B2.lt
   have R_ltw0 := R.lt
   have C1_ltw0 := C1.lt
   have C2_ltw0 := C2.lt
   have Fc_ltw0 := Fc.lt
   have hszw0 := hb.size
   replace B1 := ((((B1.far 0 (.bool s0) (show w5.heap.size ≠ w.heap.size by omega)).far 1 (.slice A0 k0 c0) (show w5.heap.size ≠ w.heap.size by omega)).far 2 (.bool t0) (show w5.heap.size ≠ w.heap.size by omega)).far 3 (.slice E0 l0 d0) (show w5.heap.size ≠ w.heap.size by omega))
   replace B2 := ((((B2.far 0 (.bool s0) (show w5.heap.size ≠ w.heap.size + 1 by omega)).far 1 (.slice A0 k0 c0) (show w5.heap.size ≠ w.heap.size + 1 by omega)).far 2 (.bool t0) (show w5.heap.size ≠ w.heap.size + 1 by omega)).far 3 (.slice E0 l0 d0) (show w5.heap.size ≠ w.heap.size + 1 by omega))
   replace R := ((((R.far 0 (.bool s0) (show w5.heap.size ≠ w.heap.size + 1 + 1 by omega)).far 1 (.slice A0 k0 c0) (show w5.heap.size ≠ w.heap.size + 1 + 1 by omega)).far 2 (.bool t0) (show w5.heap.size ≠ w.heap.size + 1 + 1 by omega)).far 3 (.slice E0 l0 d0) (show w5.heap.size ≠ w.heap.size + 1 + 1 by omega))
   replace C1 := ((((C1.far 0 (.bool s0) (show w5.heap.size ≠ w2.heap.size by omega)).far 1 (.slice A0 k0 c0) (show w5.heap.size ≠ w2.heap.size by omega)).far 2 (.bool t0) (show w5.heap.size ≠ w2.heap.size by omega)).far 3 (.slice E0 l0 d0) (show w5.heap.size ≠ w2.heap.size by omega))
   replace C2 := ((((C2.far 0 (.bool s0) (show w5.heap.size ≠ w2.heap.size + 1 by omega)).far 1 (.slice A0 k0 c0) (show w5.heap.size ≠ w2.heap.size + 1 by omega)).far 2 (.bool t0) (show w5.heap.size ≠ w2.heap.size + 1 by omega)).far 3 (.slice E0 l0 d0) (show w5.heap.size ≠ w2.heap.size + 1 by omega))
   replace hk := rat_stored (v0 := .bool s0) (v1 := .slice A0 k0 c0) (v2 := .bool t0) (v3 := .slice E0 l0 d0) hb (by omega) Fc
   clear Fc hb
   obtain ⟨Fc, hb, hk⟩ := hk
   replace h1 := h1.keep hk
   replace h2 := h2.keep hk
   replace h0 := h0.keep hk
   generalize (((w0.setCell ⟨w5.heap.size, 0, none⟩ (.bool s0)).setCell ⟨w5.heap.size, 1, none⟩ (.slice A0 k0 c0)).setCell ⟨w5.heap.size, 2, none⟩ (.bool t0)).setCell ⟨w5.heap.size, 3, none⟩ (.slice E0 l0 d0) = W6 at *
   replace B1_0 := B1.cell 0 rfl
   replace B1_1 := B1.cell 1 rfl
   replace B2_0 := B2.cell 0 rfl
   replace B2_1 := B2.cell 1 rfl
   replace R_0 := R.cell 0 rfl
   replace R_1 := R.cell 1 rfl
   replace R_2 := R.cell 2 rfl
   replace R_3 := R.cell 3 rfl
   replace C1_0 := C1.cell 0 rfl
   replace C1_1 := C1.cell 1 rfl
   replace C2_0 := C2.cell 0 rfl
   replace C2_1 := C2.cell 1 rfl
   replace Fc_0 := Fc.cell 0 rfl
   replace Fc_1 := Fc.cell 1 rfl
   replace Fc_2 := Fc.cell 2 rfl
   replace Fc_3 := Fc.cell 3 rfl
   go_meet
   exact ⟨s0, A0, k0, c0, t0, E0, l0, d0, Fc, h0, C1, C2, R, h1, h2, hb⟩)
 case rest =>
  clear hd he h1 h2 h5 B1 B2 R C1 C2 Fc hb hk hfD hfE hpo hm1 hdg hdgB
  obtain ⟨s0, A0, k0, c0, t0, E0, l0, d0, Fc, h0, C1, C2, R, h1, h2, hb⟩ := hcut
  have haW := ha.below hb
  have hbW := hb'.below hb
  have hsu := fun W v u h1 h2 => subres_ex v u W h1 h2
  clear ha hb'
  go_upto_region 6 with fail
  have hZ : Below wc.heap.size wc (wc.alloc (.cells #[.bool false, .slice none 0 0] 49)) := (Below.refl _ _).alloc (Nat.le_refl _) _
  have DN := Bx.new wc [.bool false, .slice none 0 0] 49
  have C1_l0 := C1.lt
  have C1_o := C1
  replace C1 := C1.drew
  have C1_0 := C1.cell 0 rfl
  have C1_1 := C1.cell 1 rfl
  have C1_lt := C1.lt
  have C2_l0 := C2.lt
  have C2_o := C2
  replace C2 := C2.drew
  have C2_0 := C2.cell 0 rfl
  have C2_1 := C2.cell 1 rfl
  have C2_lt := C2.lt
  have haW_o := haW
  replace haW := haW.drew
  have hbW_o := hbW
  replace hbW := hbW.drew
  have h1_o := h1
  replace h1 := h1.drew
  have h2_o := h2
  replace h2 := h2.drew
  have TT := (Below.refl wc.heap.size wc).drew
  go_cut [12] (fun s wx => ∃ gd, s = .pointer (some ⟨gd, 0, none⟩) ∧ wc.heap.size ≤ gd ∧ IntBx wx gd (-2) ∧ Below wc.heap.size wc wx)
  case first =>
   go_region_held3 (fun w' => w'.cell? ⟨w2.heap.size, 0, none⟩ = some (.bool s1) ∧ w'.cell? ⟨w2.heap.size, 1, none⟩ = some (.slice A1 k1 c1) ∧ w'.cell? ⟨w2.heap.size + 1, 0, none⟩ = some (.bool s2) ∧ w'.cell? ⟨w2.heap.size + 1, 1, none⟩ = some (.slice A2 k2 c2))
    (first | (exact ⟨C1_0, C1_1, C2_0, C2_1⟩) | (exact ⟨(((Below.refl _ _).alloc (Nat.le_refl _) _).cell (p := ⟨w2.heap.size, 0, none⟩) C1_lt).trans C1_0, (((Below.refl _ _).alloc (Nat.le_refl _) _).cell (p := ⟨w2.heap.size, 1, none⟩) C1_lt).trans C1_1, (((Below.refl _ _).alloc (Nat.le_refl _) _).cell (p := ⟨w2.heap.size + 1, 0, none⟩) C2_lt).trans C2_0, (((Below.refl _ _).alloc (Nat.le_refl _) _).cell (p := ⟨w2.heap.size + 1, 1, none⟩) C2_lt).trans C2_1⟩) | (exact ⟨(cell_far _ _ _ _ _ _ (show wc.heap.size ≠ w2.heap.size by omega)).trans ((cell_far _ _ _ _ _ _ (show wc.heap.size ≠ w2.heap.size by omega)).trans C1_0), (cell_far _ _ _ _ _ _ (show wc.heap.size ≠ w2.heap.size by omega)).trans ((cell_far _ _ _ _ _ _ (show wc.heap.size ≠ w2.heap.size by omega)).trans C1_1), (cell_far _ _ _ _ _ _ (show wc.heap.size ≠ w2.heap.size + 1 by omega)).trans ((cell_far _ _ _ _ _ _ (show wc.heap.size ≠ w2.heap.size + 1 by omega)).trans C2_0), (cell_far _ _ _ _ _ _ (show wc.heap.size ≠ w2.heap.size + 1 by omega)).trans ((cell_far _ _ _ _ _ _ (show wc.heap.size ≠ w2.heap.size + 1 by omega)).trans C2_1)⟩) | (exact ⟨(cell_far _ _ _ _ _ _ (show w4.heap.size ≠ w2.heap.size by omega)).trans ((cell_far _ _ _ _ _ _ (show w4.heap.size ≠ w2.heap.size by omega)).trans C1_0), (cell_far _ _ _ _ _ _ (show w4.heap.size ≠ w2.heap.size by omega)).trans ((cell_far _ _ _ _ _ _ (show w4.heap.size ≠ w2.heap.size by omega)).trans C1_1), (cell_far _ _ _ _ _ _ (show w4.heap.size ≠ w2.heap.size + 1 by omega)).trans ((cell_far _ _ _ _ _ _ (show w4.heap.size ≠ w2.heap.size + 1 by omega)).trans C2_0), (cell_far _ _ _ _ _ _ (show w4.heap.size ≠ w2.heap.size + 1 by omega)).trans ((cell_far _ _ _ _ _ _ (show w4.heap.size ≠ w2.heap.size + 1 by omega)).trans C2_1)⟩) | (exact ⟨(cell_far _ _ _ _ _ _ (show w7.heap.size ≠ w2.heap.size by omega)).trans ((cell_far _ _ _ _ _ _ (show w7.heap.size ≠ w2.heap.size by omega)).trans C1_0), (cell_far _ _ _ _ _ _ (show w7.heap.size ≠ w2.heap.size by omega)).trans ((cell_far _ _ _ _ _ _ (show w7.heap.size ≠ w2.heap.size by omega)).trans C1_1), (cell_far _ _ _ _ _ _ (show w7.heap.size ≠ w2.heap.size + 1 by omega)).trans ((cell_far _ _ _ _ _ _ (show w7.heap.size ≠ w2.heap.size + 1 by omega)).trans C2_0), (cell_far _ _ _ _ _ _ (show w7.heap.size ≠ w2.heap.size + 1 by omega)).trans ((cell_far _ _ _ _ _ _ (show w7.heap.size ≠ w2.heap.size + 1 by omega)).trans C2_1)⟩) | (exact ⟨(cell_far _ _ _ _ _ _ (show w8.heap.size ≠ w2.heap.size by omega)).trans ((cell_far _ _ _ _ _ _ (show w8.heap.size ≠ w2.heap.size by omega)).trans C1_0), (cell_far _ _ _ _ _ _ (show w8.heap.size ≠ w2.heap.size by omega)).trans ((cell_far _ _ _ _ _ _ (show w8.heap.size ≠ w2.heap.size by omega)).trans C1_1), (cell_far _ _ _ _ _ _ (show w8.heap.size ≠ w2.heap.size + 1 by omega)).trans ((cell_far _ _ _ _ _ _ (show w8.heap.size ≠ w2.heap.size + 1 by omega)).trans C2_0), (cell_far _ _ _ _ _ _ (show w8.heap.size ≠ w2.heap.size + 1 by omega)).trans ((cell_far _ _ _ _ _ _ (show w8.heap.size ≠ w2.heap.size + 1 by omega)).trans C2_1)⟩) | go_keep)
    (first
     | (go_at_call 76; (with_reducible refine (hdA _ _ (haW) (h1)).mono ?_); rintro e4 w4 ⟨v4, rfl, h4, hb4⟩; (try replace D := D.below hb4); replace TT := TT.trans (hb4.mono TT.size); replace C1 := C1.below hb4; replace C2 := C2.below hb4; (try replace haW := haW.below hb4); (try replace hbW := hbW.below hb4); (try replace h1 := h1.below hb4); (try replace h2 := h2.below hb4); (try replace h7 := h7.below hb4); (try replace h8 := h8.below hb4); replace C1_0 := C1.cell 0 rfl; replace C1_1 := C1.cell 1 rfl; replace C2_0 := C2.cell 0 rfl; replace C2_1 := C2.cell 1 rfl; replace C1_lt := C1.lt; replace C2_lt := C2.lt; have l4 := TT.size)
     | (go_at_call 76; (with_reducible refine (hdA _ _ ((haW).below ((Below.refl _ _).alloc (Nat.le_refl _) (.cells #[.bool false, .slice none 0 0] 49))) ((h1).below ((Below.refl _ _).alloc (Nat.le_refl _) (.cells #[.bool false, .slice none 0 0] 49)))).mono ?_); rintro e4 w4 ⟨v4, rfl, h4, hb4⟩; have D := (Bx.new _ [.bool false, .slice none 0 0] 49).below hb4; have lD4 := TT.size; replace hb4 := ((Below.refl _ _).alloc (Nat.le_refl _) (.cells #[.bool false, .slice none 0 0] 49)).trans (hb4.mono ((Below.refl _ _).alloc (Nat.le_refl _) (.cells #[.bool false, .slice none 0 0] 49)).size); replace TT := TT.trans (hb4.mono TT.size); replace C1 := C1.below hb4; replace C2 := C2.below hb4; (try replace haW := haW.below hb4); (try replace hbW := hbW.below hb4); (try replace h1 := h1.below hb4); (try replace h2 := h2.below hb4); (try replace h7 := h7.below hb4); (try replace h8 := h8.below hb4); replace C1_0 := C1.cell 0 rfl; replace C1_1 := C1.cell 1 rfl; replace C2_0 := C2.cell 0 rfl; replace C2_1 := C2.cell 1 rfl; replace C1_lt := C1.lt; replace C2_lt := C2.lt; have l4 := TT.size)
     | (go_at_call 76; (with_reducible refine (hdA _ _ (((haW_o).below hZ).drew) (((h1_o).below hZ).drew)).mono ?_); rintro e4 w4 ⟨v4, rfl, h4, hb4⟩; have T4 : Below wc.heap.size wc w4 := hZ.drew.trans (hb4.mono hZ.size); have D := DN.drew.below hb4; replace TT := T4; replace C1 := C1_o.below T4; replace C2 := C2_o.below T4; replace haW := haW_o.below T4; replace hbW := hbW_o.below T4; replace h1 := h1_o.below T4; replace h2 := h2_o.below T4; replace C1_0 := C1.cell 0 rfl; replace C1_1 := C1.cell 1 rfl; replace C2_0 := C2.cell 0 rfl; replace C2_1 := C2.cell 1 rfl; replace C1_lt := C1.lt; replace C2_lt := C2.lt; have l4 := TT.size)
     | (go_at_call 76; (with_reducible refine (hdB _ _ (hbW) (h2)).mono ?_); rintro e7 w7 ⟨v7, rfl, h7, hb7⟩; (try replace D := D.below hb7); replace TT := TT.trans (hb7.mono TT.size); replace C1 := C1.below hb7; replace C2 := C2.below hb7; (try replace haW := haW.below hb7); (try replace hbW := hbW.below hb7); (try replace h1 := h1.below hb7); (try replace h2 := h2.below hb7); (try replace h4 := h4.below hb7); (try replace h8 := h8.below hb7); replace C1_0 := C1.cell 0 rfl; replace C1_1 := C1.cell 1 rfl; replace C2_0 := C2.cell 0 rfl; replace C2_1 := C2.cell 1 rfl; replace C1_lt := C1.lt; replace C2_lt := C2.lt; have l7 := TT.size)
     | (go_at_call 76; (with_reducible refine (hdB _ _ ((hbW).below ((Below.refl _ _).alloc (Nat.le_refl _) (.cells #[.bool false, .slice none 0 0] 49))) ((h2).below ((Below.refl _ _).alloc (Nat.le_refl _) (.cells #[.bool false, .slice none 0 0] 49)))).mono ?_); rintro e7 w7 ⟨v7, rfl, h7, hb7⟩; have D := (Bx.new _ [.bool false, .slice none 0 0] 49).below hb7; have lD7 := TT.size; replace hb7 := ((Below.refl _ _).alloc (Nat.le_refl _) (.cells #[.bool false, .slice none 0 0] 49)).trans (hb7.mono ((Below.refl _ _).alloc (Nat.le_refl _) (.cells #[.bool false, .slice none 0 0] 49)).size); replace TT := TT.trans (hb7.mono TT.size); replace C1 := C1.below hb7; replace C2 := C2.below hb7; (try replace haW := haW.below hb7); (try replace hbW := hbW.below hb7); (try replace h1 := h1.below hb7); (try replace h2 := h2.below hb7); (try replace h4 := h4.below hb7); (try replace h8 := h8.below hb7); replace C1_0 := C1.cell 0 rfl; replace C1_1 := C1.cell 1 rfl; replace C2_0 := C2.cell 0 rfl; replace C2_1 := C2.cell 1 rfl; replace C1_lt := C1.lt; replace C2_lt := C2.lt; have l7 := TT.size)
     | (go_at_call 76; (with_reducible refine (hdB _ _ (((hbW_o).below hZ).drew) (((h2_o).below hZ).drew)).mono ?_); rintro e7 w7 ⟨v7, rfl, h7, hb7⟩; have T7 : Below wc.heap.size wc w7 := hZ.drew.trans (hb7.mono hZ.size); have D := DN.drew.below hb7; replace TT := T7; replace C1 := C1_o.below T7; replace C2 := C2_o.below T7; replace haW := haW_o.below T7; replace hbW := hbW_o.below T7; replace h1 := h1_o.below T7; replace h2 := h2_o.below T7; replace C1_0 := C1.cell 0 rfl; replace C1_1 := C1.cell 1 rfl; replace C2_0 := C2.cell 0 rfl; replace C2_1 := C2.cell 1 rfl; replace C1_lt := C1.lt; replace C2_lt := C2.lt; have l7 := TT.size)
     | (go_at_call 79; (with_reducible refine (hsu _ _ _ (h4) (h7)).mono ?_); rintro e8 w8 ⟨v8, rfl, h8, hb8⟩; (try replace D := D.below hb8); replace TT := TT.trans (hb8.mono TT.size); replace C1 := C1.below hb8; replace C2 := C2.below hb8; (try replace haW := haW.below hb8); (try replace hbW := hbW.below hb8); (try replace h1 := h1.below hb8); (try replace h2 := h2.below hb8); (try replace h4 := h4.below hb8); (try replace h7 := h7.below hb8); replace C1_0 := C1.cell 0 rfl; replace C1_1 := C1.cell 1 rfl; replace C2_0 := C2.cell 0 rfl; replace C2_1 := C2.cell 1 rfl; replace C1_lt := C1.lt; replace C2_lt := C2.lt; have l8 := TT.size; obtain ⟨s8, A8, k8, c8, rfl⟩ := h8.form; (try have D_0 := D.cell 0 rfl); (try have D_1 := D.cell 1 rfl); (try have D_f0 := D.free 0); (try have D_f1 := D.free 1))
     | (go_at_call 79; (with_reducible refine (hsu _ _ _ ((h4).below ((Below.refl _ _).alloc (Nat.le_refl _) (.cells #[.bool false, .slice none 0 0] 49))) ((h7).below ((Below.refl _ _).alloc (Nat.le_refl _) (.cells #[.bool false, .slice none 0 0] 49)))).mono ?_); rintro e8 w8 ⟨v8, rfl, h8, hb8⟩; have D := (Bx.new _ [.bool false, .slice none 0 0] 49).below hb8; have lD8 := TT.size; replace hb8 := ((Below.refl _ _).alloc (Nat.le_refl _) (.cells #[.bool false, .slice none 0 0] 49)).trans (hb8.mono ((Below.refl _ _).alloc (Nat.le_refl _) (.cells #[.bool false, .slice none 0 0] 49)).size); replace TT := TT.trans (hb8.mono TT.size); replace C1 := C1.below hb8; replace C2 := C2.below hb8; (try replace haW := haW.below hb8); (try replace hbW := hbW.below hb8); (try replace h1 := h1.below hb8); (try replace h2 := h2.below hb8); (try replace h4 := h4.below hb8); (try replace h7 := h7.below hb8); replace C1_0 := C1.cell 0 rfl; replace C1_1 := C1.cell 1 rfl; replace C2_0 := C2.cell 0 rfl; replace C2_1 := C2.cell 1 rfl; replace C1_lt := C1.lt; replace C2_lt := C2.lt; have l8 := TT.size; obtain ⟨s8, A8, k8, c8, rfl⟩ := h8.form; (try have D_0 := D.cell 0 rfl); (try have D_1 := D.cell 1 rfl); (try have D_f0 := D.free 0); (try have D_f1 := D.free 1)))
   all_goals (
    go_wp2_with fail
    go_meet
    first
     | exact ⟨_, rfl, by omega, (IntBx.stored (m := 0) ⟨_, _, _, _, D, IntAt.zero _⟩ h8).1, below_step TT (IntBx.stored (m := 0) ⟨_, _, _, _, D, IntAt.zero _⟩ h8).2 (by omega)⟩
     | exact ⟨_, rfl, by omega, ⟨_, _, _, _, Bx.new w8 [.bool s8, .slice A8 k8 c8] 49, h8.keep (Keep.alloc _ _)⟩, TT.alloc TT.size _⟩)
  case rest =>
   obtain ⟨gd, rfl, hgd, ⟨sT, AT, kT, cT, T, hT⟩, hbT⟩ := hcut
   have hFl := Fc.lt
   have hRl := R.lt
   replace Fc := Fc.below hbT
   replace R := R.below hbT
   replace h0 := h0.below hbT
   replace hb := hb.trans (hbT.mono hb.size)
   have hwh := fun W v h => ratWhole_any (-2) v W h
   clear hbT haW hbW h1 h2 C1 C2 hdA hdB hsu
   have hRF : w.heap.size + 1 + 1 < w5.heap.size := R_ltw5
   go_upto_region 7 with fail
   replace hT := hT.drew
   replace h0 := h0.drew
   replace Fc := Fc.drew
   replace T := T.drew
   replace R := R.drew
   replace hb := hb.drew
   replace Fc_0 := Fc.cell 0 rfl
   replace Fc_1 := Fc.cell 1 rfl
   replace Fc_2 := Fc.cell 2 rfl
   replace Fc_3 := Fc.cell 3 rfl
   replace T_0 := T.cell 0 rfl
   replace T_1 := T.cell 1 rfl
   replace R_0 := R.cell 0 rfl
   replace R_f0 := R.free 0
   replace R_1 := R.cell 1 rfl
   replace R_f1 := R.free 1
   replace R_2 := R.cell 2 rfl
   replace R_f2 := R.free 2
   replace R_3 := R.cell 3 rfl
   replace R_f3 := R.free 3
   have n_R_Fc : w.heap.size + 1 + 1 ≠ w5.heap.size := by omega
   have n_R_T : w.heap.size + 1 + 1 ≠ gd := by omega
   go_region_held3 (fun w' => w'.cell? ⟨w5.heap.size, 0, none⟩ = some (.bool s0) ∧ w'.cell? ⟨w5.heap.size, 1, none⟩ = some (.slice A0 k0 c0) ∧ w'.cell? ⟨w5.heap.size, 2, none⟩ = some (.bool t0) ∧ w'.cell? ⟨w5.heap.size, 3, none⟩ = some (.slice E0 l0 d0) ∧ w'.cell? ⟨gd, 0, none⟩ = some (.bool sT) ∧ w'.cell? ⟨gd, 1, none⟩ = some (.slice AT kT cT))
    (first | (with_reducible exact ⟨Fc_0, Fc_1, Fc_2, Fc_3, T_0, T_1⟩)
           | (with_reducible exact ⟨((cell_far _ _ _ _ _ _ n_R_Fc).trans ((cell_far _ _ _ _ _ _ n_R_Fc).trans ((cell_far _ _ _ _ _ _ n_R_Fc).trans ((cell_far _ _ _ _ _ _ n_R_Fc).trans Fc_0)))), ((cell_far _ _ _ _ _ _ n_R_Fc).trans ((cell_far _ _ _ _ _ _ n_R_Fc).trans ((cell_far _ _ _ _ _ _ n_R_Fc).trans ((cell_far _ _ _ _ _ _ n_R_Fc).trans Fc_1)))), ((cell_far _ _ _ _ _ _ n_R_Fc).trans ((cell_far _ _ _ _ _ _ n_R_Fc).trans ((cell_far _ _ _ _ _ _ n_R_Fc).trans ((cell_far _ _ _ _ _ _ n_R_Fc).trans Fc_2)))), ((cell_far _ _ _ _ _ _ n_R_Fc).trans ((cell_far _ _ _ _ _ _ n_R_Fc).trans ((cell_far _ _ _ _ _ _ n_R_Fc).trans ((cell_far _ _ _ _ _ _ n_R_Fc).trans Fc_3)))), ((cell_far _ _ _ _ _ _ n_R_T).trans ((cell_far _ _ _ _ _ _ n_R_T).trans ((cell_far _ _ _ _ _ _ n_R_T).trans ((cell_far _ _ _ _ _ _ n_R_T).trans T_0)))), ((cell_far _ _ _ _ _ _ n_R_T).trans ((cell_far _ _ _ _ _ _ n_R_T).trans ((cell_far _ _ _ _ _ _ n_R_T).trans ((cell_far _ _ _ _ _ _ n_R_T).trans T_1))))⟩))
    (first
     | (go_at_call 80; (with_reducible refine (hwh _ _ hT).mono ?_); rintro e6 w6 ⟨v6, rfl, h6, hb6⟩; replace Fc := Fc.below hb6; replace Fc_0 := Fc.cell 0 rfl; replace Fc_1 := Fc.cell 1 rfl; replace Fc_2 := Fc.cell 2 rfl; replace Fc_3 := Fc.cell 3 rfl; replace T := T.below hb6; replace T_0 := T.cell 0 rfl; replace T_1 := T.cell 1 rfl; replace R := R.below hb6; replace R_0 := R.cell 0 rfl; replace R_f0 := R.free 0; replace R_1 := R.cell 1 rfl; replace R_f1 := R.free 1; replace R_2 := R.cell 2 rfl; replace R_f2 := R.free 2; replace R_3 := R.cell 3 rfl; replace R_f3 := R.free 3; replace hk := Keep.below hb6; replace hT := hT.keep hk; replace h0 := h0.keep hk; (try replace h9 := h9.keep hk); replace hb := hb.trans (hb6.mono hb.size))
     | (go_at_call 78; (with_reducible refine (hm2 _ _ _ h0 h6).mono ?_); rintro e9 w9 ⟨v9, rfl, h9, hb9⟩; obtain ⟨s9, A9, k9, c9, t9, E9, l9, d9, rfl⟩ := h9.form; replace Fc := Fc.below hb9; replace Fc_0 := Fc.cell 0 rfl; replace Fc_1 := Fc.cell 1 rfl; replace Fc_2 := Fc.cell 2 rfl; replace Fc_3 := Fc.cell 3 rfl; replace T := T.below hb9; replace T_0 := T.cell 0 rfl; replace T_1 := T.cell 1 rfl; replace R := R.below hb9; replace R_0 := R.cell 0 rfl; replace R_f0 := R.free 0; replace R_1 := R.cell 1 rfl; replace R_f1 := R.free 1; replace R_2 := R.cell 2 rfl; replace R_f2 := R.free 2; replace R_3 := R.cell 3 rfl; replace R_f3 := R.free 3; replace hk := Keep.below hb9; replace hT := hT.keep hk; replace h0 := h0.keep hk; (try replace h6 := h6.keep hk); replace hb := hb.trans (hb9.mono hb.size)))
   all_goals (
    go_wp2_with fail
    have Fc_ltw9 := Fc.lt
    have T_ltw9 := T.lt
    have R_ltw9 := R.lt
    have hszw9 := hb.size
    replace Fc := ((((Fc.far 0 (.bool s9) (show w.heap.size + 1 + 1 ≠ w5.heap.size by omega)).far 1 (.slice A9 k9 c9) (show w.heap.size + 1 + 1 ≠ w5.heap.size by omega)).far 2 (.bool t9) (show w.heap.size + 1 + 1 ≠ w5.heap.size by omega)).far 3 (.slice E9 l9 d9) (show w.heap.size + 1 + 1 ≠ w5.heap.size by omega))
    replace T := ((((T.far 0 (.bool s9) (show w.heap.size + 1 + 1 ≠ gd by omega)).far 1 (.slice A9 k9 c9) (show w.heap.size + 1 + 1 ≠ gd by omega)).far 2 (.bool t9) (show w.heap.size + 1 + 1 ≠ gd by omega)).far 3 (.slice E9 l9 d9) (show w.heap.size + 1 + 1 ≠ gd by omega))
    replace hk := rat_stored (v0 := .bool s9) (v1 := .slice A9 k9 c9) (v2 := .bool t9) (v3 := .slice E9 l9 d9) hb (by omega) R
    clear R hb
    obtain ⟨R, hb, hk⟩ := hk
    replace h9 := h9.keep hk
    generalize (((w9.setCell ⟨w.heap.size + 1 + 1, 0, none⟩ (.bool s9)).setCell ⟨w.heap.size + 1 + 1, 1, none⟩ (.slice A9 k9 c9)).setCell ⟨w.heap.size + 1 + 1, 2, none⟩ (.bool t9)).setCell ⟨w.heap.size + 1 + 1, 3, none⟩ (.slice E9 l9 d9) = W6 at *
    replace Fc_0 := Fc.cell 0 rfl
    replace Fc_1 := Fc.cell 1 rfl
    replace Fc_2 := Fc.cell 2 rfl
    replace Fc_3 := Fc.cell 3 rfl
    replace T_0 := T.cell 0 rfl
    replace T_1 := T.cell 1 rfl
    replace R_0 := R.cell 0 rfl
    replace R_1 := R.cell 1 rfl
    replace R_2 := R.cell 2 rfl
    replace R_3 := R.cell 3 rfl
    exact bodyPost_ret (v := .agg #[.bool s9, .slice A9 k9 c9, .bool t9, .slice E9 l9 d9]) (by simp [results, Tryz.results49, go_sem, R_0, R_1, R_2, R_3]) rfl ⟨_, rfl, h9, hb⟩
    )
structure DivRes (A B Q R : List Rat) (K : Nat) : Prop where
 id_ : ∀ i, conv (cf Q) (cf B) i + cf R i = cf A i
 q_trim : Trimmed Q
 r_trim : Trimmed R
 r_lt : R.length < B.length
 q_len : Q.length ≤ A.length
 bq : ∀ q ∈ Q, RL K q
 br : ∀ q ∈ R, RL K q
theorem ratios_trimmed {ns : List Int} {F : Int} (hF : F ≠ 0) (h : Trimmed ns) : Trimmed (ratios ns F) := by
 intro a ha e
 unfold ratios at ha
 rw [List.getLast?_map] at ha
 cases hq : ns.getLast? with
 | none => rw [hq] at ha; simp at ha
 | some n =>
  rw [hq] at ha
  simp only [Option.map_some, Option.some.injEq] at ha
  rw [e] at ha
  have h1 : (n : Rat) ≠ 0 := fun e => h n hq (Rat.intCast_inj.1 e)
  have h2 : (F : Rat) ≠ 0 := fun e => hF (Rat.intCast_inj.1 e)
  grind
theorem scale_trimmed {ns : List Int} {E : Int} (hE : E ≠ 0) (h : Trimmed ns) : Trimmed (ns.map (· * E)) := by
 intro a ha e
 rw [List.getLast?_map] at ha
 cases hq : ns.getLast? with
 | none => rw [hq] at ha; simp at ha
 | some n =>
  rw [hq] at ha
  simp only [Option.map_some, Option.some.injEq] at ha
  rw [e] at ha
  rcases Int.mul_eq_zero.1 ha with h1 | h1
  ·exact h n hq h1
  ·exact hE h1
theorem cf_ratios (ns : List Int) (F : Int) (i : Nat) : cf (ratios ns F) i = ((cf ns i : Int) : Rat) / F := cf_map (fun n : Int => (n : Rat) / (F : Rat)) (frac_zero F) ns i
theorem cf_scale (ns : List Int) (E : Int) (i : Nat) : cf (ns.map (· * E)) i = cf ns i * E := cf_map (· * E) (Int.zero_mul E) ns i
theorem div_res {A B : List Rat} {D E m : Int} {q r : List Int} {K0 KB K2 : Nat} (hA : ComDen A D K0) (hB : ComDen B E K0) (h : PQRes (numsL A D) (numsL B E) KB m q r) (hE : nl E.natAbs ≤ K0) (hD : nl D.natAbs ≤ K0) (hK2 : K0 + KB ≤ K2) (h1 : 1 ≤ K2) :
  DivRes A B (ratios (q.map (· * E)) (D * m)) (ratios r (D * m)) K2 := by
 have hD0 : D ≠ 0 := by have := hA.pos; omega
 have hE0 : E ≠ 0 := by have := hB.pos; omega
 have hF : D * m ≠ 0 := Int.mul_ne_zero hD0 h.m0
 have bF : nl (D * m).natAbs ≤ K2 := Nat.le_trans (nl_mul_int D m _ _ hD h.bm) hK2
 refine ⟨fun i => ?_, ratios_trimmed hF (scale_trimmed hE0 h.q_trim), ratios_trimmed hF h.r_trim, ?_, ?_, fun x hx => ?_, fun x hx => ?_⟩
 ·have := div_law (A := cf A) (B := cf B) (x := cf (numsL A D)) (y := cf (numsL B E)) (q := cf q) (r := cf r) (xd := D) (yd := E) (m := m) (nums_cf A D hA.dvd) (nums_cf B E hB.dvd) hD0 hE0 h.m0 h.id_ i
  rw [← this, cf_ratios]
  congr 1
  ·refine conv_congr (fun k => ?_) (fun _ => rfl) i
   rw [cf_ratios, cf_scale, Rat.intCast_mul, Rat.intCast_mul]
  ·rw [Rat.intCast_mul]
 ·unfold ratios; rw [List.length_map]; have := h.r_lt; rw [nums_len] at this; exact this
 ·unfold ratios; rw [List.length_map, List.length_map]; have := h.q_len; rw [nums_len] at this; exact this
 ·unfold ratios at hx
  obtain ⟨n, hn, rfl⟩ := List.mem_map.1 hx
  obtain ⟨y, hy, rfl⟩ := List.mem_map.1 hn
  exact frac_RL _ _ _ (Nat.le_trans (nl_mul_int y E _ _ (h.bq y hy) hE) (by omega)) bF h1
 ·unfold ratios at hx
  obtain ⟨n, hn, rfl⟩ := List.mem_map.1 hx
  exact frac_RL _ _ _ (Nat.le_trans (h.br n hn) (by omega)) bF h1
def RetQuo (w : World) (a b : List (List UInt8)) (K2 : Nat) (e : Ending) (w' : World) : Prop :=
 ∃ v u n Q R, e = .returned (.tuple #[v, u, .int .i64 n]) ∧ StrsAt w' v (Q.map ratTxt) ∧ StrsAt w' u (R.map ratTxt) ∧ Below w.heap.size w w' ∧
  (¬ (vl a = true ∧ vl b = true) → n = 1 ∧ Q = [] ∧ R = []) ∧ (vl a = true → vl b = true → b = [] → n = 5 ∧ Q = [] ∧ R = []) ∧ (vl a = true → vl b = true → b ≠ [] → n = 0 ∧ DivRes (ratsOf a) (ratsOf b) Q R K2)
set_option maxRecDepth 100000 in
theorem quoRem_gen (a b : List (List UInt8)) (va vb : Value) (w : World) (hG : Glob w) (ha : StrsAt w va a) (hb' : StrsAt w vb b) (hla : a.length ≤ 1073741824) (hlb : b.length ≤ 1073741824) (K : Nat)
  (hca : a.length ≤ 65 → ∀ l ∈ a, l.length ≤ 1073741824) (hcb : b.length ≤ 65 → ∀ l ∈ b, l.length ≤ 1073741824) (hKa : a.length ≤ 65 → ∀ q ∈ ratsOf a, RL K q) (hKb : b.length ≤ 65 → ∀ q ∈ ratsOf b, RL K q) (KB K2 : Nat) (hKB : 66 * K + 1 + 66 * (66 * K + 2) ≤ KB) (hK2 : 1 + 65 * K + KB ≤ K2) (hK3 : K2 ≤ 10000000) :
  Calls Tryz.prog 15 #[va, vb] w (RetQuo w a b K2) := by
 obtain ⟨A, c, rfl, hc⟩ := ha.form
 obtain ⟨A', c', rfl, hc'⟩ := hb'.form
 go_enter Tryz.func15, Tryz.ntmps15
 go_wp2_with fail
 ((with_reducible refine (uniRead_any a _ _ hG ha hla hca K (1 + 65 * K) hKa (Nat.le_refl _) (by unfold LIM; omega)).mono ?_))
 rintro e1 w1 ⟨v1, vd1, xs, D, rfl, hx, hD, hvx, hb1⟩
 obtain ⟨A1, c1, rfl, hc1⟩ := hx.form
 obtain ⟨s1, B1, k1, d1, rfl⟩ := hD.form
 go_wp2_with fail
 have hbX : Below w1.heap.size w1 (w1.alloc (.cells #[.bool s1, .slice B1 k1 d1] 49)) := (Below.refl _ _).alloc (Nat.le_refl _) _
 have X := Bx.new w1 [.bool s1, .slice B1 k1 d1] 49
 replace hx := hx.below hbX
 replace hD := hD.below hbX
 have hb := hb1.trans (hbX.mono hb1.size)
 clear hbX
 generalize hgx : w1.heap.size = gx at *
 generalize w1.alloc (.cells #[.bool s1, .slice B1 k1 d1] 49) = w2 at *
 ((with_reducible refine (uniRead_any b _ _ (hG.below hb) (hb'.below hb) hlb hcb K (1 + 65 * K) hKb (Nat.le_refl _) (by unfold LIM; omega)).mono ?_))
 rintro e3 w3 ⟨v3, vd3, ys, E, rfl, hy, hE, hvy, hb3⟩
 obtain ⟨A3, c3, rfl, hc3⟩ := hy.form
 obtain ⟨s3, B3, k3, d3, rfl⟩ := hE.form
 replace X := X.below hb3
 replace hx := hx.below hb3
 replace hD := hD.below hb3
 replace hb := hb.trans (hb3.mono hb.size)
 cases hva : vl a with
 | false =>
  go_wp2_with fail
  refine bodyPost_ret (v := .tuple #[.slice none 0 0, .slice none 0 0, .int .i64 1]) (by simp [results, Tryz.results15, go_sem]) rfl ⟨_, _, 1, [], [], rfl, StrsAt.nil _ _ _, StrsAt.nil _ _ _, hb.alloc hb.size _, (fun _ => ⟨rfl, rfl, rfl⟩), (fun h => ?_), (fun h => ?_)⟩
  ·rw [hva] at h; cases h
  ·rw [hva] at h; cases h
 | true =>
  cases hvb : vl b with
  | false =>
   go_wp2_with fail
   refine bodyPost_ret (v := .tuple #[.slice none 0 0, .slice none 0 0, .int .i64 1]) (by simp [results, Tryz.results15, go_sem]) rfl ⟨_, _, 1, [], [], rfl, StrsAt.nil _ _ _, StrsAt.nil _ _ _, hb.alloc hb.size _, (fun _ => ⟨rfl, rfl, rfl⟩), (fun _ h => ?_), (fun _ h => ?_)⟩
   ·rw [hvb] at h; cases h
   ·rw [hvb] at h; cases h
  | true =>
   obtain ⟨rfl, hcx⟩ := hvx hva
   obtain ⟨rfl, hcy⟩ := hvy hvb
   obtain ⟨p1, -, t1⟩ := vl_parts hva
   obtain ⟨p2, -, t2⟩ := vl_parts hvb
   have ly0 : (numsL (ratsOf b) E).length = b.length := by rw [nums_len]; unfold ratsOf; rw [List.length_map]
   by_cases hb0 : b = []
   ·have q0 : (((numsL (ratsOf b) E).length : Int) == 0) = true := by rw [ly0, hb0]; rfl
    have HB := Lib.hid hb0
    clear hb0 ly0 hb'
    go_wp2_with fail
    exact bodyPost_ret (v := .tuple #[.slice none 0 0, .slice none 0 0, .int .i64 5]) (by simp [results, Tryz.results15, go_sem]) rfl ⟨_, _, 5, [], [], rfl, StrsAt.nil _ _ _, StrsAt.nil _ _ _, hb.alloc hb.size _, (fun h => absurd ⟨hva, hvb⟩ h), (fun _ _ _ => ⟨rfl, rfl, rfl⟩), (fun _ _ h => absurd HB.out h)⟩
   ·have hbl : b.length ≠ 0 := fun e => hb0 (List.eq_nil_of_length_eq_zero e)
    have q0 : (((numsL (ratsOf b) E).length : Int) == 0) = false := by rw [ly0]; simp; omega
    have lx : (numsL (ratsOf a) D).length ≤ 65 := by rw [nums_len]; unfold ratsOf; rw [List.length_map]; exact p1
    have ly : (numsL (ratsOf b) E).length ≤ 65 := by rw [ly0]; exact p2
    have hNB0 : numsL (ratsOf b) E ≠ [] := fun e => hbl (by rw [← ly0, e]; rfl)
    have htx := nums_trimmed hcx.pos hcx.dvd t1
    have hty := nums_trimmed hcy.pos hcy.dvd t2
    have bx := nums_nl _ D K _ (hKa p1) hcx.nl_
    have bY := nums_nl _ E K _ (hKb p2) hcy.nl_
    have hdr := fun m q r h => div_res (K2 := K2) (KB := KB) (m := m) (q := q) (r := r) hcx hcy h hcy.nl_ hcx.nl_ (by omega) (by omega)
    have HDR := Lib.hid hdr
    have hE0 : E ≠ 0 := by have := hcy.pos; omega
    have bD := hcx.nl_
    have bE := hcy.nl_
    have HAB : Hid (vl a = true ∧ vl b = true ∧ b ≠ []) := ⟨hva, hvb, hb0⟩
    clear hdr hcx hcy hvx hvy hva hvb t1 t2 p1 p2 hKa hKb hca hcb ly0 hbl ha hb' hla hlb hb0
    generalize numsL (ratsOf a) D = NA at *
    generalize numsL (ratsOf b) E = NB at *
    have hpq := fun W h1 h2 => pqr_whole NA NB (.slice A1 NA.length c1) (.slice A3 NB.length c3) W h1 h2 hNB0 htx hty (K + (1 + 65 * K)) KB bx bY (by omega) (by
     have : (NA.length + 1 - NB.length) * (K + (1 + 65 * K) + 1) ≤ 66 * (K + (1 + 65 * K) + 1) := Nat.mul_le_mul_right _ (by omega)
     omega) (by unfold LIM; omega) (by omega) (by omega)
    unfold RetPQR at hpq
    have gxl := X.lt
    clear hNB0 htx hty bx bY
    go_wp2_with fail
    have hbY : Below w3.heap.size w3 (w3.alloc (.cells #[.bool s3, .slice B3 k3 d3] 49)) := (Below.refl _ _).alloc (Nat.le_refl _) _
    have Y := Bx.new w3 [.bool s3, .slice B3 k3 d3] 49
    replace hx := hx.below hbY
    replace hy := hy.below hbY
    replace hD := hD.below hbY
    replace hE := hE.below hbY
    replace X := X.below hbY
    replace hb := hb.trans (hbY.mono hb.size)
    clear hbY
    generalize hgy : w3.heap.size = gy at *
    generalize w3.alloc (.cells #[.bool s3, .slice B3 k3 d3] 49) = w4 at *
    ((with_reducible refine (hpq _ hx hy).mono ?_))
    rintro e5 w5 ⟨vq, vr, vm, q, r, m, rfl, hq, hr, hm, hres, hb5⟩
    obtain ⟨Aq, cq, rfl, hcq⟩ := hq.form
    obtain ⟨Ar, cr, rfl, hcr⟩ := hr.form
    obtain ⟨sm, Bm, km, dm, rfl⟩ := hm.form
    have HRE := Lib.hid (HDR.out m q r hres)
    have bq := hres.bq
    have br := hres.br
    have bm := hres.bm
    have hql := hres.q_len
    have hrl := hres.r_lt
    have hts := trim_self (scale_trimmed hE0 hres.q_trim)
    replace X := X.below hb5
    replace Y := Y.below hb5
    replace hD := hD.below hb5
    replace hE := hE.below hb5
    replace hb := hb.trans (hb5.mono hb.size)
    have hsc := fun W h1 h2 => scale_whole q E (.slice Aq q.length cq) (.agg #[.bool s3, .slice B3 k3 d3]) W h1 h2 KB bq (by omega) (by omega) (by omega)
    rw [hts] at hsc
    clear hres HDR hpq hts hE0
    have X_c : ∀ o0 : Obj, (w5.alloc o0).cell? ⟨gx, 0, none⟩ = some (.bool s1) := fun o0 => (X.alloc o0).cell 0 rfl
    have X_d : ∀ o0 : Obj, (w5.alloc o0).cell? ⟨gx, 1, none⟩ = some (.slice B1 k1 d1) := fun o0 => (X.alloc o0).cell 1 rfl
    go_wp2_with fail
    have hbM : Below w5.heap.size w5 (w5.alloc (.cells #[.bool sm, .slice Bm km dm] 49)) := (Below.refl _ _).alloc (Nat.le_refl _) _
    replace hq := hq.below hbM
    replace hr := hr.below hbM
    replace hD := hD.below hbM
    replace hE := hE.below hbM
    replace hm := hm.below hbM
    replace Y := Y.below hbM
    replace hb := hb.trans (hbM.mono hb.size)
    clear hbM X X_c X_d
    generalize w5.alloc (.cells #[.bool sm, .slice Bm km dm] 49) = w6 at *
    ((with_reducible refine (mul_any D m _ _ _ hD hm (by omega)).mono ?_))
    rintro e7 w7 ⟨v7, rfl, h7, hb7⟩
    obtain ⟨s7, B7, k7, d7, rfl⟩ := h7.form
    have bDm := nl_mul_int D m _ _ bD bm
    generalize D * m = DM at *
    have bqE : ∀ n ∈ q.map (· * E), nl n.natAbs ≤ K2 := fun n hn => by
     obtain ⟨y, hy, rfl⟩ := List.mem_map.1 hn
     exact Nat.le_trans (nl_mul_int y E _ _ (bq y hy) bE) (by omega)
    have hs1 := fun W v u hG h1 h2 => wholeStrings_any (q.map (· * E)) DM v u W hG h1 h2 K2 bqE (by omega) (by omega) (by omega) (by rw [List.length_map]; omega)
    have hs2 := fun W u hG h1 h2 => wholeStrings_any r DM (.slice Ar r.length cr) u W hG h1 h2 K2 (fun n hn => Nat.le_trans (br n hn) (by omega)) (by omega) (by omega) (by omega) (by omega)
    generalize q.map (· * E) = QE at *
    replace hq := hq.below hb7
    replace hr := hr.below hb7
    replace hE := hE.below hb7
    replace Y := Y.below hb7
    replace hb := hb.trans (hb7.mono hb.size)
    clear bq br bm bqE bDm bD bE hm
    go_wp2_with fail
    have hbN : Below w7.heap.size w7 (w7.alloc (.cells #[.bool s7, .slice B7 k7 d7] 49)) := (Below.refl _ _).alloc (Nat.le_refl _) _
    have Z := Bx.new w7 [.bool s7, .slice B7 k7 d7] 49
    have hZl := hb7.size
    replace hq := (hq.below hbN).drew
    replace hr := (hr.below hbN).drew
    replace hE := (hE.below hbN).drew
    replace h7 := (h7.below hbN).drew
    replace Y := (Y.below hbN).drew
    replace hb := (hb.trans (hbN.mono hb.size)).drew
    clear hbN
    generalize hgz : w7.heap.size = gz at *
    generalize w7.alloc (.cells #[.bool s7, .slice B7 k7 d7] 49) = w8 at *
    replace Z := Z.drew
    replace Y_0 := Y.cell 0 rfl
    replace Y_1 := Y.cell 1 rfl
    replace Z_0 := Z.cell 0 rfl
    replace Z_1 := Z.cell 1 rfl
    go_region_held3 (fun w' => w'.cell? ⟨gy, 0, none⟩ = some (.bool s3) ∧ w'.cell? ⟨gy, 1, none⟩ = some (.slice B3 k3 d3) ∧ w'.cell? ⟨gz, 0, none⟩ = some (.bool s7) ∧ w'.cell? ⟨gz, 1, none⟩ = some (.slice B7 k7 d7))
     (first | (with_reducible exact ⟨Y_0, Y_1, Z_0, Z_1⟩))
     (first
      | (go_at_call 35; (with_reducible refine (hsc _ hq hE).mono ?_); rintro eA wA ⟨vA, rfl, hA, hbA⟩; replace Y := Y.below hbA; replace Z := Z.below hbA; replace Y_0 := Y.cell 0 rfl; replace Y_1 := Y.cell 1 rfl; replace Z_0 := Z.cell 0 rfl; replace Z_1 := Z.cell 1 rfl; (try replace h7 := h7.below hbA); (try replace hr := hr.below hbA); (try replace hC := hC.below hbA); replace hb := hb.trans (hbA.mono hb.size))
      | (go_at_call 31; (with_reducible refine (hs2 _ _ (hG.below hb) hr h7).mono ?_); rintro eC wC ⟨vC, rfl, hC, hbC⟩; replace Y := Y.below hbC; replace Z := Z.below hbC; replace Y_0 := Y.cell 0 rfl; replace Y_1 := Y.cell 1 rfl; replace Z_0 := Z.cell 0 rfl; replace Z_1 := Z.cell 1 rfl; (try replace hq := hq.below hbC); (try replace hE := hE.below hbC); (try replace h7 := h7.below hbC); (try replace hA := hA.below hbC); (try replace hB := hB.below hbC); replace hb := hb.trans (hbC.mono hb.size))
      | (go_at_call 31; (with_reducible refine (hs1 _ _ _ (hG.below hb) hA h7).mono ?_); rintro eB wB ⟨vB, rfl, hB, hbB⟩; replace Y := Y.below hbB; replace Z := Z.below hbB; replace Y_0 := Y.cell 0 rfl; replace Y_1 := Y.cell 1 rfl; replace Z_0 := Z.cell 0 rfl; replace Z_1 := Z.cell 1 rfl; (try replace h7 := h7.below hbB); (try replace hr := hr.below hbB); (try replace hC := hC.below hbB); replace hb := hb.trans (hbB.mono hb.size)))
    go_wp2_with fail
    refine bodyPost_ret (v := .tuple #[vB, vC, .int .i64 0]) (by simp [results, Tryz.results15, go_sem]) rfl ⟨_, _, 0, _, _, rfl, hB, hC, hb, (fun h => absurd ⟨HAB.out.1, HAB.out.2.1⟩ h), (fun _ _ h => absurd h HAB.out.2.2), (fun _ _ _ => ⟨rfl, HRE.out⟩)⟩
theorem quoRem_poly (a b : List (List UInt8)) (va vb : Value) (w : World) (hG : Glob w) (ha : StrsAt w va a) (hb' : StrsAt w vb b) (hla : a.length ≤ 1073741824) (hlb : b.length ≤ 1073741824) (K : Nat)
  (hca : a.length ≤ 65 → ∀ l ∈ a, l.length ≤ 1073741824) (hcb : b.length ≤ 65 → ∀ l ∈ b, l.length ≤ 1073741824) (hKa : a.length ≤ 65 → ∀ q ∈ ratsOf a, RL K q) (hKb : b.length ≤ 65 → ∀ q ∈ ratsOf b, RL K q) (hK : K ≤ 1024) :
  Calls Tryz.prog 15 #[va, vb] w (RetQuo w a b 10000000) :=
 quoRem_gen a b va vb w hG ha hb' hla hlb K hca hcb hKa hKb 5000000 10000000 (by omega) (by omega) (by omega)
set_option maxRecDepth 100000 in
theorem keepStrings_any (a b : List (List UInt8)) (va vb : Value) (w : World) (ha : StrsAt w va a) (hb : StrsAt w vb b) (hla : a.length ≤ 1099511627776) (hlb : b.length ≤ 1099511627776) :
  Calls Tryz.prog 13 #[va, vb] w fun e w' => e = .returned (.bool (decide (a = b))) ∧ Below w.heap.size w w' := by
 obtain ⟨A, c, rfl, hc⟩ := ha.form
 obtain ⟨A', c', rfl, hc'⟩ := hb.form
 go_enter Tryz.func13, Tryz.ntmps13
 by_cases hl : a.length = b.length
 ·have q0 : ((a.length : Int) == (b.length : Int)) = true := by rw [hl]; exact beq_self_eq_true _
  have HL := Lib.hid hl
  go_wp2_with fail
  clear q0 hl
  go_loopg [5] a.length (fun k i wr => ∃ j, Hid (j + k = a.length) ∧ i = .int .i64 j ∧ Hid (a.take j = b.take j) ∧ Below w.heap.size w wr)
  case atStart => exact ⟨0, by unfold Hid; omega, rfl, rfl, Below.refl _ _⟩
  case round =>
   obtain ⟨j, HJ, rfl, HT, hbw⟩ := hrel
   generalize wr = wy at *
   have hj0 : (0 : Int) ≤ (j : Int) := by omega
   cases gk with
   | zero =>
    have hj : j = a.length := HJ.out
    have he : a = b := by
     have := HT.out
     rwa [hj, List.take_length, HL.out, List.take_length] at this
    have hde : decide (a = b) = true := decide_eq_true he
    have HD := Lib.hid hde
    subst hj
    clear hde he
    go_wp2_with fail
    go_ret
    rw [HD.out]
    exact ⟨rfl, hbw⟩
   | succ k =>
    have hja : j < a.length := by have := HJ.out; omega
    have hjb : j < b.length := by rw [← HL.out]; exact hja
    have hj1 : (j : Int) < (a.length : Int) := by omega
    have hj2 : (j : Int) < (b.length : Int) := by omega
    have ga := List.getElem?_eq_getElem hja
    have gb := List.getElem?_eq_getElem hjb
    have hst : a[j] = b[j] → a.take (j + 1) = b.take (j + 1) := fun e => by rw [List.take_succ_eq_append_getElem hja, List.take_succ_eq_append_getElem hjb, HT.out, e]
    have hno : a[j] ≠ b[j] → decide (a = b) = false := fun h => decide_eq_false (fun e => h (by simp [e]))
    have HST := Lib.hid (And.intro hst hno)
    obtain ⟨ba, oa, rfl, la, ca⟩ := (ha.below hbw).at_ ga
    obtain ⟨bb, ob, rfl, lb, cb⟩ := (hb.below hbw).at_ gb
    clear hst hno ga gb
    generalize a[j] = x at *
    generalize b[j] = y at *
    have hbd := hbw.drew
    by_cases hxy : x = y
    ·have HS := Lib.hid (HST.out.1 hxy)
     subst hxy
     go_wp2_with fail
     go_region
     all_goals (
      go_wp2_with fail
      go_roundg k
      case rel => exact ⟨j + 1, by have := HJ.out; unfold Hid; omega, by go_num, HS, hbd⟩
      case measure => omega)
    ·have HS := Lib.hid (HST.out.2 hxy)
     have hne : (x == y) = false := beq_eq_false_iff_ne.2 hxy
     clear HST
     go_wp2_with fail
     go_region
     all_goals (
      go_wp2_with fail
      go_ret
      rw [HS.out]
      exact ⟨rfl, hbd⟩)
 ·have q0 : ((a.length : Int) == (b.length : Int)) = false := by rw [beq_eq_false_iff_ne]; omega
  have hne : decide (a = b) = false := decide_eq_false (fun e => hl (by rw [e]))
  have HN := Lib.hid hne
  clear hne
  go_wp2_with fail
  go_ret
  rw [HN.out]
  exact ⟨rfl, Below.refl _ _⟩
def IsSl (u : Value) : Prop := ∃ A n c, u = .slice A n c
def PRow (w : World) (B : Nat) (e : TypeId) (v : Value) (vals : List Value) : Prop :=
 (v = .slice none 0 0 ∧ vals = []) ∨ ∃ g cap cur, v = .slice (some ⟨g, 0, none⟩) vals.length cap ∧ B ≤ g ∧ w.heap[g]? = some (.cells cur e (0, 0)) ∧ vals.length ≤ cap ∧ cap ≤ maxLen ∧ cur.size = cap ∧ cur.toList.take vals.length = vals ∧ ∀ u ∈ cur.toList, IsSl u
theorem PRow.nil (w : World) (B : Nat) (e : TypeId) : PRow w B e (.slice none 0 0) [] := .inl ⟨rfl, rfl⟩
theorem PRow.below {w w' : World} {B : Nat} {e : TypeId} {v : Value} {vals : List Value} (h : PRow w B e v vals) (hb : Below w.heap.size w w') : PRow w' B e v vals := by
 rcases h with h | ⟨g, cap, cur, hv, hB, hg, h⟩
 ·exact .inl h
 ·exact .inr ⟨g, cap, cur, hv, hB, (hb.block g (Array.getElem?_eq_some_iff.1 hg).1).trans hg, h⟩
theorem PRow.ge {w : World} {B : Nat} {e : TypeId} {v : Value} {vals : List Value} (h : PRow w B e v vals) : ∀ g, v.ownBlock = some g → B ≤ g := fun g hg => by
 rcases h with ⟨rfl, _⟩ | ⟨g', cap, cur, rfl, hB, _⟩
 ·simp [Value.ownBlock] at hg
 ·simp [Value.ownBlock] at hg; omega
theorem PRow.form {w : World} {B : Nat} {e : TypeId} {v : Value} {vals : List Value} (h : PRow w B e v vals) : ∃ A c, v = .slice A vals.length c ∧ vals.length ≤ c := by
 rcases h with ⟨rfl, rfl⟩ | ⟨g', cap, cur, rfl, hB, _, hl, _⟩
 ·exact ⟨none, 0, rfl, Nat.le_refl _⟩
 ·exact ⟨_, _, rfl, hl⟩
theorem PRow.at_ {w : World} {B : Nat} {e : TypeId} {A : Option Addr} {l c : Nat} {vals : List Value} (h : PRow w B e (.slice A l c) vals) {i : Nat} {u : Value} (hi : vals[i]? = some u) : ∃ b, A = some ⟨b, 0, none⟩ ∧ b < w.heap.size ∧ w.cell? ⟨b, i, none⟩ = some u := by
 rcases h with ⟨_, rfl⟩ | ⟨g', cap, cur, hv, hB, hg, hl, hm, hs, ht, hn⟩
 ·simp at hi
 ·simp only [Value.slice.injEq] at hv
  refine ⟨g', hv.1, (Array.getElem?_eq_some_iff.1 hg).1, ?_⟩
  rw [cell_of_row w g' i cur e (0, 0) hg, ← Array.getElem?_toList]
  rw [← ht, List.getElem?_take] at hi
  split at hi
  ·exact hi
  ·cases hi
theorem natAt_setRow {w : World} {g : Nat} {cur cs : Array Value} {e : TypeId} (hg : w.heap[g]? = some (.cells cur e (0, 0))) (hn : ∀ u ∈ cur.toList, IsSl u) {u : Value} {n : Nat} (h : NatAt w u n) : NatAt (w.setRow g cs) u n := by
 obtain ⟨A, c, hv, hc, hr, ho⟩ := h
 have hsz : (w.setRow g cs).heap.size = w.heap.size := by simp [World.setRow]
 refine ⟨A, c, hv, hc, ?_, ho.mono (by rw [hsz]; exact Nat.le_refl _)⟩
 rcases hr with hr | ⟨b, off, rfl, hlt, hcs⟩
 ·exact .inl hr
 ·by_cases hz : dg n = []
  ·exact .inl hz
  ·have hbg : b ≠ g := fun eb => by
    subst eb
    have h0 := hcs 0 (List.length_pos_iff.2 hz)
    rw [cell_of_row w b (off + 0) cur e (0, 0) hg, ← Array.getElem?_toList] at h0
    obtain ⟨A', n', c', he⟩ := hn _ (List.mem_of_getElem? h0)
    cases he
   refine .inr ⟨b, off, rfl, by rw [hsz]; exact hlt, fun i hi => ?_⟩
   exact (World.cell?_of_block (setRow_other w g b cs hbg)).trans (hcs i hi)
section
variable {P : Program} {ops : Array Oper} {rest : List Oper} {o : Oper} {a : Act} {Q : Exit → Act → World → Prop} {w : World}
theorem wpList_push (hgd : o.guard = none) {s x : Operand} {t : TypeId} (ho : o.op = .call { callee := .builtin .append, args := #[s, x], argTypes := #[t, t] })
  (e : TypeId) (bytes : Nat) (ht : P.underlying t = some (.slice e)) (hi : (P.info? e).map (fun i => (i.zero, i.size, i.bytes)) = some (some (.slice none 0 0), 1, bytes))
  (B : Nat) (v : Value) (vals : List Value) (hs : a.eval s = v) (hrow : PRow w B e v vals) (b : Nat) (u : Value) (hx : a.eval x = .slice (some ⟨b, 0, none⟩) 1 1) (hc : w.cell? ⟨b, 0, none⟩ = some u) (hu : IsSl u)
  (hbytes : (vals.length + 1) * bytes ≤ 140737488355328) (h63 : vals.length + 1 ≤ maxLen) (hB : B ≤ w.heap.size)
  (h : ∀ v' w', PRow w' B e v' (vals ++ [u]) → Keep w w' → w.grownBy w' v.ownBlock → wpList P ops Q rest (a.put o.dst v') w') :
  wpList P ops Q (o :: rest) a w := by
 obtain ⟨i, hi0, hz, hs1, hby⟩ := info_parts hi
 have hsmall : vals.length + 1 ≤ 9223372036854775807 := by simp only [maxLen] at h63; omega
 have hone : u.oneCell' = true := by obtain ⟨A, n, c, rfl⟩ := hu; rfl
 have hnews : ∀ j y, [u][j]? = some y → w.cell? ((⟨b, 0, none⟩ : Addr).add j) = some y := fun j y hj => by
  match j, hj with
  | 0, hj => simp at hj; subst hj; simpa [Addr.add] using hc
 have grown : ∀ (cap old : Nat), cap = grownCap w (vals.length + 1) old e → vals.length + 1 ≤ cap → cap ≤ maxLen → ∀ row, (∀ y ∈ vals, IsSl y) →
   PRow (w.drew.alloc (.cells (vals.toArray ++ [u].toArray ++ Builtin.zeroCells (Value.slice none 0 0).cells (cap - (vals.length + 1))) e)) B e (.slice (some ⟨w.heap.size, 0, none⟩) (vals.length + 1) cap) (vals ++ [u]) ∧
   Keep w (w.drew.alloc (.cells (vals.toArray ++ [u].toArray ++ Builtin.zeroCells (Value.slice none 0 0).cells (cap - (vals.length + 1))) e)) ∧
   w.grownBy (w.drew.alloc (.cells (vals.toArray ++ [u].toArray ++ Builtin.zeroCells (Value.slice none 0 0).cells (cap - (vals.length + 1))) e)) row := by
  intro cap old _ h1 h2 row hv
  have hzc : (Builtin.zeroCells (Value.slice none 0 0).cells (cap - (vals.length + 1))).size = cap - (vals.length + 1) := by rw [size_zeroCells]; simp [Value.cells]
  refine ⟨.inr ⟨w.heap.size, cap, _, by rw [List.length_append]; rfl, hB, heap_alloc_new w.drew _, by rw [List.length_append]; exact h1, h2, ?_, ?_, ?_⟩, Keep.below ((Below.refl w.heap.size w).drew.alloc (Nat.le_refl _) _), ⟨rfl, rfl, rfl, by simp, fun k hk _ => heap_alloc_old w.drew _ hk⟩⟩
  ·rw [Array.size_append, Array.size_append, hzc]; simp; omega
  ·rw [Array.toList_append, Array.toList_append]
   exact List.take_left
  ·intro y hy
   rw [Array.toList_append, Array.toList_append] at hy
   rcases List.mem_append.1 hy with hy | hy
   ·rcases List.mem_append.1 hy with hy | hy
    ·exact hv y hy
    ·have hyu : y = u := by simpa using hy
     rw [hyu]; exact hu
   ·have hy2 : y ∈ Builtin.zeroCells #[Value.slice none 0 0] (cap - (vals.length + 1)) := Array.mem_toList_iff.1 hy
    unfold Builtin.zeroCells at hy2
    obtain ⟨j, _, rfl⟩ := Array.mem_map.1 hy2
    simp only [List.size_toArray, List.length_cons, List.length_nil, Nat.zero_add, Nat.mod_one]
    exact ⟨none, 0, 0, rfl⟩
 have key : ∃ v' w', (Builtin.append_ #[t, t] o.type #[v, .slice (some ⟨b, 0, none⟩) 1 1]).run P w = .ok v' w' ∧ PRow w' B e v' (vals ++ [u]) ∧ Keep w w' ∧ w.grownBy w' v.ownBlock := by
  have hcp := grownCap_ge w (vals.length + 1)
  have hcm := fun old => grownCap_le_maxLen w (vals.length + 1) old e h63
  rcases hrow with ⟨rfl, rfl⟩ | ⟨g, cap, cur, rfl, hBg, hg, hl, hm, hsz, htk, hn⟩
  ·have hr := run_append_nil (P := P) w t o.type e i (.slice none 0 0) ht hi0 hz ⟨b, 0, none⟩ 1 1 [u] (by rw [hs1]; rfl) hnews (by omega) (by omega) (by rw [hby]; simp at hbytes; omega)
   have hgr := grown _ 0 rfl (hcp 0 e) (hcm 0) (Value.ownBlock (.slice none 0 0)) (fun y hy => by cases hy)
   simp only [List.length_nil, Nat.zero_add, List.nil_append, Array.empty_append] at hgr ⊢
   exact ⟨_, _, hr, hgr⟩
  ·have hvs : ∀ y ∈ vals, IsSl y := fun y hy => hn y (by rw [← htk] at hy; exact List.mem_of_mem_take hy)
   by_cases hroom : vals.length + 1 ≤ cap
   ·have hr := run_append_room (P := P) w t o.type e i ht hi0 g vals.length cap cur hg ⟨b, 0, none⟩ 1 1 [u] (by rw [hs1]; rfl) hnews (fun y hy => by rw [List.mem_singleton.1 hy]; exact hone) hroom (by rw [hs1]; simp; omega)
    rw [hs1, Nat.mul_one, htk] at hr
    refine ⟨_, _, hr, .inr ⟨g, cap, _, by rw [List.length_append]; rfl, hBg, setRow_heap w g cur _ e _ hg, by rw [List.length_append]; exact hroom, hm, ?_, ?_, ?_⟩, fun x n hx => natAt_setRow hg hn hx, ⟨rfl, rfl, rfl, by simp [World.setRow], fun k _ hk => setRow_other w g k _ (fun e => hk (by simp [Value.ownBlock, e]))⟩⟩
    ·simp [List.length_drop]; omega
    ·exact List.take_left
    ·intro y hy
     have hy' : y ∈ vals ++ [u] ++ cur.toList.drop (vals.length + [u].length) := hy
     rcases List.mem_append.1 hy' with hy | hy
     ·rcases List.mem_append.1 hy with hy | hy
      ·exact hvs y hy
      ·rw [List.mem_singleton.1 hy]; exact hu
     ·exact hn y (List.mem_of_mem_drop hy)
   ·have holds : ∀ j y, vals[j]? = some y → w.cell? ((⟨g, 0, none⟩ : Addr).add j) = some y := fun j y hj => by
     have h1 : w.cell? ⟨g, j, none⟩ = some y := by
      rw [cell_of_row w g j cur e (0, 0) hg, ← Array.getElem?_toList]
      rw [← htk, List.getElem?_take] at hj
      split at hj
      ·exact hj
      ·cases hj
     unfold Addr.add
     split
     ·rename_i h0; subst h0; simpa using h1
     ·simpa using h1
    have hr := run_append_grow (P := P) w t o.type e i (.slice none 0 0) ht hi0 hz ⟨g, 0, none⟩ vals.length cap vals (by rw [hs1, Nat.mul_one]) holds ⟨b, 0, none⟩ 1 1 [u] (by rw [hs1]; rfl) hnews (by omega) (by omega) (growslice_fits (by omega) (by rw [hby]; exact hbytes))
    have hgr := grown _ cap rfl (hcp cap e) (hcm cap) (Value.ownBlock (.slice (some ⟨g, 0, none⟩) vals.length cap)) hvs
    exact ⟨_, _, hr, hgr⟩
 obtain ⟨v', w', hrun, h2, h3, h4⟩ := key
 refine wpList_plain hgd fun K hK => ?_
 unfold Oper.wp execOp
 simp only [ho, resolve, invoke, builtin, Sem.run_bind, Sem.run_pure, Result.andThen_ok, List.map_toArray, List.map_cons, List.map_nil, hs, hx, hrun]
 exact hK _ _ (h v' w' h2 h3 h4)
end
def RowsAt {α : Type} (E : World → Value → α → Prop) (w : World) (B : Nat) (e : TypeId) (v : Value) (ls : List α) : Prop :=
 ∃ vals, PRow w B e v vals ∧ vals.length = ls.length ∧ ∀ (i : Nat) (u : Value) (l : α), vals[i]? = some u → ls[i]? = some l → E w u l
theorem RowsAt.nil {α : Type} (E : World → Value → α → Prop) (w : World) (B : Nat) (e : TypeId) : RowsAt E w B e (.slice none 0 0) [] := ⟨[], PRow.nil _ _ _, rfl, fun i u l h => by simp at h⟩
theorem RowsAt.form {α : Type} {E : World → Value → α → Prop} {w : World} {B : Nat} {e : TypeId} {v : Value} {ls : List α} (h : RowsAt E w B e v ls) : ∃ A c, v = .slice A ls.length c ∧ ls.length ≤ c := by
 obtain ⟨vals, h1, h2, _⟩ := h
 rw [← h2]; exact h1.form
theorem RowsAt.at_ {α : Type} {E : World → Value → α → Prop} {w : World} {B : Nat} {e : TypeId} {A : Option Addr} {n c : Nat} {ls : List α} (h : RowsAt E w B e (.slice A n c) ls) {i : Nat} {l : α} (hi : ls[i]? = some l) : ∃ b u, A = some ⟨b, 0, none⟩ ∧ b < w.heap.size ∧ w.cell? ⟨b, i, none⟩ = some u ∧ E w u l := by
 obtain ⟨vals, h1, h2, h3⟩ := h
 have hl : i < vals.length := by rw [h2]; exact (List.getElem?_eq_some_iff.1 hi).1
 obtain ⟨b, hA, hb, hc⟩ := h1.at_ (List.getElem?_eq_getElem hl)
 exact ⟨b, _, hA, hb, hc, h3 i _ l (List.getElem?_eq_getElem hl) hi⟩
abbrev WsAt := RowsAt WholeAt
abbrev TsAt := RowsAt StrsAt
theorem WsAt.below {w w' : World} {B : Nat} {v : Value} {ls : List (List Int)} (h : WsAt w B 46 v ls) (hb : Below w.heap.size w w') : WsAt w' B 46 v ls := by
 obtain ⟨vals, h1, h2, h3⟩ := h
 exact ⟨vals, h1.below hb, h2, fun i u l hu hl => (h3 i u l hu hl).below hb⟩
theorem TsAt.below {w w' : World} {B : Nat} {v : Value} {ls : List (List (List UInt8))} (h : TsAt w B 22 v ls) (hb : Below w.heap.size w w') : TsAt w' B 22 v ls := by
 obtain ⟨vals, h1, h2, h3⟩ := h
 exact ⟨vals, h1.below hb, h2, fun i u l hu hl => (h3 i u l hu hl).below hb⟩
theorem WholeAt.grown {w w' : World} {B : Nat} {v u : Value} {vals : List Value} {l : List Int} (h : WholeAt w u l) (hr : PRow w B 46 v vals) (hk : Keep w w') (hg : w.grownBy w' v.ownBlock) : WholeAt w' u l := by
 obtain ⟨A, c, e, hc, h⟩ := h
 refine ⟨A, c, e, hc, ?_⟩
 rcases h with h | ⟨b, rows, e', hr', hi⟩
 ·exact .inl h
 ·refine .inr ⟨b, rows, e', ⟨(hg.block b hr'.lt (fun hb => ?_)).trans hr'.1, hr'.2⟩, hi.keep hk⟩
  rcases hr with ⟨rfl, _⟩ | ⟨g, cap, cur, rfl, _, hgg, _⟩
  ·simp [Value.ownBlock] at hb
  ·simp [Value.ownBlock] at hb
   subst hb
   have h1 : w.heap[b]? = some (.cells rows.flatten.toArray 49 (0, 0)) := hr'.1
   rw [hgg] at h1
   injection h1 with h1
   injection h1 with _ h1
   exact absurd h1 (by decide)
theorem StrsAt.grown {w w' : World} {B : Nat} {e : TypeId} {v u : Value} {vals : List Value} {l : List (List UInt8)} (h : StrsAt w u l) (hr : PRow w B e v vals) (hg : w.grownBy w' v.ownBlock) : StrsAt w' u l := by
 obtain ⟨A, c, e', hc, h⟩ := h
 refine ⟨A, c, e', hc, ?_⟩
 rcases h with h | ⟨b, off, e'', hl, hi⟩
 ·exact .inl h
 ·by_cases hl0 : l = []
  ·exact .inl hl0
  ·refine .inr ⟨b, off, e'', Nat.lt_of_lt_of_le hl hg.size, fun i t ht => (World.cell?_of_block (hg.block b hl (fun hb => ?_))).trans (hi i t ht)⟩
   rcases hr with ⟨rfl, _⟩ | ⟨g, cap, cur, rfl, _, hgg, _, _, _, _, hn⟩
   ·simp [Value.ownBlock] at hb
   ·simp [Value.ownBlock] at hb
    subst hb
    have h0 := hi i t ht
    rw [cell_of_row w b (off + i) cur e (0, 0) hgg, ← Array.getElem?_toList] at h0
    obtain ⟨A', n', c', he⟩ := hn _ (List.mem_of_getElem? h0)
    cases he
theorem WsAt.push {w w' : World} {B : Nat} {v v' u : Value} {vals : List Value} {ls : List (List Int)} {l : List Int} (h1 : PRow w B 46 v vals) (h2 : vals.length = ls.length) (h3 : ∀ (i : Nat) (u : Value) (l : List Int), vals[i]? = some u → ls[i]? = some l → WholeAt w u l) (hu : WholeAt w u l)
  (hp : PRow w' B 46 v' (vals ++ [u])) (hk : Keep w w') (hg : w.grownBy w' v.ownBlock) : WsAt w' B 46 v' (ls ++ [l]) := by
 refine ⟨_, hp, by rw [List.length_append, List.length_append, h2]; rfl, fun i x y hx hy => ?_⟩
 rcases Nat.lt_or_ge i vals.length with hi | hi
 ·rw [List.getElem?_append_left hi] at hx
  rw [List.getElem?_append_left (by omega)] at hy
  exact (h3 i x y hx hy).grown h1 hk hg
 ·rw [List.getElem?_append_right hi] at hx
  rw [List.getElem?_append_right (by omega), ← h2] at hy
  have h0 : i - vals.length = 0 := by
   have := (List.getElem?_eq_some_iff.1 hx).1
   simp at this; omega
  rw [h0] at hx hy
  simp at hx hy
  subst hx; subst hy
  exact hu.grown h1 hk hg
theorem TsAt.push {w w' : World} {B : Nat} {v v' u : Value} {vals : List Value} {ls : List (List (List UInt8))} {l : List (List UInt8)} (h1 : PRow w B 22 v vals) (h2 : vals.length = ls.length) (h3 : ∀ (i : Nat) (u : Value) (l : List (List UInt8)), vals[i]? = some u → ls[i]? = some l → StrsAt w u l) (hu : StrsAt w u l)
  (hp : PRow w' B 22 v' (vals ++ [u])) (hg : w.grownBy w' v.ownBlock) : TsAt w' B 22 v' (ls ++ [l]) := by
 refine ⟨_, hp, by rw [List.length_append, List.length_append, h2]; rfl, fun i x y hx hy => ?_⟩
 rcases Nat.lt_or_ge i vals.length with hi | hi
 ·rw [List.getElem?_append_left hi] at hx
  rw [List.getElem?_append_left (by omega)] at hy
  exact (h3 i x y hx hy).grown h1 hg
 ·rw [List.getElem?_append_right hi] at hx
  rw [List.getElem?_append_right (by omega), ← h2] at hy
  have h0 : i - vals.length = 0 := by
   have := (List.getElem?_eq_some_iff.1 hx).1
   simp at this; omega
  rw [h0] at hx hy
  simp at hx hy
  subst hx; subst hy
  exact hu.grown h1 hg
theorem below_grown {B : Nat} {a w w' : World} {v : Value} {e : TypeId} {vals : List Value} (h : Below B a w) (hg : w.grownBy w' v.ownBlock) (hr : PRow w B e v vals) (hB : B ≤ a.heap.size) : Below B a w' :=
 ⟨hg.os.trans h.os, hg.tape.trans h.tape, hg.output.trans h.output, Nat.le_trans h.size hg.size, fun k hk => (hg.block k (Nat.lt_of_lt_of_le hk (Nat.le_trans hB h.size)) (fun e => by have := hr.ge k e.symm; omega)).trans (h.block k hk)⟩
theorem infoWhole : (Tryz.prog.info? 46).map (fun i => (i.zero, i.size, i.bytes)) = some (some (.slice none 0 0), 1, 24) := by kernel_rfl
theorem infoStrs : (Tryz.prog.info? 22).map (fun i => (i.zero, i.size, i.bytes)) = some (some (.slice none 0 0), 1, 24) := by kernel_rfl
def cutQ (Q : List Int) (k : Nat) : Nat → Int := fun j => if j < k then cf Q j else 0
def restQ (Q ys : List Int) (M k j : Nat) : List Int := (List.range M).map (fun p => conv (cutQ Q (k + 1)) (cf ys) p - (if k ≤ p ∧ p < k + j then cf Q k * cf ys (p - k) else 0))
def quotQ (Q : List Int) (N k : Nat) : List Int := (List.range N).map (fun j => if k ≤ j then cf Q j else 0)
theorem restQ_len (Q ys : List Int) (M k j : Nat) : (restQ Q ys M k j).length = M := by unfold restQ; rw [List.length_map, List.length_range]
theorem quotQ_len (Q : List Int) (N k : Nat) : (quotQ Q N k).length = N := by unfold quotQ; rw [List.length_map, List.length_range]
theorem restQ_get (Q ys : List Int) (M k j : Nat) {p : Nat} (h : p < M) : (restQ Q ys M k j)[p]? = some (conv (cutQ Q (k + 1)) (cf ys) p - (if k ≤ p ∧ p < k + j then cf Q k * cf ys (p - k) else 0)) := by
 unfold restQ; rw [List.getElem?_map, List.getElem?_range h]; rfl
theorem quotQ_get (Q : List Int) (N k : Nat) {p : Nat} (h : p < N) : (quotQ Q N k)[p]? = some (if k ≤ p then cf Q p else 0) := by
 unfold quotQ; rw [List.getElem?_map, List.getElem?_range h]; rfl
theorem conv_cut (Q ys : List Int) (k p : Nat) : conv (cutQ Q (k + 1)) (cf ys) p = conv (cutQ Q k) (cf ys) p + (if k ≤ p then cf Q k * cf ys (p - k) else 0) := by
 rw [← conv_mono (cf Q k) k (cf ys) p, ← conv_add_left]
 refine conv_congr (fun j => ?_) (fun _ => rfl) p
 unfold cutQ
 by_cases h1 : j < k
 ·rw [if_pos (by omega), if_pos h1, if_neg (by omega), Int.add_zero]
 ·by_cases h2 : j = k
  ·rw [if_pos (by omega), if_neg h1, if_pos h2, h2, Int.zero_add]
  ·rw [if_neg (by omega), if_neg h1, if_neg h2, Int.add_zero]
theorem restQ_next (Q ys : List Int) (M k : Nat) : restQ Q ys M (k + 1) ys.length = restQ Q ys M k 0 := by
 unfold restQ
 refine List.map_congr_left (fun p _ => ?_)
 rw [conv_cut Q ys (k + 1) p]
 rw [if_neg (c := k ≤ p ∧ p < k + 0) (by omega), Int.sub_zero]
 by_cases h : k + 1 ≤ p
 ·by_cases h2 : p < k + 1 + ys.length
  ·rw [if_pos h, if_pos ⟨h, h2⟩]; omega
  ·rw [if_pos h, if_neg (by omega), cf_top (l := ys) (i := p - (k + 1)) (by omega)]; simp
 ·rw [if_neg h, if_neg (by omega)]; omega
theorem restQ_first (Q ys xs : List Int) (hid : ∀ i, cf xs i = conv (cf Q) (cf ys) i) {k : Nat} (hk : Q.length ≤ k + 1) : restQ Q ys xs.length k 0 = xs := by
 refine List.ext_getElem? (fun p => ?_)
 by_cases hp : p < xs.length
 ·rw [restQ_get _ _ _ _ _ hp, if_neg (by omega), Int.sub_zero, List.getElem?_eq_getElem hp, ← cf_get hp, hid p]
  refine congrArg some (conv_congr (fun j => ?_) (fun _ => rfl) p)
  unfold cutQ
  split
  ·rfl
  ·rw [cf_top (by omega)]
 ·rw [List.getElem?_eq_none (by rw [restQ_len]; omega), List.getElem?_eq_none (by omega)]
theorem restQ_top (Q ys : List Int) (M k : Nat) (hy : ys ≠ []) : conv (cutQ Q (k + 1)) (cf ys) (ys.length - 1 + k) = cf Q k * cf ys (ys.length - 1) := by
 have := conv_lead (p := cutQ Q (k + 1)) (q := cf ys) (m := k) (n := ys.length - 1) (fun i hi => by unfold cutQ; rw [if_neg (by omega)]) (fun i hi => cf_top (by omega))
 rw [Nat.add_comm (ys.length - 1) k, this]
 unfold cutQ
 rw [if_pos (by omega)]
theorem restQ_set (Q ys : List Int) (M k j : Nat) (hj : k + j < M) : (restQ Q ys M k j).set (j + k) (conv (cutQ Q (k + 1)) (cf ys) (k + j) - cf Q k * cf ys j) = restQ Q ys M k (j + 1) := by
 refine List.ext_getElem? (fun p => ?_)
 by_cases hp : p < M
 ·rw [restQ_get _ _ _ _ _ hp]
  by_cases h : p = j + k
  ·subst h
   rw [List.getElem?_set_self (by rw [restQ_len]; omega), if_pos (by omega), show j + k - k = j by omega, Nat.add_comm j k]
  ·rw [List.getElem?_set_ne (by omega), restQ_get _ _ _ _ _ hp]
   by_cases h2 : k ≤ p ∧ p < k + j
   ·rw [if_pos h2, if_pos (by omega)]
   ·rw [if_neg h2, if_neg (by omega)]
 ·rw [List.getElem?_eq_none (by rw [List.length_set, restQ_len]; omega), List.getElem?_eq_none (by rw [restQ_len]; omega)]
theorem quotQ_set (Q : List Int) (N k : Nat) (hk : k < N) : (quotQ Q N (k + 1)).set k (cf Q k) = quotQ Q N k := by
 refine List.ext_getElem? (fun p => ?_)
 by_cases hp : p < N
 ·rw [quotQ_get _ _ _ hp]
  by_cases h : p = k
  ·subst h
   rw [List.getElem?_set_self (by rw [quotQ_len]; omega), if_pos (Nat.le_refl _)]
  ·rw [List.getElem?_set_ne (by omega), quotQ_get _ _ _ hp]
   by_cases h2 : k + 1 ≤ p
   ·rw [if_pos h2, if_pos (by omega)]
   ·rw [if_neg h2, if_neg (by omega)]
 ·rw [List.getElem?_eq_none (by rw [List.length_set, quotQ_len]; omega), List.getElem?_eq_none (by rw [quotQ_len]; omega)]
theorem quotQ_end (Q : List Int) (N : Nat) (h : Q.length = N) : quotQ Q N 0 = Q := by
 refine List.ext_getElem? (fun p => ?_)
 by_cases hp : p < N
 ·rw [quotQ_get _ _ _ hp, if_pos (Nat.zero_le _), List.getElem?_eq_getElem (by omega), cf_get (by omega)]
 ·rw [List.getElem?_eq_none (by rw [quotQ_len]; omega), List.getElem?_eq_none (by omega)]
theorem quotQ_start (Q : List Int) (N : Nat) : quotQ Q N N = List.replicate N 0 := by
 refine List.ext_getElem? (fun p => ?_)
 by_cases hp : p < N
 ·rw [quotQ_get _ _ _ hp, if_neg (by omega), List.getElem?_replicate, if_pos hp]
 ·rw [List.getElem?_eq_none (by rw [quotQ_len]; omega), List.getElem?_eq_none (by rw [List.length_replicate]; omega)]
theorem conv_nl {f g : Nat → Int} {Kf Kg n : Nat} (hf : ∀ i, nl (f i).natAbs ≤ Kf) (hg : ∀ i, nl (g i).natAbs ≤ Kg) (hn : n ≤ 1073741824) : nl (conv f g n).natAbs ≤ Kf + Kg + 1 := by
 refine nl_le ?_
 have h1 : (conv f g n).natAbs ≤ (n + 1) * BN ^ (Kf + Kg) := by
  unfold conv
  refine sumTo_nl _ _ _ (fun k _ => ?_)
  rw [Int.natAbs_mul]
  exact prod_le (hf k) (hg _)
 have h2 : (n + 1) * BN ^ (Kf + Kg) < BN * BN ^ (Kf + Kg) := Nat.mul_lt_mul_of_pos_right (by unfold BN; omega) (Nat.pow_pos (by decide))
 rw [Nat.pow_succ, Nat.mul_comm _ BN]
 omega
theorem cutQ_nl {Q : List Int} {K : Nat} (h : ∀ n ∈ Q, nl n.natAbs ≤ K) (k i : Nat) : nl (cutQ Q k i).natAbs ≤ K := by
 unfold cutQ
 split
 ·exact cf_nl h i
 ·rw [show (0 : Int).natAbs = 0 from rfl, nl_zero]; exact Nat.zero_le _
theorem quo_len {Q xs ys : List Int} (tQ : Trimmed Q) (tx : Trimmed xs) (ty : Trimmed ys) (hy : ys ≠ []) (hid : ∀ i, cf xs i = conv (cf Q) (cf ys) i) : (Q = [] → xs = []) ∧ (Q ≠ [] → xs.length + 1 = Q.length + ys.length) := by
 constructor
 ·intro h
  refine trim_ext tx (fun a ha => by simp at ha) (fun i => ?_)
  rw [hid, h, conv_zero_left (fun i => cf_nil i), cf_nil]
 ·intro h
  have hq := (trimmed_cf h).1 tQ
  have hyl := (trimmed_cf hy).1 ty
  have l1 : 0 < Q.length := List.length_pos_iff.2 h
  have l2 : 0 < ys.length := List.length_pos_iff.2 hy
  have htop : cf xs (Q.length - 1 + (ys.length - 1)) ≠ 0 := by
   rw [hid, conv_lead (m := Q.length - 1) (n := ys.length - 1) (fun i hi => cf_top (by omega)) (fun i hi => cf_top (by omega))]
   exact Int.mul_ne_zero hq hyl
  have h1 : Q.length - 1 + (ys.length - 1) < xs.length := by
   refine Nat.lt_of_not_le (fun h => htop (cf_top h))
  have h2 : xs.length ≤ Q.length - 1 + (ys.length - 1) + 1 := by
   refine Nat.le_of_not_lt (fun hlt => ?_)
   have hx : xs ≠ [] := fun e => by rw [e] at hlt; simp at hlt
   refine (trimmed_cf hx).1 tx ?_
   rw [hid]
   exact conv_top (m := Q.length) (n := ys.length) (fun i hi => cf_top hi) (fun i hi => cf_top hi) (by omega)
  omega
set_option maxRecDepth 100000 in
theorem quo_whole (Q xs ys : List Int) (vx vy : Value) (w : World) (hx : WholeAt w vx xs) (hy : WholeAt w vy ys) (hy0 : ys ≠ []) (tQ : Trimmed Q) (tx : Trimmed xs) (ty : Trimmed ys) (hid : ∀ i, cf xs i = conv (cf Q) (cf ys) i) (K : Nat) (hKQ : ∀ n ∈ Q, nl n.natAbs ≤ K) (hKy : ∀ n ∈ ys, nl n.natAbs ≤ K)
  (hK2 : 7 * K + 8 ≤ LIM) (hlx : xs.length ≤ 1073741824) (hly : ys.length ≤ 1073741824) :
  Calls Tryz.prog 62 #[vx, vy] w fun e w' => ∃ v', e = .returned v' ∧ WholeAt w' v' Q ∧ Below w.heap.size w w' := by
 unfold LIM at hK2
 obtain ⟨A, c, rfl, hc⟩ := hx.form
 obtain ⟨A', c', rfl, hc'⟩ := hy.form
 obtain ⟨hq0, hq1⟩ := quo_len tQ tx ty hy0 hid
 have hys0 : ys.length ≠ 0 := fun e => hy0 (List.eq_nil_of_length_eq_zero e)
 have q1 : ((ys.length : Int) == 0) = false := by rw [beq_eq_false_iff_ne]; omega
 go_enter Tryz.func62, Tryz.ntmps62
 by_cases hlt : xs.length < ys.length
 ·have hlt' : (xs.length : Int) < (ys.length : Int) := by omega
  have hQ : Q = [] := Classical.byContradiction (fun h => by have := hq1 h; have := List.length_pos_iff.2 h; omega)
  have HQ := Lib.hid hQ
  clear hQ
  go_wp2_with fail
  go_ret
  rw [HQ.out]
  exact ⟨_, rfl, WholeAt.nil _ _ _, Below.refl _ _⟩
 ·have hlt' : ¬ (xs.length : Int) < (ys.length : Int) := by omega
  have hxs0 : xs ≠ [] := fun e => hlt (by rw [e]; exact Nat.pos_of_ne_zero hys0)
  have hQ0 : Q ≠ [] := fun e => hxs0 (hq0 e)
  have hql := hq1 hQ0
  obtain ⟨N, hN⟩ : ∃ N, Q.length = N := ⟨_, rfl⟩
  have hNi : (xs.length : Int) - ys.length + 1 = (N : Int) := by omega
  have hNp : 0 < N := by rw [← hN]; exact List.length_pos_iff.2 hQ0
  have hN1 : N + ys.length = xs.length + 1 := by omega
  have hNl : N ≤ 1073741824 := by omega
  have HN := Lib.hid hN
  have HID := Lib.hid hid
  have HTQ := Lib.hid tQ
  clear hN hid hq0 hq1 hql tQ tx hQ0
  obtain ⟨rows, hrl, hrl2, hrk, hsrc, hir, hone⟩ := hx.rows hxs0
  clear hrl2
  go_wp2_with (first
   | (at_make; refine wpList_makeR rfl rfl 49 _ 2 32 Tryz.underlying46 infoInt rfl (by decide) N rfl rfl (by first | rfl | omega) (by first | rfl | omega) (by omega) (by omega) ?_; intro w4 hz4 hr4 hb4)
   | (at_builtin; refine wpList_append rfl rfl 49 _ 2 32 Tryz.underlying46 infoInt rfl (by decide) w4.heap.size (.slice (some ⟨w4.heap.size, 0, none⟩) 0 0) 0 [] rfl (own_empty w4) rows.flatten rfl (by rw [flat_len hrk, hrl]) (hsrc.below (hb4.alloc hb4.size _)) hone (by omega) (by omega) (by simp) ?_; intro v5 w5 ho5 hg5 hat5))
  have hb45 : Below w4.heap.size w4 w5 := ⟨hg5.os, hg5.tape, hg5.output, Nat.le_trans (by simp) hg5.size, fun k hk => (hg5.block k (by simp; omega) (fun e => by simp [Value.ownBlock] at e; omega)).trans (Below.heap_alloc w4 _ k hk)⟩
  have hb5 : Below w.heap.size w w5 := hb4.trans (hb45.mono hb4.size)
  rw [Nat.zero_add, List.nil_append] at ho5
  obtain ⟨g, cap, rfl, hg1, hg2, hcap, hcm, hS⟩ := own_rows ho5 hrk hrl rfl (by omega) (hir.keep (Keep.below hb5))
  have hR : OwnW w5 w.heap.size (List.replicate N 0) := (OwnW.made hr4).below hb45
  have hgw : w.heap.size < g := by have := hz4; omega
  clear hb4 hr4 hz4 hg5 hat5 ho5 hb45 hsrc hir hone hrk hrl
  have hNm : N = N - 1 + 1 := by omega
  have hSx : OwnW w5 g (restQ Q ys xs.length (N - 1) 0) := by rw [restQ_first Q ys xs HID.out (by rw [HN.out]; omega)]; exact hS
  have hRx : OwnW w5 w.heap.size (quotQ Q N N) := by rw [quotQ_start]; exact hR
  clear hS hR
  clear hNm
  go_loopg [7] N (fun k i wr => i = .int .i64 ((k : Int) - 1) ∧ k ≤ N ∧ OwnW wr w.heap.size (quotQ Q N k) ∧ (0 < k → OwnW wr g (restQ Q ys xs.length (k - 1) 0)) ∧ Below w.heap.size w wr)
  case atStart => exact ⟨by go_num, Nat.le_refl _, hRx, fun _ => hSx, hb5⟩
  case round =>
   clear hRx hSx hb5 hg2
   obtain ⟨rfl, hkN, hR, hS, hb⟩ := hrel
   generalize wr = wy at *
   cases gk with
   | zero =>
    have hQl : Q.length ≤ N := by rw [HN.out]; exact Nat.le_refl _
    rw [quotQ_end Q N HN.out] at hR
    have hW := hR.whole N hQl
    have ht := trim_whole Q (some ⟨w.heap.size, 0, none⟩) N wy hW K hKQ (by omega) (by omega)
    rw [trim_self HTQ.out, HN.out] at ht
    go_wp2_with fail
    ((with_reducible refine ht.mono ?_))
    rintro e6 w6 ⟨rfl, h6, hb6⟩
    go_wp2
    go_ret
    exact ⟨_, rfl, h6, hb.trans (hb6.mono hb.size)⟩
   | succ k =>
    replace hS := hS (Nat.succ_pos k)
    rw [Nat.add_sub_cancel] at hS
    obtain ⟨p, hp⟩ : ∃ p, p = ys.length - 1 + k := ⟨_, rfl⟩
    have hpx : p < xs.length := by omega
    have hpi : (ys.length : Int) - 1 + k = (p : Int) := by omega
    have hp1 : (p : Int) < (xs.length : Int) := by omega
    have hp0 : (0 : Int) ≤ (p : Int) := by omega
    have hk0 : (0 : Int) ≤ (k : Int) := by omega
    have hk1 : (k : Int) < (N : Int) := by omega
    have hle0 := (trimmed_cf hy0).1 ty
    have hget := restQ_get Q ys xs.length k 0 hpx
    rw [if_neg (by omega), Int.sub_zero, hp, restQ_top Q ys xs.length k hy0, ← hp] at hget
    obtain ⟨st, At, kt, ct, g0, g1, htop⟩ := hS.at_ hget
    have bQk := cf_nl hKQ k
    have ble := cf_nl hKy (ys.length - 1)
    have btp := nl_mul_int (cf Q k) (cf ys (ys.length - 1)) _ _ bQk ble
    have hle := fun W h => lead_whole ys (.slice A' ys.length c') W h hy0 (by omega)
    have hqu := fun W v u h1 h2 => quo_any (cf Q k * cf ys (ys.length - 1)) (cf ys (ys.length - 1)) v u W h1 h2 hle0 (by omega)
    rw [Int.mul_tdiv_cancel _ hle0] at hqu
    unfold RetInt at hle hqu
    generalize cf Q k * cf ys (ys.length - 1) = TP at *
    generalize cf ys (ys.length - 1) = le at *
    have hyw := hy.below hb
    have hyd := hyw.drew
    have hgl := hS.lt
    have hgl0 := hS.lt
    have hbx := hb.size
    have hZ : Below wy.heap.size wy (wy.alloc (.cells #[.bool false, .slice none 0 0] 49)) := (Below.refl _ _).alloc (Nat.le_refl _) _
    have hya := (hyw.below hZ).drew
    have DN := Bx.new wy [.bool false, .slice none 0 0] 49
    have HP := Lib.hid hp
    have hw1 : IntKind.i64.wrap ((ys.length : Int) - 1) = (ys.length : Int) - 1 := by rw [IntKind.wrap_i64]; omega
    have hw2 : IntKind.i64.wrap ((ys.length : Int) - 1 + k) = (ys.length : Int) - 1 + k := by rw [IntKind.wrap_i64]; omega
    have hA : (0 : Int) ≤ (ys.length : Int) - 1 + k := by omega
    have hB : (ys.length : Int) - 1 + k < (xs.length : Int) := by omega
    have hC : ((ys.length : Int) - 1 + k).toNat = p := by omega
    clear hpi hp1 hp0 hp hget
    have n_D : ∀ o, (wy.alloc o).cell? ⟨g, p * 2, none⟩ = some (.bool st) := fun o => (((Below.refl _ _).alloc (Nat.le_refl _) o).cell (p := ⟨g, p * 2, none⟩) hgl).trans g0
    have n_E : ∀ o, (wy.alloc o).cell? ⟨g, p * 2 + 1, none⟩ = some (.slice At kt ct) := fun o => (((Below.refl _ _).alloc (Nat.le_refl _) o).cell (p := ⟨g, p * 2 + 1, none⟩) hgl).trans g1
    rw [show ((k + 1 : Nat) : Int) - 1 = (k : Int) by omega]
    go_upto_region 8 with fail
    go_cut [8] (fun s wx => ∃ gd, s = .pointer (some ⟨gd, 0, none⟩) ∧ w.heap.size < gd ∧ g < gd ∧ IntBx wx gd (cf Q k) ∧ OwnW wx w.heap.size (quotQ Q N (k + 1)) ∧ OwnW wx g (restQ Q ys xs.length k 0) ∧ Below w.heap.size w wx)
    case first =>
     go_region_held3 (fun w' => w'.cell? ⟨g, p * 2, none⟩ = some (.bool st) ∧ w'.cell? ⟨g, p * 2 + 1, none⟩ = some (.slice At kt ct))
      (first | (with_reducible exact ⟨g0, g1⟩) | (exact ⟨(((Below.refl _ _).alloc (Nat.le_refl _) _).cell (p := ⟨g, p * 2, none⟩) hgl).trans g0, (((Below.refl _ _).alloc (Nat.le_refl _) _).cell (p := ⟨g, p * 2 + 1, none⟩) hgl).trans g1⟩) | (exact ⟨(cell_far _ _ _ _ _ _ (show wy.heap.size ≠ g by omega)).trans ((cell_far _ _ _ _ _ _ (show wy.heap.size ≠ g by omega)).trans g0), (cell_far _ _ _ _ _ _ (show wy.heap.size ≠ g by omega)).trans ((cell_far _ _ _ _ _ _ (show wy.heap.size ≠ g by omega)).trans g1)⟩) | (exact ⟨(cell_far _ _ _ _ _ _ (show w6.heap.size ≠ g by omega)).trans ((cell_far _ _ _ _ _ _ (show w6.heap.size ≠ g by omega)).trans g0), (cell_far _ _ _ _ _ _ (show w6.heap.size ≠ g by omega)).trans ((cell_far _ _ _ _ _ _ (show w6.heap.size ≠ g by omega)).trans g1)⟩) | go_keep)
      (first
      | (go_at_call 47; (with_reducible refine (hle _ hyd).mono ?_); rintro e6 w6 ⟨v6, rfl, h6, hb6'⟩; have hb6 : Below wy.heap.size wy w6 := (Below.refl wy.heap.size wy).drew.trans hb6'; replace g0 := (hb6.cell (p := ⟨g, p * 2, none⟩) hgl).trans g0; replace g1 := (hb6.cell (p := ⟨g, p * 2 + 1, none⟩) hgl).trans g1; replace hgl := Nat.lt_of_lt_of_le hgl hb6.size; have h6l := hb6.size; have htd := htop.below hb6; have hRd := hR.below hb6; have hSd := hS.below hb6; have hbd := hb.trans (hb6.mono hb.size))
      | (go_at_call 47; (with_reducible refine (hle _ hya).mono ?_); rintro e6 w6 ⟨v6, rfl, h6, hb6'⟩; have hb6 : Below wy.heap.size wy w6 := hZ.drew.trans (hb6'.mono hZ.size); have D := DN.drew.below hb6'; replace g0 := (hb6.cell (p := ⟨g, p * 2, none⟩) hgl).trans g0; replace g1 := (hb6.cell (p := ⟨g, p * 2 + 1, none⟩) hgl).trans g1; replace hgl := Nat.lt_of_lt_of_le hgl hb6.size; have h6l := hb6.size; have htd := htop.below hb6; have hRd := hR.below hb6; have hSd := hS.below hb6; have hbd := hb.trans (hb6.mono hb.size))
      | (go_at_call 66; (with_reducible refine (hqu _ _ _ htd h6).mono ?_); rintro e7 w7 ⟨v7, rfl, h7, hb7⟩; obtain ⟨s7, A7, k7, c7, rfl⟩ := h7.form; have h7l := hb7.size; replace g0 := (hb7.cell (p := ⟨g, p * 2, none⟩) hgl).trans g0; replace g1 := (hb7.cell (p := ⟨g, p * 2 + 1, none⟩) hgl).trans g1; replace hgl := Nat.lt_of_lt_of_le hgl hb7.size; replace hRd := hRd.below hb7; replace hSd := hSd.below hb7; replace hbd := hbd.trans (hb7.mono hbd.size); (try replace D := D.below hb7); (try have D_0 := D.cell 0 rfl); (try have D_1 := D.cell 1 rfl); (try have D_f0 := D.free 0); (try have D_f1 := D.free 1))
      | (go_at_call 66; (with_reducible refine (hqu _ _ _ (htd.below ((Below.refl _ _).alloc (Nat.le_refl _) (.cells #[.bool false, .slice none 0 0] 49))) (h6.below ((Below.refl _ _).alloc (Nat.le_refl _) (.cells #[.bool false, .slice none 0 0] 49)))).mono ?_); rintro e7 w7 ⟨v7, rfl, h7, hb7'⟩; obtain ⟨s7, A7, k7, c7, rfl⟩ := h7.form; have hb7 : Below w6.heap.size w6 w7 := ((Below.refl w6.heap.size w6).alloc (Nat.le_refl _) (.cells #[.bool false, .slice none 0 0] 49)).trans (hb7'.mono ((Below.refl w6.heap.size w6).alloc (Nat.le_refl _) (.cells #[.bool false, .slice none 0 0] 49)).size); have D := (Bx.new w6 [.bool false, .slice none 0 0] 49).below hb7'; have h7l := hb7.size; replace g0 := (hb7.cell (p := ⟨g, p * 2, none⟩) hgl).trans g0; replace g1 := (hb7.cell (p := ⟨g, p * 2 + 1, none⟩) hgl).trans g1; replace hgl := Nat.lt_of_lt_of_le hgl hb7.size; replace hRd := hRd.below hb7; replace hSd := hSd.below hb7; replace hbd := hbd.trans (hb7.mono hbd.size); have D_0 := D.cell 0 rfl; have D_1 := D.cell 1 rfl; have D_f0 := D.free 0; have D_f1 := D.free 1))
     all_goals (
      go_wp2_with fail
      go_meet
      first
       | exact ⟨_, rfl, by omega, by omega, (IntBx.stored (m := 0) ⟨_, _, _, _, D, IntAt.zero _⟩ h7).1, hRd.step (IntBx.stored (m := 0) ⟨_, _, _, _, D, IntAt.zero _⟩ h7).2 (by omega), hSd.step (IntBx.stored (m := 0) ⟨_, _, _, _, D, IntAt.zero _⟩ h7).2 (by omega), below_step hbd (IntBx.stored (m := 0) ⟨_, _, _, _, D, IntAt.zero _⟩ h7).2 (by omega)⟩
       | exact ⟨_, rfl, by omega, by omega, ⟨_, _, _, _, Bx.new w7 [.bool s7, .slice A7 k7 c7] 49, h7.keep (Keep.alloc _ _)⟩, hRd.alloc _, hSd.alloc _, hbd.alloc hbd.size _⟩)
    case rest =>
     clear hR hS hb
     obtain ⟨gd, rfl, hgd1, hgd2, hD, hR, hS, hb⟩ := hcut
     clear hle hqu hyd hya hZ DN n_D n_E hw1 hw2 hA hB hC g0 g1 htop hle0 btp ble hgl hgl0 hyw
     have hkq : k < (quotQ Q N (k + 1)).length := by rw [quotQ_len]; omega
     obtain ⟨sd, Ad, kd, cd, D, hDv⟩ := id hD
     have D_0 := D.cell 0 rfl
     have D_1 := D.cell 1 rfl
     obtain ⟨s', B', l', d', q0, q1', -⟩ := hR.at_ (List.getElem?_eq_getElem hkq)
     have f0 := hR.free (k * 2)
     have f1 := hR.free (k * 2 + 1)
     go_upto_region 10 with fail
     have hst := hR.stored hkq hDv
     have hD2 := hD.step hst.2 (by omega)
     have hS2 := hS.step hst.2 (by omega)
     have hb2 := below_step hb hst.2 (Nat.le_refl _)
     have hR2 := hst.1
     rw [quotQ_set Q N k (by omega)] at hR2
     clear hst hR hS hD hb D D_0 D_1 q0 q1' f0 f1 hDv
     generalize (wc.setCell ⟨w.heap.size, k * 2, none⟩ (.bool sd)).setCell ⟨w.heap.size, k * 2 + 1, none⟩ (.slice Ad kd cd) = wd at *
     go_wp2_with fail
     have hcn : ∀ p, p < xs.length → nl (conv (cutQ Q (k + 1)) (cf ys) p).natAbs ≤ K + K + 1 := fun p hp => conv_nl (fun i => cutQ_nl hKQ (k + 1) i) (fun i => cf_nl hKy i) (by omega)
     go_loopg [55] ys.length (fun k' i wx => ∃ j, Hid (j + k' = ys.length) ∧ i = .int .i64 j ∧ IntBx wx gd (cf Q k) ∧ OwnW wx w.heap.size (quotQ Q N k) ∧ OwnW wx g (restQ Q ys xs.length k j) ∧ Below w.heap.size w wx)
     case atStart => exact ⟨0, by unfold Hid; omega, rfl, hD2, hR2, hS2, hb2⟩
     case round =>
      clear hD2 hR2 hS2 hb2
      obtain ⟨j, HJ, rfl, hD, hR, hS, hb⟩ := hrel
      generalize wr = wx at *
      have hj0 : (0 : Int) ≤ (j : Int) := by omega
      cases gk with
      | zero =>
       have hj : j = ys.length := HJ.out
       subst hj
       go_wp2_with fail
       go_roundg k
       case rel =>
        refine ⟨by go_num, by omega, hR, fun h => ?_, hb⟩
        obtain ⟨k', rfl⟩ : ∃ k', k = k' + 1 := ⟨k - 1, by omega⟩
        rw [restQ_next] at hS
        exact hS
       case measure => omega
      | succ k' =>
       have hjy : j < ys.length := by have := HJ.out; omega
       have hj1 : (j : Int) < (ys.length : Int) := by omega
       have hjk : k + j < xs.length := by have := HP.out; omega
       have hgt := restQ_get Q ys xs.length k j (p := j + k) (by omega)
       rw [if_neg (by omega)] at hgt
       have hset := restQ_set Q ys xs.length k j hjk
       have hcb := hcn (j + k) (by omega)
       rw [Nat.add_comm k j] at hset
       rw [Int.sub_zero] at hgt
       have hlr : j + k < (restQ Q ys xs.length k j).length := by rw [restQ_len]; omega
       obtain ⟨b, s, B, l, d, rfl, hbl, y0, y1, hyi, hym⟩ := (hy.below hb).get (i := j) hjy
       have bY := hKy _ hym
       have bmu := nl_mul_int (cf Q k) (cf ys j) _ _ bQk bY
       have hmul := fun W v u h1 h2 => mul_any (cf Q k) (cf ys j) v u W h1 h2 (by omega)
       have hsub := fun W v u h1 h2 => sub_any (conv (cutQ Q (k + 1)) (cf ys) (j + k)) (cf Q k * cf ys j) v u W h1 h2 (by omega) (by omega)
       unfold RetInt at hmul hsub
       have HSET := Lib.hid hset
       clear hset hym bmu hcb
       generalize conv (cutQ Q (k + 1)) (cf ys) (j + k) - cf Q k * cf ys j = nv at *
       generalize cf Q k * cf ys j = mv at *
       generalize conv (cutQ Q (k + 1)) (cf ys) (j + k) = ov at *
       generalize cf ys j = yv at *
       obtain ⟨st, At, kt, ct, g0, g1, hov⟩ := hS.at_ hgt
       obtain ⟨sd, Ad, kd, cd, D, hDv⟩ := id hD
       have hwl := hS.lt
       have hdl := D.lt
       have hgc : wx.heap.size ≠ g := by omega
       have hC0 : Below wx.heap.size wx (wx.alloc (.cells #[.bool s, .slice B l d] 49)) := (Below.refl _ _).alloc (Nat.le_refl _) _
       have C := Bx.new wx [.bool s, .slice B l d] 49
       have C_0 := C.cell 0 rfl
       have C_1 := C.cell 1 rfl
       have D_0 := (D.below hC0).cell 0 rfl
       have D_1 := (D.below hC0).cell 1 rfl
       replace g0 := (hC0.cell (p := ⟨g, (j + k) * 2, none⟩) hwl).trans g0
       replace g1 := (hC0.cell (p := ⟨g, (j + k) * 2 + 1, none⟩) hwl).trans g1
       have hov' := (hov.below hC0).drew
       have hDv' := (hDv.below hC0).drew
       have hyi' := (hyi.below hC0).drew
       have hw1 : IntKind.i64.wrap ((j : Int) + k) = (j : Int) + k := by rw [IntKind.wrap_i64]; omega
       have hA : (0 : Int) ≤ (j : Int) + k := by omega
       have hB : (j : Int) + k < (xs.length : Int) := by omega
       have hC : ((j : Int) + k).toNat = j + k := by omega
       have hS' := (hS.below hC0).drew
       have hR' := (hR.below hC0).drew
       have hD' := hD.below hC0.drew
       have hb' := (hb.trans (hC0.mono hb.size)).drew
       replace hwl := Nat.lt_of_lt_of_le hwl hC0.size
       replace hdl := Nat.lt_of_lt_of_le hdl hC0.size
       have hcl := C.lt
       clear hgt hS hR hD hb D hyi hov hDv
       go_wp2_with fail
       clear C hC0
       generalize wx.heap.size = gc at *
       generalize wx.alloc (.cells #[.bool s, .slice B l d] 49) = wz at *
       go_region_with (first
         | (go_at_call 27; (with_reducible refine (hmul _ _ _ hDv' hyi').mono ?_); rintro e6 w6 ⟨v6, rfl, h6, hb6⟩; replace hov' := hov'.below hb6; replace hS' := hS'.below hb6; replace hR' := hR'.below hb6; replace hD' := hD'.below hb6; replace hb' := hb'.trans (hb6.mono hb'.size); replace g0 := (hb6.cell (p := ⟨g, (j + k) * 2, none⟩) hwl).trans g0; replace g1 := (hb6.cell (p := ⟨g, (j + k) * 2 + 1, none⟩) hwl).trans g1; replace D_0 := (hb6.cell (p := ⟨gd, 0, none⟩) hdl).trans D_0; replace D_1 := (hb6.cell (p := ⟨gd, 1, none⟩) hdl).trans D_1; replace C_0 := (hb6.cell (p := ⟨gc, 0, none⟩) hcl).trans C_0; replace C_1 := (hb6.cell (p := ⟨gc, 1, none⟩) hcl).trans C_1; replace hwl := Nat.lt_of_lt_of_le hwl hb6.size; replace hdl := Nat.lt_of_lt_of_le hdl hb6.size; replace hcl := Nat.lt_of_lt_of_le hcl hb6.size)
         | (go_at_call 99; (with_reducible refine (hsub _ _ _ hov' h6).mono ?_); rintro e7 w7 ⟨v7, rfl, h7, hb7⟩; obtain ⟨s7, A7, k7, c7, rfl⟩ := h7.form; replace hS' := hS'.below hb7; replace hR' := hR'.below hb7; replace hD' := hD'.below hb7; replace hb' := hb'.trans (hb7.mono hb'.size); replace g0 := (hb7.cell (p := ⟨g, (j + k) * 2, none⟩) hwl).trans g0; replace g1 := (hb7.cell (p := ⟨g, (j + k) * 2 + 1, none⟩) hwl).trans g1; replace D_0 := (hb7.cell (p := ⟨gd, 0, none⟩) hdl).trans D_0; replace D_1 := (hb7.cell (p := ⟨gd, 1, none⟩) hdl).trans D_1; replace C_0 := (hb7.cell (p := ⟨gc, 0, none⟩) hcl).trans C_0; replace C_1 := (hb7.cell (p := ⟨gc, 1, none⟩) hcl).trans C_1; have f0 := hS'.free ((j + k) * 2); have f1 := hS'.free ((j + k) * 2 + 1)))
       all_goals (
        go_wp2_with fail
        have hst := (hS'.stored hlr h7).2
        have zS := (hS'.stored hlr h7).1
        rw [HSET.out] at zS
        have zR := hR'.step hst (by omega)
        have zD := hD'.step hst (by omega)
        have zb := below_step hb' hst (by omega)
        go_roundg k'
        case rel => exact ⟨j + 1, by have := HJ.out; unfold Hid; omega, by go_num, zD, zR, zS, zb⟩
        case measure => omega)
structure QuoOf (x c Q : List Int) : Prop where
 trim : Trimmed Q
 ne : c ≠ []
 tc : Trimmed c
 id_ : ∀ i, cf x i = conv (cf Q) (cf c) i
inductive Sqf (B : Nat) : List Int → List Int → List (List Int) → Prop
 | done {p r : List Int} (h : p.length ≤ 1) : Sqf B p r []
 | step {p r c Qp Qr : List Int} {l : List (List Int)} (h : 1 < p.length) (hg : GcdTr B p r c) (hp : QuoOf p c Qp) (hr : QuoOf r c Qr) (t : Sqf B c Qr l) : Sqf B p r (Qp :: l)
structure GcdFit (K B : Nat) (xs ys : List Int) : Prop where
 tx : Trimmed xs
 ty : Trimmed ys
 kx : ∀ n ∈ xs, nl n.natAbs ≤ K
 ky : ∀ n ∈ ys, nl n.natAbs ≤ K
 b1 : xs.length < ys.length → (K + 1) * (ys.length - xs.length + 2) * 3 ^ xs.length ≤ B
 b2 : ¬ xs.length < ys.length → (K + 1) * (xs.length - ys.length + 2) * 3 ^ ys.length ≤ B
 lx : xs.length ≤ 1073741824
 ly : ys.length ≤ 1073741824
structure SqfInv (K B : Nat) (Inv : Nat → List Int → List Int → Prop) : Prop where
 fit : ∀ n p r, Inv n p r → GcdFit K B p r
 go : ∀ n p r c, Inv n p r → 1 < p.length → GcdTr B p r c → ∃ Qp Qr n', n' < n ∧ QuoOf p c Qp ∧ QuoOf r c Qr ∧ (∀ x ∈ c, nl x.natAbs ≤ K) ∧ (∀ x ∈ Qp, nl x.natAbs ≤ K) ∧ (∀ x ∈ Qr, nl x.natAbs ≤ K) ∧ c.length ≤ 1073741824 ∧ Inv n' c Qr
theorem gcd_fit {K B : Nat} {xs ys : List Int} (h : GcdFit K B xs ys) (vx vy : Value) (w : World) (hG : Glob w) (hx : WholeAt w vx xs) (hy : WholeAt w vy ys) (hK1 : 1 ≤ K) (hB2 : 5 * B + 8 ≤ LIM) :
  Calls Tryz.prog 32 #[vx, vy] w fun e w' => ∃ v' g, e = .returned v' ∧ WholeAt w' v' g ∧ GcdTr B xs ys g ∧ Below w.heap.size w w' :=
 gcd_whole xs ys vx vy w hG hx hy h.tx h.ty K B h.kx h.ky hK1 h.b1 h.b2 hB2 h.lx h.ly
def RetSqf (w : World) (B : Nat) (ns : List Int) (e : Ending) (w' : World) : Prop :=
 ∃ v g Q l, e = .returned v ∧ WsAt w' w.heap.size 46 v l ∧ GcdTr B (primL ns) (deriveL (primL ns)) g ∧ QuoOf (primL ns) g Q ∧ Sqf B Q g l ∧ Below w.heap.size w w'
set_option maxRecDepth 100000 in
theorem sqf_whole (ns : List Int) (v : Value) (w : World) (hG : Glob w) (hv : WholeAt w v ns) (ht : Trimmed ns) (K B : Nat) (hK : ∀ n ∈ ns, nl n.natAbs ≤ K) (hK1 : 1 ≤ K) (hK2 : 7 * K + 8 ≤ LIM) (hB2 : 5 * B + 8 ≤ LIM) (hl : ns.length ≤ 1073741824)
  (Inv : Nat → List Int → List Int → Prop) (hI : SqfInv K B Inv) (hfit : GcdFit K B (primL ns) (deriveL (primL ns)))
  (hst : ∀ g, GcdTr B (primL ns) (deriveL (primL ns)) g → ∃ Q n, QuoOf (primL ns) g Q ∧ (∀ x ∈ g, nl x.natAbs ≤ K) ∧ (∀ x ∈ Q, nl x.natAbs ≤ K) ∧ g.length ≤ 1073741824 ∧ n ≤ 1073741824 ∧ Inv n Q g) :
  Calls Tryz.prog 28 #[v] w (RetSqf w B ns) := by
 obtain ⟨A, c, rfl, hc⟩ := hv.form
 have hpr := primitive_whole ns _ w hG hv ht K hK (by omega) (by omega)
 have hpl := primL_len ns
 have hpk := primL_nl hK
 have htp := prim_trimmed ht
 unfold RetSqf
 generalize primL ns = p at *
 have hlp : p.length ≤ 1073741824 := by omega
 have hder := fun W v h => derive_whole p v W h K hpk (by unfold LIM at hK2 ⊢; omega) hlp
 clear hpl
 generalize deriveL p = d at *
 go_enter Tryz.func28, Tryz.ntmps28
 go_wp2_with fail
 ((with_reducible refine hpr.mono ?_))
 rintro e1 w1 ⟨v1, rfl, h1, hb⟩
 obtain ⟨A1, c1, rfl, hc1⟩ := h1.form
 clear hpr
 go_wp2_with fail
 ((with_reducible refine (hder _ _ h1).mono ?_))
 rintro e2 w2 ⟨v2, rfl, h2, hb2⟩
 obtain ⟨A2, c2, rfl, hc2⟩ := h2.form
 replace h1 := h1.below hb2
 replace hb := hb.trans (hb2.mono hb.size)
 clear hder
 go_wp2_with fail
 ((with_reducible refine (gcd_fit hfit _ _ _ (hG.below hb) h1 h2 hK1 hB2).mono ?_))
 rintro e3 w3 ⟨v3, g, rfl, h3, hgt, hb3⟩
 obtain ⟨A3, c3, rfl, hc3⟩ := h3.form
 replace h1 := h1.below hb3
 replace hb := hb.trans (hb3.mono hb.size)
 obtain ⟨Q, n, hQ, kg, kQ, lg, ln, hin⟩ := hst g hgt
 have HGT := Lib.hid hgt
 have HQ := Lib.hid hQ
 have hqw := fun W h1 h2 => quo_whole Q p g (.slice A1 p.length c1) (.slice A3 g.length c3) W h1 h2 hQ.ne hQ.trim htp hQ.tc hQ.id_ K kQ kg hK2 hlp lg
 clear hgt hQ hst hfit h2
 go_wp2_with fail
 ((with_reducible refine (hqw _ h1 h3).mono ?_))
 rintro e4 w4 ⟨v4, rfl, h4, hb4⟩
 obtain ⟨A4, c4, rfl, hc4⟩ := h4.form
 replace h3 := h3.below hb4
 replace hb := hb.trans (hb4.mono hb.size)
 clear hqw h1
 go_wp2_with fail
 go_loopg [4, 5, 6] n (fun k vr vp vf wr => ∃ r p Ar cr Ap cp ls, vr = .slice Ar r.length cr ∧ vp = .slice Ap p.length cp ∧ WholeAt wr (.slice Ar r.length cr) r ∧ WholeAt wr (.slice Ap p.length cp) p ∧ WsAt wr w.heap.size 46 vf ls ∧ Inv k p r ∧ k ≤ 1073741824 ∧ ls.length + k ≤ n ∧ Hid (∀ l, Sqf B p r l → Sqf B Q g (ls ++ l)) ∧ Below w.heap.size w wr)
 case atStart => exact ⟨g, Q, A3, c3, A4, c4, [], rfl, rfl, h3, h4, RowsAt.nil _ _ _ _, hin, ln, by simp, fun l h => h, hb⟩
 case round =>
  clear h3 h4 hb hin
  obtain ⟨r, p, Ar, cr, Ap, cp, ls, rfl, rfl, hr, hp, hf, hin, hk, hln, HS, hb⟩ := hrel
  generalize wr = wy at *
  have hF := hI.fit _ _ _ hin
  have hlp := hF.lx
  obtain ⟨Af, cf', rfl, hcf⟩ := hf.form
  have hdg := fun W => degree_any p.length cp Ap W (by omega)
  go_wp2_with fail
  ((with_reducible refine (hdg _).mono ?_))
  rintro e5 w5 ⟨rfl, rfl⟩
  by_cases h1 : p.length ≤ 1
  ·have q1 : ¬ (0 : Int) < (p.length : Int) - 1 := by omega
   have hE := HS.out [] (Sqf.done h1)
   rw [List.append_nil] at hE
   have HE := Lib.hid hE
   clear hE h1
   go_wp2_with fail
   go_ret
   exact ⟨_, g, Q, ls, rfl, hf, HGT.out, HQ.out, HE.out, hb⟩
  ·have q1 : (0 : Int) < (p.length : Int) - 1 := by omega
   have hp1 : 1 < p.length := by omega
   clear h1
   go_wp2_with fail
   ((with_reducible refine (gcd_fit hF _ _ _ (hG.below hb) hp hr hK1 hB2).mono ?_))
   rintro e6 w6 ⟨v6, c, rfl, h6, hgt, hb6⟩
   obtain ⟨A6, c6, rfl, hc6⟩ := h6.form
   obtain ⟨Qp, Qr, n', hn', hQp, hQr, kc, kQp, kQr, lc, hin'⟩ := hI.go _ _ _ c hin hp1 hgt
   have hE : ∀ l, Sqf B c Qr l → Sqf B Q g (ls ++ (Qp :: l)) := fun l t => HS.out _ (Sqf.step hp1 hgt hQp hQr t)
   have HE := Lib.hid hE
   have hq1 := fun W h1 h2 => quo_whole Qp p c (.slice Ap p.length cp) (.slice A6 c.length c6) W h1 h2 hQp.ne hQp.trim hF.tx hQp.tc hQp.id_ K kQp kc hK2 hlp lc
   have hq2 := fun W h1 h2 => quo_whole Qr r c (.slice Ar r.length cr) (.slice A6 c.length c6) W h1 h2 hQr.ne hQr.trim hF.ty hQr.tc hQr.id_ K kQr kc hK2 hF.ly lc
   replace hr := hr.below hb6
   replace hp := hp.below hb6
   replace hf := hf.below hb6
   replace hb := hb.trans (hb6.mono hb.size)
   clear hE hQp hQr hgt HS
   go_wp2_with fail
   ((with_reducible refine (hq1 _ hp h6).mono ?_))
   rintro e7 w7 ⟨v7, rfl, h7, hb7⟩
   obtain ⟨A7, c7, rfl, hc7⟩ := h7.form
   replace hr := hr.below hb7
   replace h6 := h6.below hb7
   replace hf := hf.below hb7
   replace hb := hb.trans (hb7.mono hb.size)
   clear hq1
   have hbX : Below w7.heap.size w7 (w7.alloc (.cells #[.slice A7 Qp.length c7] 46)) := (Below.refl _ _).alloc (Nat.le_refl _) _
   replace hr := hr.below hbX
   replace h6 := h6.below hbX
   replace h7 := h7.below hbX
   replace hf := hf.below hbX
   replace hb := hb.trans (hbX.mono hb.size)
   have X := Bx.new w7 [.slice A7 Qp.length c7] 46
   have X_0 := X.cell 0 rfl
   obtain ⟨vals, hpw, hvl, hvs⟩ := id hf
   go_wp2_with (at_builtin; refine wpList_push rfl rfl 46 24 Tryz.underlying57 infoWhole w.heap.size _ vals rfl hpw w7.heap.size (.slice A7 Qp.length c7) rfl X_0 ⟨_, _, _, rfl⟩ (by rw [hvl]; omega) (by rw [hvl]; unfold maxLen; omega) hb.size ?_; intro v8 w8 hp8 hk8 hg8)
   have zf := WsAt.push hpw hvl hvs h7 hp8 hk8 hg8
   have zr := hr.grown hpw hk8 hg8
   have z6 := h6.grown hpw hk8 hg8
   have zb := below_grown hb hg8 hpw (Nat.le_refl _)
   obtain ⟨A8, c8, rfl, hc8⟩ := zf.form
   have hll : (ls ++ [Qp]).length = ls.length + 1 := by rw [List.length_append]; rfl
   clear hp8 hk8 hg8 hpw hvl hvs hf h7 hr h6 hb X X_0 hbX
   generalize hls : ls ++ [Qp] = LS at *
   have HLS := Lib.hid hls
   have HLL := Lib.hid hll
   clear hls hll
   go_wp2_with fail
   ((with_reducible refine (hq2 _ zr z6).mono ?_))
   rintro e9 w9 ⟨v9, rfl, h9, hb9⟩
   obtain ⟨A9, c9, rfl, hc9⟩ := h9.form
   replace z6 := z6.below hb9
   replace zf := zf.below hb9
   replace zb := zb.trans (hb9.mono zb.size)
   go_wp2_with fail
   go_roundg n'
   case rel => exact ⟨Qr, c, A9, c9, A6, c6, LS, rfl, rfl, h9, z6, zf, hin', by omega, by have := HLL.out; omega, fun l t => by have := HE.out l t; rw [← HLS.out, List.append_assoc]; exact this, zb⟩
   case measure => omega
def monicT (ns : List Int) : List (List UInt8) := (ratios ns (cf ns (ns.length - 1))).map ratTxt
def RetSqT (w : World) (B : Nat) (ns : List Int) (e : Ending) (w' : World) : Prop :=
 ∃ v g Q l, e = .returned (.tuple #[v, .int .i64 0]) ∧ TsAt w' w.heap.size 22 v (l.map monicT) ∧ GcdTr B (primL ns) (deriveL (primL ns)) g ∧ QuoOf (primL ns) g Q ∧ Sqf B Q g l ∧ Below w.heap.size w w'
theorem WsAt.mono {w : World} {B B' : Nat} {v : Value} {ls : List (List Int)} (h : WsAt w B 46 v ls) (hB : B' ≤ B) : WsAt w B' 46 v ls := by
 obtain ⟨vals, h1, h2, h3⟩ := h
 refine ⟨vals, ?_, h2, h3⟩
 rcases h1 with h | ⟨g, cap, cur, hv, hb, h⟩
 ·exact .inl h
 ·exact .inr ⟨g, cap, cur, hv, Nat.le_trans hB hb, h⟩
theorem WsAt.grown {w w' : World} {B B' : Nat} {v u : Value} {vals : List Value} {ls : List (List Int)} (h : WsAt w B' 46 u ls) (hr : PRow w B 22 v vals) (hk : Keep w w') (hg : w.grownBy w' v.ownBlock) : WsAt w' B' 46 u ls := by
 have hne : ∀ (b : Nat) (cs : Array Value) (t : TypeId), w.heap[b]? = some (Obj.cells cs t (0, 0)) → t ≠ 22 → w'.heap[b]? = w.heap[b]? := fun b cs t hb ht => by
  refine hg.block b (Array.getElem?_eq_some_iff.1 hb).1 (fun e => ?_)
  rcases hr with ⟨rfl, _⟩ | ⟨g, cap, cur, rfl, _, hgg, _⟩
  ·simp [Value.ownBlock] at e
  ·simp [Value.ownBlock] at e
   subst e
   rw [hgg] at hb
   injection hb with hb
   injection hb with _ hb
   exact ht hb.symm
 obtain ⟨us, h1, h2, h3⟩ := h
 refine ⟨us, ?_, h2, fun i x l hx hl => ?_⟩
 ·rcases h1 with h | ⟨g, cap, cur, hv, hb, hgg, h⟩
  ·exact .inl h
  ·exact .inr ⟨g, cap, cur, hv, hb, (hne g cur 46 hgg (by decide)).trans hgg, h⟩
 ·obtain ⟨A, c, e, hc, h⟩ := h3 i x l hx hl
  refine ⟨A, c, e, hc, ?_⟩
  rcases h with h | ⟨b, rows, e', hr', hi⟩
  ·exact .inl h
  ·exact .inr ⟨b, rows, e', ⟨(hne b _ 49 hr'.1 (by decide)).trans hr'.1, hr'.2⟩, hi.keep hk⟩
set_option maxRecDepth 100000 in
theorem squarefree_poly (a : List (List UInt8)) (va : Value) (w : World) (hG : Glob w) (ha : StrsAt w va a) (hla : a.length ≤ 1073741824) (KA : Nat) (hca : a.length ≤ 65 → ∀ l ∈ a, l.length ≤ 1073741824) (hKa : a.length ≤ 65 → ∀ q ∈ ratsOf a, RL KA q) (hKA : KA ≤ 1024)
  (hv : vl a = true) (h0 : a ≠ []) (K B : Nat) (hK1 : 1 ≤ K) (hK2 : K ≤ 1073741824) (hB2 : 5 * B + 8 ≤ LIM) (Inv : Nat → List Int → List Int → Prop) (hI : SqfInv K B Inv)
  (hst : ∀ D, ComDen (ratsOf a) D (1 + 65 * KA) → (∀ n ∈ numsL (ratsOf a) D, nl n.natAbs ≤ K) ∧ GcdFit K B (primL (numsL (ratsOf a) D)) (deriveL (primL (numsL (ratsOf a) D))) ∧
   ∀ g, GcdTr B (primL (numsL (ratsOf a) D)) (deriveL (primL (numsL (ratsOf a) D))) g → ∃ Q n, QuoOf (primL (numsL (ratsOf a) D)) g Q ∧ (∀ x ∈ g, nl x.natAbs ≤ K) ∧ (∀ x ∈ Q, nl x.natAbs ≤ K) ∧ g.length ≤ 1073741824 ∧ n ≤ 1073741824 ∧ Inv n Q g)
  (hfac : ∀ D Q g l, ComDen (ratsOf a) D (1 + 65 * KA) → GcdTr B (primL (numsL (ratsOf a) D)) (deriveL (primL (numsL (ratsOf a) D))) g → QuoOf (primL (numsL (ratsOf a) D)) g Q → Sqf B Q g l → l.length ≤ 1073741824 ∧ ∀ f ∈ l, f ≠ [] ∧ f.length ≤ 1073741824 ∧ ∀ n ∈ f, nl n.natAbs ≤ K) :
  Calls Tryz.prog 10 #[va] w fun e w' => ∃ D, ComDen (ratsOf a) D (1 + 65 * KA) ∧ RetSqT w B (numsL (ratsOf a) D) e w' := by
 obtain ⟨A, c, rfl, hc⟩ := ha.form
 go_enter Tryz.func10, Tryz.ntmps10
 go_wp2_with fail
 ((with_reducible refine (uniRead_any a _ _ hG ha hla hca KA (1 + 65 * KA) hKa (Nat.le_refl _) (by unfold LIM; omega)).mono ?_))
 rintro e1 w1 ⟨v1, vd1, xs, D, rfl, hx, hD, hvx, hb⟩
 obtain ⟨A1, c1, rfl, hc1⟩ := hx.form
 obtain ⟨s1, B1, k1, d1, rfl⟩ := hD.form
 obtain ⟨rfl, hcx⟩ := hvx hv
 obtain ⟨p1, -, t1⟩ := vl_parts hv
 obtain ⟨kn, hfit, hgo⟩ := hst D hcx
 have hfc := fun Q g l => hfac D Q g l hcx
 have htx := nums_trimmed hcx.pos hcx.dvd t1
 have lx0 : (numsL (ratsOf a) D).length = a.length := by rw [nums_len]; unfold ratsOf; rw [List.length_map]
 have lx : (numsL (ratsOf a) D).length ≤ 65 := by rw [lx0]; exact p1
 have ln : (numsL (ratsOf a) D).length ≠ 0 := by rw [lx0]; exact fun e => h0 (List.eq_nil_of_length_eq_zero e)
 have q0 : (((numsL (ratsOf a) D).length : Int) == 0) = false := by rw [beq_eq_false_iff_ne]; omega
 rw [hv]
 have HCX := Lib.hid hcx
 clear hst hfac hvx hcx lx0 t1 p1 ha hKa hca
 have hsq := fun W h => fun hb : Below w.heap.size w W => sqf_whole (numsL (ratsOf a) D) (.slice A1 (numsL (ratsOf a) D).length c1) W (hG.below hb) h htx K B kn hK1 (by unfold LIM; omega) hB2 (by omega) Inv hI hfit hgo
 unfold RetSqf at hsq
 go_wp2_with fail
 have hbX : Below w1.heap.size w1 (w1.alloc (.cells #[.bool s1, .slice B1 k1 d1] 49)) := (Below.refl _ _).alloc (Nat.le_refl _) _
 replace hx := hx.below hbX
 replace hb := hb.trans (hbX.mono hb.size)
 clear hbX
 generalize w1.alloc (.cells #[.bool s1, .slice B1 k1 d1] 49) = w2 at *
 ((with_reducible refine (hsq _ hx hb).mono ?_))
 rintro e3 w3 ⟨v3, g, Q, l, rfl, h3, hgt, hQ, hS, hb3⟩
 obtain ⟨A3, c3, rfl, hc3⟩ := h3.form
 obtain ⟨ll, hll⟩ := hfc Q g l hgt hQ hS
 have HH := Lib.hid (And.intro hgt (And.intro hQ hS))
 replace hb := hb.trans (hb3.mono hb.size)
 clear hgt hQ hS hfc hsq hgo hfit
 go_wp2_with fail
 go_loopg [7, 24] l.length (fun k vf i wr => ∃ j, Hid (j + k = l.length) ∧ i = .int .i64 j ∧ WsAt wr w2.heap.size 46 (.slice A3 l.length c3) l ∧ TsAt wr w.heap.size 22 vf ((l.take j).map monicT) ∧ Below w.heap.size w wr)
 case atStart => exact ⟨0, by unfold Hid; omega, rfl, h3, RowsAt.nil _ _ _ _, hb⟩
 case round =>
  clear h3 hb
  obtain ⟨j, HJ, rfl, h3, hf, hb⟩ := hrel
  generalize wr = wy at *
  have hj0 : (0 : Int) ≤ (j : Int) := by omega
  obtain ⟨Af, cf', rfl, hcf⟩ := hf.form
  cases gk with
  | zero =>
   have hj : j = l.length := HJ.out
   subst hj
   rw [List.take_length] at hf
   go_wp2_with fail
   refine bodyPost_ret (v := .tuple #[.slice Af (l.map monicT).length cf', .int .i64 0]) (by simp [results, Tryz.results10, go_sem]) rfl ⟨D, HCX.out, _, g, Q, l, rfl, hf, HH.out.1, HH.out.2.1, HH.out.2.2, hb⟩
  | succ k =>
   have hjl : j < l.length := by have := HJ.out; omega
   have hj1 : (j : Int) < (l.length : Int) := by omega
   obtain ⟨f, hfj⟩ : ∃ f, l[j]? = some f := ⟨_, List.getElem?_eq_getElem hjl⟩
   obtain ⟨b, u, rfl, hbl, hu, hfu⟩ := h3.at_ hfj
   obtain ⟨Au, cu, rfl, hcu⟩ := hfu.form
   obtain ⟨f0, fl, fk⟩ := hll f (List.mem_of_getElem? hfj)
   have htk : (l.take (j + 1)).map monicT = (l.take j).map monicT ++ [monicT f] := by
    rw [List.take_add_one, hfj, List.map_append]; rfl
   have HTK := Lib.hid htk
   have hlt : ((l.take j).map monicT).length ≤ 1073741824 := by rw [List.length_map, List.length_take]; omega
   clear htk hfj
   generalize (l.take j).map monicT = TS at *
   go_wp2_with fail
   ((with_reducible refine (monic_whole f _ _ (hG.below hb) hfu f0 K fk hK1 hK2 fl).mono ?_))
   rintro e5 w5 ⟨v5, rfl, h5, hb5⟩
   obtain ⟨MT, HMT⟩ : ∃ MT, Hid (monicT f = MT) := ⟨_, rfl⟩
   have h5' : StrsAt w5 v5 MT := by rw [← HMT.out]; exact h5
   clear h5
   rw [HMT.out] at HTK
   obtain ⟨A5, c5, rfl, hc5⟩ := h5'.form
   have hbX : Below w5.heap.size w5 (w5.alloc (.cells #[.slice A5 MT.length c5] 22)) := (Below.refl _ _).alloc (Nat.le_refl _) _
   replace h3 := (h3.below hb5).below hbX
   replace hf := (hf.below hb5).below hbX
   replace h5' := h5'.below hbX
   replace hb := hb.trans (hb5.mono hb.size)
   replace hb := hb.trans (hbX.mono hb.size)
   have X := Bx.new w5 [.slice A5 MT.length c5] 22
   have X_0 := X.cell 0 rfl
   obtain ⟨vals, hpw, hvl, hvs⟩ := id hf
   go_wp2_with (at_builtin; refine wpList_push rfl rfl 22 24 Tryz.underlying28 infoStrs w.heap.size _ vals rfl hpw w5.heap.size (.slice A5 MT.length c5) rfl X_0 ⟨_, _, _, rfl⟩ (by rw [hvl]; omega) (by rw [hvl]; unfold maxLen; omega) hb.size ?_; intro v8 w8 hp8 hk8 hg8)
   have zf := TsAt.push hpw hvl hvs h5' hp8 hg8
   have z3 := WsAt.grown h3 hpw hk8 hg8
   have zb := below_grown hb hg8 hpw (Nat.le_refl _)
   rw [← HTK.out] at zf
   go_roundg k
   case rel => exact ⟨j + 1, by have := HJ.out; unfold Hid; omega, by go_num, z3, zf, zb⟩
   case measure => omega
theorem rd_m1 : readL [45, 49] = some (-1) := by decide
theorem rd_0 : readL [48] = some 0 := by decide
theorem rd_1 : readL [49] = some 1 := by decide
theorem rd_2 : readL [50] = some 2 := by decide
theorem rd_m2 : readL [45, 50] = some (-2) := by decide
theorem rd_m3 : readL [45, 51] = some (-3) := by decide
theorem rd_m14 : readL [45, 49, 47, 52] = some (mkRat (-1) 4) := by
 unfold readL
 rw [show splitL [45, 49, 47, 52] = some (true, [49], [52]) by decide]
 simp only []
 rw [if_neg (by decide), if_pos (by decide)]
 rfl
theorem rd_12 : readL [49, 47, 50] = some (mkRat 1 2) := by
 unfold readL
 rw [show splitL [49, 47, 50] = some (false, [49], [50]) by decide]
 simp only []
 rw [if_neg (by decide), if_pos (by decide)]
 rfl
theorem rd_14 : readL [49, 47, 52] = some (mkRat 1 4) := by
 unfold readL
 rw [show splitL [49, 47, 52] = some (false, [49], [52]) by decide]
 simp only []
 rw [if_neg (by decide), if_pos (by decide)]
 rfl
theorem rat_m14 : mkRat (-1) 4 = -1 / 4 := by rw [Rat.mkRat_eq_div]; rfl
theorem rat_12 : mkRat 1 2 = 1 / 2 := by rw [Rat.mkRat_eq_div]; rfl
theorem rat_14 : mkRat 1 4 = 1 / 4 := by rw [Rat.mkRat_eq_div]; rfl
theorem rats_1 : ratsOf [[48], [48], [49]] = [0, 0, 1] := by unfold ratsOf; simp only [List.map, rd_0, rd_1]; rfl
theorem rats_2 : ratsOf [[49], [50]] = [1, 2] := by unfold ratsOf; simp only [List.map, rd_1, rd_2]; rfl
theorem rats_3 : ratsOf [[45, 49], [49]] = [-1, 1] := by unfold ratsOf; simp only [List.map, rd_m1, rd_1]; rfl
theorem rats_4 : ratsOf [[45, 51], [49]] = [-3, 1] := by unfold ratsOf; simp only [List.map, rd_m3, rd_1]; rfl
theorem rats_5 : ratsOf [[48], [48], [45, 50], [50]] = [0, 0, -2, 2] := by unfold ratsOf; simp only [List.map, rd_0, rd_m2, rd_2]; rfl
theorem vl_by {ls : List (List UInt8)} {qs : List Rat} (h : ratsOf ls = qs) (h1 : ls.length ≤ 65) (h2 : ls.all rd = true) (h3 : qs.getLast? ≠ some 0) : vl ls = true := by
 unfold vl
 rw [decide_eq_true_iff, h]
 exact ⟨h1, h2, h3⟩
theorem vl_1 : vl [[48], [48], [49]] = true := vl_by rats_1 (by decide) (by simp [rd, rd_0, rd_1]) (by decide)
theorem vl_2 : vl [[49], [50]] = true := vl_by rats_2 (by decide) (by simp [rd, rd_1, rd_2]) (by decide)
theorem vl_3 : vl [[45, 49], [49]] = true := vl_by rats_3 (by decide) (by simp [rd, rd_m1, rd_1]) (by decide)
theorem vl_4 : vl [[45, 51], [49]] = true := vl_by rats_4 (by decide) (by simp [rd, rd_m3, rd_1]) (by decide)
theorem vl_5 : vl [[48], [48], [45, 50], [50]] = true := vl_by rats_5 (by decide) (by simp [rd, rd_0, rd_m2, rd_2]) (by decide)
theorem RL_int {n : Int} (h : n.natAbs < BN) : RL 1 (n : Rat) := ⟨nl_le (by rw [Nat.pow_one]; exact h), nl_le (by rw [Nat.pow_one]; show 1 < BN; decide)⟩
theorem RL_all {qs : List Rat} (h : ∀ q ∈ qs, ∃ n : Int, q = n ∧ n.natAbs < BN) : ∀ q ∈ qs, RL 1 q := fun q hq => by
 obtain ⟨n, rfl, hn⟩ := h q hq
 exact RL_int hn
theorem RL_1 : ∀ q ∈ ([0, 0, 1] : List Rat), RL 1 q := RL_all (fun q hq => by
 simp at hq
 rcases hq with rfl | rfl
 ·exact ⟨0, rfl, by decide⟩
 ·exact ⟨1, rfl, by decide⟩)
theorem RL_2 : ∀ q ∈ ([1, 2] : List Rat), RL 1 q := RL_all (fun q hq => by
 simp at hq
 rcases hq with rfl | rfl
 ·exact ⟨1, rfl, by decide⟩
 ·exact ⟨2, rfl, by decide⟩)
theorem RL_3 : ∀ q ∈ ([-1, 1] : List Rat), RL 1 q := RL_all (fun q hq => by
 simp at hq
 rcases hq with rfl | rfl
 ·exact ⟨-1, rfl, by decide⟩
 ·exact ⟨1, rfl, by decide⟩)
theorem RL_4 : ∀ q ∈ ([-3, 1] : List Rat), RL 1 q := RL_all (fun q hq => by
 simp at hq
 rcases hq with rfl | rfl
 ·exact ⟨-3, rfl, by decide⟩
 ·exact ⟨1, rfl, by decide⟩)
theorem RL_5 : ∀ q ∈ ([0, 0, -2, 2] : List Rat), RL 1 q := RL_all (fun q hq => by
 simp at hq
 rcases hq with rfl | rfl | rfl
 ·exact ⟨0, rfl, by decide⟩
 ·exact ⟨-2, rfl, by decide⟩
 ·exact ⟨2, rfl, by decide⟩)
theorem div_ex1 {Q R : List Rat} {K : Nat} (h : DivRes [0, 0, 1] [1, 2] Q R K) : Q = [mkRat (-1) 4, mkRat 1 2] ∧ R = [mkRat 1 4] := by
 have hq := h.q_len
 have hr := h.r_lt
 have z : ∀ i, 3 ≤ i → cf Q i = 0 := fun i hi => cf_top (by simp at hq; omega)
 have zr : ∀ i, 1 ≤ i → cf R i = 0 := fun i hi => cf_top (by simp at hr; omega)
 have h3 := h.id_ 3
 have h2 := h.id_ 2
 have h1 := h.id_ 1
 have h0 := h.id_ 0
 have b0 : cf ([1, 2] : List Rat) 0 = 1 := rfl
 have b1 : cf ([1, 2] : List Rat) 1 = 2 := rfl
 have b2 : cf ([1, 2] : List Rat) 2 = 0 := rfl
 have b3 : cf ([1, 2] : List Rat) 3 = 0 := rfl
 have a0 : cf ([0, 0, 1] : List Rat) 0 = 0 := rfl
 have a1 : cf ([0, 0, 1] : List Rat) 1 = 0 := rfl
 have a2 : cf ([0, 0, 1] : List Rat) 2 = 1 := rfl
 have a3 : cf ([0, 0, 1] : List Rat) 3 = 0 := rfl
 simp only [conv, sumTo, Nat.sub_zero, Nat.sub_self, Nat.reduceSub, Nat.reduceAdd, b0, b1, b2, b3, a0, a1, a2, a3, z 3 (by omega), zr 3 (by omega), zr 2 (by omega), zr 1 (by omega)] at h3 h2 h1 h0
 rw [rat_m14, rat_12, rat_14]
 have q2 : cf Q 2 = 0 := by grind
 have q1 : cf Q 1 = 1 / 2 := by grind
 have q0 : cf Q 0 = -1 / 4 := by grind
 have r0 : cf R 0 = 1 / 4 := by grind
 refine ⟨trim_ext h.q_trim (fun a ha => ?_) (fun i => ?_), trim_ext h.r_trim (fun a ha => ?_) (fun i => ?_)⟩
 ·simp at ha; rw [← ha]; grind
 ·match i with
  | 0 => exact q0
  | 1 => exact q1
  | 2 => exact q2
  | i + 3 => rw [z (i + 3) (by omega), cf_top (by simp)]
 ·simp at ha; rw [← ha]; grind
 ·match i with
  | 0 => exact r0
  | i + 1 => rw [zr (i + 1) (by omega), cf_top (by simp)]
theorem nums_ex (D : Int) (x : Int) : numsL [(x : Rat), 1] D = [x * D, D] := by
 unfold numsL
 show [x * D.tdiv (1 : Int), 1 * D.tdiv (1 : Int)] = _
 rw [Int.tdiv_one, Int.one_mul]
theorem nums_ex5 (D : Int) : numsL [0, 0, -2, 2] D = [0, 0, -2 * D, 2 * D] := by
 unfold numsL
 show [0 * D.tdiv (1 : Int), 0 * D.tdiv (1 : Int), -2 * D.tdiv (1 : Int), 2 * D.tdiv (1 : Int)] = _
 rw [Int.tdiv_one, Int.zero_mul]
theorem prim_ex5' {D : Int} (hD : 0 < D) : primL [0, 0, -2 * D, 2 * D] = [0, 0, -1, 1] := by
 have hg : (gcdAll [0, 0, -2 * D, 2 * D] : Int) = 2 * D := by
  rw [gcdAll_cons, gcdAll_cons, gcdAll_cons, gcdAll_cons, gcdAll_nil, Nat.gcd_zero_left, Int.natAbs_mul, Int.natAbs_mul]
  show ((Nat.gcd (Nat.gcd (Nat.gcd (2 * D.natAbs) (2 * D.natAbs)) 0) 0 : Nat) : Int) = _
  rw [Nat.gcd_self, Nat.gcd_zero_right, Nat.gcd_zero_right]
  omega
 unfold primL divL
 rw [hg]
 show [(0 : Int).tdiv (2 * D), (0 : Int).tdiv (2 * D), (-2 * D).tdiv (2 * D), (2 * D).tdiv (2 * D)] = _
 rw [Int.zero_tdiv, Int.tdiv_self (by omega), show -2 * D = -(2 * D) by omega, Int.neg_tdiv, Int.tdiv_self (by omega)]
def InvEx (n : Nat) (p r : List Int) : Prop := (n = 2 ∧ p = [0, 1, -1] ∧ r = [0, -1]) ∨ (n = 1 ∧ p = [0, -1] ∧ r = [1]) ∨ (n = 0 ∧ p = [1] ∧ r = [1])
theorem small_all {l : List Int} {K : Nat} (hK : 1 ≤ K) (h : l.all (fun n => decide (n.natAbs < BN)) = true) : ∀ n ∈ l, nl n.natAbs ≤ K := fun n hn => by
 have := List.all_eq_true.1 h n hn
 exact Nat.le_trans (nl_le (by rw [Nat.pow_one]; exact of_decide_eq_true this)) hK
theorem invEx : SqfInv 100 1000000 InvEx := by
 refine ⟨fun n p r h => ?_, fun n p r c h hp hg => ?_⟩
 ·rcases h with ⟨rfl, rfl, rfl⟩ | ⟨rfl, rfl, rfl⟩ | ⟨rfl, rfl, rfl⟩
  all_goals exact ⟨trimmed_by rfl, trimmed_by rfl, small_all (by decide) (by decide), small_all (by decide) (by decide), by decide, by decide, by decide, by decide⟩
 ·rcases h with ⟨rfl, rfl, rfl⟩ | ⟨rfl, rfl, rfl⟩ | ⟨rfl, rfl, rfl⟩
  ·rw [gcd_ex2 hg]
   exact ⟨[-1, 1], [1], 1, by decide, ⟨trimmed_by rfl, by decide, trimmed_by rfl, quo_by (n := 6) (by decide) (by decide) (by decide)⟩, ⟨trimmed_by rfl, by decide, trimmed_by rfl, quo_by (n := 6) (by decide) (by decide) (by decide)⟩, small_all (by decide) (by decide), small_all (by decide) (by decide), small_all (by decide) (by decide), by decide, .inr (.inl ⟨rfl, rfl, rfl⟩)⟩
  ·rw [gcd_ex3 hg]
   exact ⟨[0, -1], [1], 0, by decide, ⟨trimmed_by rfl, by decide, trimmed_by rfl, quo_by (n := 6) (by decide) (by decide) (by decide)⟩, ⟨trimmed_by rfl, by decide, trimmed_by rfl, quo_by (n := 6) (by decide) (by decide) (by decide)⟩, small_all (by decide) (by decide), small_all (by decide) (by decide), small_all (by decide) (by decide), by decide, .inr (.inr ⟨rfl, rfl, rfl⟩)⟩
  ·exact absurd hp (by decide)
theorem quo_unique {x c Q Q' : List Int} (h : QuoOf x c Q) (h' : QuoOf x c Q') : Q = Q' := by
 refine trim_ext h.trim h'.trim (fun i => ?_)
 have hz := conv_none (d := fun j => cf Q j + (-1) * cf Q' j) (L := Q.length + Q'.length) h.ne h.tc (fun i hi => by
  show cf Q i + (-1) * cf Q' i = 0
  rw [cf_top (by omega), cf_top (by omega)]; simp) (fun i _ => by
  rw [conv_add_left, conv_mul_left, ← h.id_, ← h'.id_]; omega) i
 have hz' : cf Q i + (-1) * cf Q' i = 0 := hz
 omega
theorem sqf_ex {Q g : List Int} {l : List (List Int)} (hg : GcdTr 1000000 [0, 0, -1, 1] [0, -2, 3] g) (hQ : QuoOf [0, 0, -1, 1] g Q) (h : Sqf 1000000 Q g l) : l = [[-1, 1], [0, -1]] := by
 have e1 := gcd_ex1 hg
 subst e1
 have e2 : Q = [0, 1, -1] := quo_unique hQ ⟨trimmed_by rfl, by decide, trimmed_by rfl, quo_by (n := 6) (by decide) (by decide) (by decide)⟩
 subst e2
 cases h with
 | done h => simp at h
 | step h1 hg1 hp1 hr1 t1 =>
  have e3 := gcd_ex2 hg1
  subst e3
  have e4 := quo_unique hp1 (Q' := [-1, 1]) ⟨trimmed_by rfl, by decide, trimmed_by rfl, quo_by (n := 6) (by decide) (by decide) (by decide)⟩
  have e5 := quo_unique hr1 (Q' := [1]) ⟨trimmed_by rfl, by decide, trimmed_by rfl, quo_by (n := 6) (by decide) (by decide) (by decide)⟩
  subst e4; subst e5
  cases t1 with
  | done h => simp at h
  | step h2 hg2 hp2 hr2 t2 =>
   have e6 := gcd_ex3 hg2
   subst e6
   have e7 := quo_unique hp2 (Q' := [0, -1]) ⟨trimmed_by rfl, by decide, trimmed_by rfl, quo_by (n := 6) (by decide) (by decide) (by decide)⟩
   have e8 := quo_unique hr2 (Q' := [1]) ⟨trimmed_by rfl, by decide, trimmed_by rfl, quo_by (n := 6) (by decide) (by decide) (by decide)⟩
   subst e7; subst e8
   cases t2 with
   | done => rfl
   | step h _ _ _ _ => simp at h
theorem monic_ex : monicT [0, -1] = [[48], [49]] := by
 unfold monicT ratios
 show [ratTxt (((0 : Int) : Rat) / ((-1 : Int) : Rat)), ratTxt (((-1 : Int) : Rat) / ((-1 : Int) : Rat))] = _
 rw [show ((0 : Int) : Rat) / ((-1 : Int) : Rat) = 0 by grind, show ((-1 : Int) : Rat) / ((-1 : Int) : Rat) = 1 by grind, txt_read rd_0, txt_read rd_1]
end Go.Proofs.YtoimnlnaaklinaaGreatDoor
