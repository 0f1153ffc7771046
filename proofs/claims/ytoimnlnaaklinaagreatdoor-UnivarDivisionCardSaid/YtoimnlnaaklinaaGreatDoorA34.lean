/-
  Contracts of functions that the statement reaches, and plain laws: RatT, UniH, LawD.
-/
import Derived.Test.YtoimnlnaaklinaaGreatDoorA28
import Derived.Test.YtoimnlnaaklinaaGreatDoorA32
import Derived.Test.YtoimnlnaaklinaaGreatDoorA33
set_option linter.unusedVariables false
set_option linter.unusedSimpArgs false
set_option maxHeartbeats 8000000
namespace Go.Proofs.YtoimnlnaaklinaaGreatDoor
open Go.RowKit Sos
theorem ratAdd_any (x y : Rat) (vx vy : Value) (w : World) (hG : Glob w) (hx : RatAt w vx x) (hy : RatAt w vy y) (K : Nat) (bx : RL K x) (bY : RL K y) (hK : 20 * K + 60 ≤ LIM) :
  Calls Tryz.prog 37 #[vx, vy] w (RetRat w (x + y)) := by
 by_cases h1 : x.den = 1
 ·by_cases h2 : y.den = 1
  ·exact ratAdd_ii x y vx vy w hx hy h1 h2 K bx bY (by omega)
  ·exact ratAdd_iy x y vx vy w hx hy h1 h2 K bx bY (by omega)
 ·by_cases h2 : y.den = 1
  ·exact ratAdd_xi x y vx vy w hx hy h1 h2 K bx bY (by omega)
  ·exact ratAdd_xy x y vx vy w hG hx hy h1 h2 K bx bY hK
def addR (a b : List Rat) : List Rat := (List.range (max a.length b.length)).map (fun i => cf a i + cf b i)
theorem addR_len (a b : List Rat) : (addR a b).length = max a.length b.length := by unfold addR; rw [List.length_map, List.length_range]
theorem addR_get (a b : List Rat) {i : Nat} (h : i < max a.length b.length) : (addR a b)[i]? = some (cf a i + cf b i) := by unfold addR; rw [List.getElem?_map, List.getElem?_range h]; rfl
theorem cf_addR (a b : List Rat) (i : Nat) : cf (addR a b) i = cf a i + cf b i := by
 by_cases h : i < max a.length b.length
 ·exact cf_of (addR_get a b h)
 ·rw [cf_top (by rw [addR_len]; omega), cf_top (l := a) (by omega), cf_top (l := b) (by omega), Rat.add_zero]
theorem cf_pad (a : List Rat) (k i : Nat) : cf (a ++ List.replicate k 0) i = cf a i := by
 by_cases h : i < a.length
 ·rw [cf_get (l := a) h, cf_of (a := a[i])]
  rw [List.getElem?_append_left h, List.getElem?_eq_getElem h]
 ·rw [cf_top (l := a) (by omega)]
  by_cases h2 : i < a.length + k
  ·refine cf_of ?_
   rw [List.getElem?_append_right (by omega), List.getElem?_replicate, if_pos (by omega)]
  ·exact cf_top (by rw [List.length_append, List.length_replicate]; omega)
theorem pad_get (a : List Rat) (k i : Nat) (h : i < a.length + k) : (a ++ List.replicate k 0)[i]? = some (cf a i) := by
 have hl : i < (a ++ List.replicate k 0).length := by rw [List.length_append, List.length_replicate]; exact h
 rw [List.getElem?_eq_getElem hl, ← cf_get hl, cf_pad]
theorem addR_RL {a b : List Rat} {K : Nat} (ha : ∀ q ∈ a, RL K q) (hb : ∀ q ∈ b, RL K q) (h1 : 1 ≤ K) : ∀ q ∈ addR a b, RL (2 * K + 1) q := fun q hq => by
 unfold addR at hq
 obtain ⟨i, _, rfl⟩ := List.mem_map.1 hq
 have h0 : RL K 0 := ⟨by show nl 0 ≤ K; rw [nl_zero]; omega, by show nl 1 ≤ K; exact Nat.le_trans (nl_le (by decide)) h1⟩
 have hc : ∀ (l : List Rat), (∀ q ∈ l, RL K q) → RL K (cf l i) := fun l hl => by
  by_cases h : i < l.length
  ·rw [cf_get h]; exact hl _ (List.getElem_mem h)
  ·rw [cf_top (by omega)]; exact h0
 exact add_RL (hc a ha) (hc b hb)
theorem RL_zero' {K : Nat} (h : 1 ≤ K) : RL K 0 := ⟨by show nl 0 ≤ K; rw [nl_zero]; omega, by show nl 1 ≤ K; exact Nat.le_trans (nl_le (by decide)) h⟩
theorem cf_RL {l : List Rat} {K : Nat} (h : ∀ q ∈ l, RL K q) (h0 : RL K 0) (i : Nat) : RL K (cf l i) := by
 by_cases hi : i < l.length
 ·rw [cf_get hi]; exact h _ (List.getElem_mem hi)
 ·rw [cf_top (by omega)]; exact h0
def RetAdd (w : World) (a b : List (List UInt8)) (e : Ending) (w' : World) : Prop :=
 if vl a = true ∧ vl b = true then RetPoly w (trimG isZ (addR (ratsOf a) (ratsOf b))) e w' else ∃ v', e = .returned (.tuple #[v', .int .i64 1]) ∧ StrsAt w' v' [] ∧ Below w.heap.size w w'
set_option maxRecDepth 100000 in
theorem combine_add (a b : List (List UInt8)) (va vb : Value) (w : World) (hG : Glob w) (ha : StrsAt w va a) (hb' : StrsAt w vb b) (hla : a.length ≤ 1073741824) (hlb : b.length ≤ 1073741824) (K : Nat)
  (hca : a.length ≤ 65 → ∀ l ∈ a, l.length ≤ 1073741824) (hcb : b.length ≤ 65 → ∀ l ∈ b, l.length ≤ 1073741824) (hKa : a.length ≤ 65 → ∀ q ∈ ratsOf a, RL K q) (hKb : b.length ≤ 65 → ∀ q ∈ ratsOf b, RL K q) (hK1 : 1 ≤ K) (hK : 2 * K + 1 ≤ 1073741824) :
  Calls Tryz.prog 36 #[va, vb, .func (.func 37) #[] #[]] w (RetAdd w a b) := by
 obtain ⟨A, c, rfl, hc⟩ := ha.form
 obtain ⟨A', c', rfl, hc'⟩ := hb'.form
 go_enter Tryz.func36, Tryz.ntmps36
 go_wp2_with fail
 ((with_reducible refine (readRatios_any a _ _ hG ha hla hca).mono ?_))
 rintro e1 w1 ⟨v1, rfl, h1, hb1⟩
 go_wp2_with fail
 ((with_reducible refine (readRatios_any b _ _ (hG.below hb1) (hb'.below hb1) hlb hcb).mono ?_))
 rintro e2 w2 ⟨v2, rfl, h2, hb2⟩
 have hb := hb1.trans (hb2.mono hb1.size)
 by_cases hva : vl a = true
 ·by_cases hvb : vl b = true
  ·obtain ⟨gx, rfl, hgx, X⟩ := h1 hva
   obtain ⟨gy, rfl, hgy, Y⟩ := h2 hvb
   have l65a := (vl_parts hva).1
   have l65b := (vl_parts hvb).1
   have HR : Hid (∀ e w', RetPoly w (trimG isZ (addR (ratsOf a) (ratsOf b))) e w' → RetAdd w a b e w') := fun e w' h => by unfold RetAdd; rw [if_pos ⟨hva, hvb⟩]; exact h
   have hKx := hKa l65a
   have hKy := hKb l65b
   have hxl := rats_len a
   have hyl := rats_len b
   rw [hva, hvb]
   clear h1 h2 hva hvb hKa hKb hca hcb ha hb' hc hc'
   generalize ratsOf a = xs at *
   generalize ratsOf b = ys at *
   rw [← hxl, ← hyl]
   rw [← hxl] at l65a hla
   rw [← hyl] at l65b hlb
   clear hxl hyl
   have X2 := X.below hb2
   have hxy : gx ≠ gy := by have := X.lt; omega
   have hxlt := X2.lt
   have hylt := Y.lt
   have hsz := hb.size
   obtain ⟨M, hM⟩ : ∃ M, max xs.length ys.length = M := ⟨_, rfl⟩
   have hMi : max (xs.length : Int) (ys.length : Int) = (M : Int) := by omega
   have hM1 : xs.length ≤ M := by omega
   have hM2 : ys.length ≤ M := by omega
   have hM3 : M ≤ 65 := by omega
   have HM := Lib.hid hM
   have ex : xs.length + (M - xs.length) = M := by omega
   have ey : ys.length + (M - ys.length) = M := by omega
   have EX := Lib.hid ex
   have EY := Lib.hid ey
   obtain ⟨rx, rx1, rx2, rx3⟩ := X2
   clear X hM ex ey
   have tok1 : True := trivial
   go_wp2_with (first
    | (at_builtin; have _t := tok1; clear tok1 _t; refine wpList_appendR rfl rfl 71 _ 4 64 Tryz.underlying53 Tryz.underlying3 infoRat rfl (by decide) (by decide) gx xs.length (M - xs.length) rfl rfl (by omega) (by omega) rx rx1 rx2 ?_; intro gx3 cx3 w3 rx' hg3 hr3 hb3 hcx3; obtain ⟨ry, ry1, ry2, ry3⟩ := Y.below hb3; have tok2 : True := trivial)
    | (at_builtin; have _t := tok2; clear tok2 _t; refine wpList_appendR rfl rfl 71 _ 4 64 Tryz.underlying53 Tryz.underlying3 infoRat rfl (by decide) (by decide) gy ys.length (M - ys.length) rfl rfl (by omega) (by omega) ry ry1 ry2 ?_; intro gy4 cy4 w4 ry' hg4 hr4 hb4 hcy4))
   have X3 := OwnR.zeros rx3 rfl rx2 (Keep.below hb3) hr3
   have Y4 := OwnR.zeros ry3 rfl ry2 (Keep.below hb4) hr4
   have X4 := X3.below hb4
   have hx3l := X3.lt
   have hy4l := Y4.lt
   have hs3 := hb3.size
   have hs4 := hb4.size
   have hgxy : gx3 ≠ gy4 := by rcases hg3 with ⟨rfl, rfl⟩ | hg3 <;> rcases hg4 with ⟨rfl, rfl⟩ | hg4 <;> omega
   have hgx3 : w.heap.size ≤ gx3 := by rcases hg3 with ⟨rfl, rfl⟩ | hg3 <;> omega
   have hbw := (hb.trans (hb3.mono hb.size)).trans (hb4.mono (by omega))
   rw [EX.out] at hcx3
   rw [EY.out] at hcy4
   clear hg3 hg4 hr3 hr4 rx1 rx2 rx3 ry1 ry2 ry3 X3 Y hxy hxlt hylt hb1 hb2 hb3 hb4 hgx hgy hsz hx3l hy4l
   replace hG := hG
   have hXl : (xs ++ List.replicate (M - xs.length) (0 : Rat)).length = M := by rw [List.length_append, List.length_replicate]; exact EX.out
   have hYl : (ys ++ List.replicate (M - ys.length) (0 : Rat)).length = M := by rw [List.length_append, List.length_replicate]; exact EY.out
   have hzl : (addR xs ys).length = M := by rw [addR_len]; exact HM.out
   have HXG : Hid (∀ j, j < M → (xs ++ List.replicate (M - xs.length) (0 : Rat))[j]? = some (cf xs j)) := fun j hj => pad_get _ _ _ (by rw [EX.out]; exact hj)
   have HYG : Hid (∀ j, j < M → (ys ++ List.replicate (M - ys.length) (0 : Rat))[j]? = some (cf ys j)) := fun j hj => pad_get _ _ _ (by rw [EY.out]; exact hj)
   have HZG : Hid (∀ j, j < M → (addR xs ys)[j]? = some (cf xs j + cf ys j)) := fun j hj => addR_get _ _ (by rw [HM.out]; exact hj)
   have h0R := RL_zero' hK1
   have HKX : Hid (∀ j, RL K (cf xs j)) := fun j => cf_RL hKx h0R j
   have HKY : Hid (∀ j, RL K (cf ys j)) := fun j => cf_RL hKy h0R j
   have HKZ : Hid (∀ q ∈ addR xs ys, RL (2 * K + 1) q) := addR_RL hKx hKy hK1
   generalize xs ++ List.replicate (M - xs.length) (0 : Rat) = XS at *
   generalize ys ++ List.replicate (M - ys.length) (0 : Rat) = YS at *
   generalize hzz : addR xs ys = zs at *
   have HXL := Lib.hid hXl
   have HYL := Lib.hid hYl
   have HZL := Lib.hid hzl
   clear hXl hYl hzl hzz h0R hKx hKy
   go_loopg [49] M (fun k i wr => ∃ j, Hid (j + k = M) ∧ i = .int .i64 j ∧ OwnR wr gx3 (zs.take j ++ XS.drop j) ∧ OwnR wr gy4 YS ∧ Below w.heap.size w wr)
   case atStart => exact ⟨0, by unfold Hid; omega, rfl, by simpa using X4, Y4, hbw⟩
   case round =>
    clear X4 Y4 hbw
    obtain ⟨j, HJ, rfl, X, Y, hbw⟩ := hrel
    generalize wr = wx at *
    have hj0 : (0 : Int) ≤ (j : Int) := by omega
    cases gk with
    | zero =>
     have hj : j = M := HJ.out
     subst hj
     rw [List.take_of_length_le (by rw [HZL.out]; exact Nat.le_refl _), List.drop_of_length_le (by rw [HXL.out]; exact Nat.le_refl _), List.append_nil] at X
     have hr := X.rats cx3 (by rw [HZL.out]; exact hcx3)
     rw [HZL.out] at hr
     have hle : (trimG isZ zs).length ≤ 65 := Nat.le_trans (trimG_len isZ zs) (by rw [HZL.out]; exact hM3)
     have HLE := Lib.hid hle
     have hwr : Calls Tryz.prog 24 #[.slice (some ⟨gx3, 0, none⟩) j cx3] wx (fun e w' => ∃ v', e = .returned (.tuple #[v', .int .i64 0]) ∧ StrsAt w' v' ((trimG isZ zs).map ratTxt) ∧ Below wx.heap.size wx w') :=
      (write_any zs _ _ (hG.below hbw) hr (2 * K + 1) HKZ.out hK (by rw [HZL.out]; omega)).mono (fun e w' h => by
       obtain ⟨v', he, hs, hb⟩ := h
       rw [if_pos hle] at he hs
       exact ⟨v', he, hs, hb⟩)
     clear hle
     go_wp2_with fail
     ((with_reducible refine hwr.mono ?_))
     rintro e5 w5 ⟨v5, rfl, h5, hb5⟩
     go_wp2_with fail
     go_ret2
     refine HR.out _ _ ?_
     unfold RetPoly
     rw [if_pos HLE.out, if_pos HLE.out]
     exact ⟨_, rfl, h5, hbw.trans (hb5.mono hbw.size)⟩
    | succ k =>
     have hjM : j < M := by have := HJ.out; omega
     have hj1 : (j : Int) < (M : Int) := by omega
     have hlz : XS.length = zs.length := by rw [HXL.out, HZL.out]
     have htg := turn_get (ys := zs) (xs := XS) (j := j) (by rw [HXL.out]; exact hjM) hlz
     have htl := turn_len (j := j) hlz
     have hts := turn_step (xs := XS) (ys := zs) (y := cf xs j + cf ys j) (j := j) (HZG.out j hjM) hlz
     rw [HXG.out j hjM] at htg
     have hgx : j < (zs.take j ++ XS.drop j).length := by rw [htl, HXL.out]; exact hjM
     obtain ⟨s, B, l, d, s', B', l', d', p0, p1, p2, p3, hx⟩ := X.at_ htg
     obtain ⟨t, C, m, e, t', C', m', e', r0, r1, r2, r3, hy⟩ := Y.at_ (HYG.out j hjM)
     have bx := HKX.out j
     have bY := HKY.out j
     have f0 := X.free (j * 4)
     have f1 := X.free (j * 4 + 1)
     have f2 := X.free (j * 4 + 2)
     have f3 := X.free (j * 4 + 3)
     have Xd := X.below (Below.refl _ _).drew
     have Yd := Y.below (Below.refl _ _).drew
     have hxd := hx.drew
     have hyd := hy.drew
     have hbd := hbw.drew
     have hGd := hG.below hbd
     have HTS := Lib.hid hts
     generalize cf xs j = x at *
     generalize cf ys j = y at *
     clear htg htl hts X Y hx hy HXG HYG HZG HKX HKY hlz
     go_wp2_with fail
     go_region_with (first
      | (go_at_call 37; (with_reducible refine (ratAdd_any x y _ _ _ hGd hxd hyd K bx bY (by unfold LIM; omega)).mono ?_); rintro e6 w6 ⟨v6, rfl, h6, hb6⟩; obtain ⟨s6, A6, k6, c6, s7, A7, k7, c7, rfl⟩ := h6.form; replace Xd := Xd.below hb6; replace Yd := Yd.below hb6; replace hbd := hbd.trans (hb6.mono hbd.size); obtain ⟨_, _, _, _, _, _, _, _, g0, g1, g2, g3, -⟩ := Xd.at_ (List.getElem?_eq_getElem hgx); have f0' := Xd.free (j * 4); have f1' := Xd.free (j * 4 + 1); have f2' := Xd.free (j * 4 + 2); have f3' := Xd.free (j * 4 + 3)))
     all_goals (
      go_wp2_with fail
      obtain ⟨zX, hst⟩ := Xd.stored hgx h6
      rw [HTS.out] at zX
      have zY := Yd.step hst (by omega)
      have zb := below_step hbd hst hgx3
      go_roundg k
      case rel => exact ⟨j + 1, by have := HJ.out; unfold Hid; omega, by go_num, zX, zY, zb⟩
      case measure => omega)
  ·have hvb' : vl b = false := by simpa using hvb
   have HN : Hid (¬ (vl a = true ∧ vl b = true)) := fun h => hvb h.2
   rw [hva, hvb']
   clear hva hvb hvb' h1 h2
   go_wp2_with fail
   go_ret2
   unfold RetAdd
   rw [if_neg HN.out]
   exact ⟨_, rfl, StrsAt.nil _ _ _, hb⟩
 ·have hva' : vl a = false := by simpa using hva
  have HN : Hid (¬ (vl a = true ∧ vl b = true)) := fun h => hva h.1
  rw [hva']
  clear hva hva' h1 h2
  generalize vl b = ok
  go_wp2_with fail
  all_goals (
   go_ret2
   unfold RetAdd
   rw [if_neg HN.out]
   exact ⟨_, rfl, StrsAt.nil _ _ _, hb⟩)
set_option maxRecDepth 100000 in
theorem add_poly (a b : List (List UInt8)) (va vb : Value) (w : World) (hG : Glob w) (ha : StrsAt w va a) (hb' : StrsAt w vb b) (hla : a.length ≤ 1073741824) (hlb : b.length ≤ 1073741824) (K : Nat)
  (hca : a.length ≤ 65 → ∀ l ∈ a, l.length ≤ 1073741824) (hcb : b.length ≤ 65 → ∀ l ∈ b, l.length ≤ 1073741824) (hKa : a.length ≤ 65 → ∀ q ∈ ratsOf a, RL K q) (hKb : b.length ≤ 65 → ∀ q ∈ ratsOf b, RL K q) (hK1 : 1 ≤ K) (hK : 2 * K + 1 ≤ 1073741824)
  (hva : vl a = true) (hvb : vl b = true) (hP : (trimG isZ (addR (ratsOf a) (ratsOf b))).length ≤ 65) :
  Calls Tryz.prog 16 #[va, vb] w fun e w' => ∃ v', e = .returned (.tuple #[v', .int .i64 0]) ∧ StrsAt w' v' ((trimG isZ (addR (ratsOf a) (ratsOf b))).map ratTxt) ∧ Below w.heap.size w w' := by
 obtain ⟨A, c, rfl, hc⟩ := ha.form
 obtain ⟨A', c', rfl, hc'⟩ := hb'.form
 have hcm := (combine_add a b _ _ w hG ha hb' hla hlb K hca hcb hKa hKb hK1 hK).mono (fun e w' h => show ∃ v', e = .returned (.tuple #[v', .int .i64 0]) ∧ StrsAt w' v' ((trimG isZ (addR (ratsOf a) (ratsOf b))).map ratTxt) ∧ Below w.heap.size w w' by
  unfold RetAdd at h
  rw [if_pos ⟨hva, hvb⟩] at h
  obtain ⟨v', he, hs, hb⟩ := h
  rw [if_pos hP] at he hs
  exact ⟨v', he, hs, hb⟩)
 clear hva hvb hP hKa hKb hca hcb
 generalize (trimG isZ (addR (ratsOf a) (ratsOf b))).map ratTxt = T at *
 go_enter Tryz.func16, Tryz.ntmps16
 go_wp2_with fail
 ((with_reducible refine hcm.mono ?_))
 rintro e5 w5 ⟨v5, rfl, h5, hb5⟩
 go_wp2_with fail
 go_ret2
 exact ⟨_, rfl, h5, hb5⟩
theorem polys_two {w : World} {A A' : Option Addr} {c c' : Nat} {a b : List (List UInt8)} (ha : StrsAt w (.slice A a.length c) a) (hb : StrsAt w (.slice A' b.length c') b) (t : TypeId) :
  PolysAt (w.alloc (.cells #[.slice A a.length c, .slice A' b.length c'] t)) (.slice (some ⟨w.heap.size, 0, none⟩) 2 2) [a, b] := by
 have B := Bx.new w [.slice A a.length c, .slice A' b.length c'] t
 have hu : Below w.heap.size w (w.alloc (.cells #[.slice A a.length c, .slice A' b.length c'] t)) := (Below.refl _ _).alloc (Nat.le_refl _) _
 refine ⟨w.heap.size, 2, rfl, fun i p hp => ?_⟩
 match i, hp with
 | 0, hp =>
  simp at hp
  subst hp
  exact ⟨A, c, B.cell 0 rfl, ha.below hu⟩
 | 1, hp =>
  simp at hp
  subst hp
  exact ⟨A', c', B.cell 1 rfl, hb.below hu⟩
theorem div_back {A B Q R : List Rat} {K : Nat} (h : DivRes A B Q R K) (tA : Trimmed A) : trimG isZ (addR (trimG isZ (timesR Q B)) R) = A := by
 refine trim_ext (trimmed_trim _) tA (fun i => ?_)
 rw [cf_trim, cf_addR, cf_trim, cf_timesR]
 exact h.id_ i
theorem div_prod_RL {A B Q R : List Rat} {K : Nat} (h : DivRes A B Q R K) (hA : ∀ q ∈ A, RL K q) (h1 : 1 ≤ K) : ∀ q ∈ trimG isZ (timesR Q B), RL (2 * K + 1) q := fun q hq => by
 obtain ⟨i, hi, rfl⟩ := List.getElem_of_mem hq
 have e : (trimG isZ (timesR Q B))[i] = cf A i + -(cf R i) := by
  rw [← cf_get hi, cf_trim, cf_timesR, ← h.id_ i]
  grind
 rw [e]
 exact add_RL (cf_RL hA (RL_zero h1) i) (RL_neg (cf_RL h.br (RL_zero h1) i))
theorem timesR_len {Q B : List Rat} : (timesR Q B).length ≤ Q.length + B.length := by
 unfold timesR
 split
 ·simp
 ·rw [List.length_map, List.length_range]; omega
set_option maxRecDepth 100000 in
theorem division_any (a b : List (List UInt8)) (va vb : Value) (w : World) (hG : Glob w) (ha : StrsAt w va a) (hb' : StrsAt w vb b) (hca : ∀ l ∈ a, l.length ≤ 9223372036854775807) (hcb : ∀ l ∈ b, l.length ≤ 9223372036854775807) :
  Calls Tryz.prog 4 #[va, vb] w fun e w' => e = .returned (.bool true) ∧ Below w.heap.size w w' := by
 obtain ⟨A, c, rfl, hc⟩ := ha.form
 obtain ⟨A', c', rfl, hc'⟩ := hb'.form
 have hp := polys_two ha hb' 22
 have hb : Below w.heap.size w (w.alloc (.cells #[.slice A a.length c, .slice A' b.length c'] 22)) := (Below.refl _ _).alloc (Nat.le_refl _) _
 have hsm := fun W v (hp : PolysAt W v [a, b]) => show Calls Tryz.prog 7 #[.int .i64 12, .int .i64 8, v] W fun e w' => e = .returned (.bool (smallB 12 8 [a, b])) ∧ W = w' from small_any 12 8 [a, b] v W hp (by decide) (by decide) (by show 2 ≤ 1073741824; decide) (fun p hp => by
  simp only [List.mem_cons, List.not_mem_nil, or_false] at hp
  rcases hp with rfl | rfl
  ·exact hca
  ·exact hcb)
 clear hca hcb
 go_enter Tryz.func4, Tryz.ntmps4
 go_wp2_with fail
 replace ha := ha.below hb
 replace hb' := hb'.below hb
 generalize w.alloc (.cells #[.slice A a.length c, .slice A' b.length c'] 22) = W at *
 ((with_reducible refine (hsm _ _ hp).mono ?_))
 rintro e1 w1 ⟨rfl, rfl⟩
 clear hsm hp
 cases hs : smallB 12 8 [a, b] with
 | false =>
  clear hs
  go_wp2_with fail
  ((with_reducible refine (awake_any _ (hG.below hb)).mono ?_))
  rintro e9 w9 ⟨rfl, hb9⟩
  go_wp2_with fail
  go_ret
  exact ⟨rfl, hb.trans (hb9.mono hb.size)⟩
 | true =>
  obtain ⟨la, sa⟩ := small_parts hs (p := a) (by simp)
  obtain ⟨lb, sb⟩ := small_parts hs (p := b) (by simp)
  have hca : a.length ≤ 65 → ∀ l ∈ a, l.length ≤ 1073741824 := fun _ l hl => Nat.le_trans (sa l hl) (by decide)
  have hcb : b.length ≤ 65 → ∀ l ∈ b, l.length ≤ 1073741824 := fun _ l hl => Nat.le_trans (sb l hl) (by decide)
  have hKa : ∀ q ∈ ratsOf a, RL 1 q := RL_short (fun l hl => Nat.le_trans (sa l hl) (by decide))
  have hKb : ∀ q ∈ ratsOf b, RL 1 q := RL_short (fun l hl => Nat.le_trans (sb l hl) (by decide))
  clear hs sa sb
  go_wp2_with fail
  ((with_reducible refine (valid_any a _ _ (hG.below hb) ha (by omega) hca).mono ?_))
  rintro e2 w2 ⟨rfl, hb2⟩
  replace ha := ha.below hb2
  replace hb' := hb'.below hb2
  replace hb := hb.trans (hb2.mono hb.size)
  cases hva : vl a with
  | false =>
   clear hva
   go_wp2_with fail
   ((with_reducible refine (awake_any _ (hG.below hb)).mono ?_))
   rintro e9 w9 ⟨rfl, hb9⟩
   go_wp2_with fail
   go_ret
   exact ⟨rfl, hb.trans (hb9.mono hb.size)⟩
  | true =>
   have HVA := Lib.hid hva
   clear hva
   go_wp2_with fail
   ((with_reducible refine (valid_any b _ _ (hG.below hb) hb' (by omega) hcb).mono ?_))
   rintro e3 w3 ⟨rfl, hb3⟩
   replace ha := ha.below hb3
   replace hb' := hb'.below hb3
   replace hb := hb.trans (hb3.mono hb.size)
   cases hvb : vl b with
   | false =>
    clear hvb
    go_wp2_with fail
    ((with_reducible refine (awake_any _ (hG.below hb)).mono ?_))
    rintro e9 w9 ⟨rfl, hb9⟩
    go_wp2_with fail
    go_ret
    exact ⟨rfl, hb.trans (hb9.mono hb.size)⟩
   | true =>
    have HVB := Lib.hid hvb
    clear hvb
    go_wp2_with fail
    ((with_reducible refine (quoRem_gen a b _ _ _ (hG.below hb) ha hb' (by omega) (by omega) 1 hca hcb (fun _ => hKa) (fun _ => hKb) 4555 4621 (by decide) (by decide) (by decide)).mono ?_))
    rintro e4 w4 ⟨vq, vr, n, Q, R, rfl, hq, hr, hb4, -, hz, hd⟩
    replace ha := ha.below hb4
    replace hb' := hb'.below hb4
    replace hb := hb.trans (hb4.mono hb.size)
    by_cases hb0 : b = []
    ·obtain ⟨rfl, rfl, rfl⟩ := hz HVA.out HVB.out hb0
     subst hb0
     clear hz hd
     go_wp2_with fail
     ((with_reducible refine (awake_any _ (hG.below hb)).mono ?_))
     rintro e9 w9 ⟨rfl, hb9⟩
     go_wp2_with fail
     go_ret
     exact ⟨rfl, hb.trans (hb9.mono hb.size)⟩
    ·obtain ⟨rfl, hD⟩ := hd HVA.out HVB.out hb0
     clear hd
     have hbl : b.length ≠ 0 := fun e => hb0 (List.eq_nil_of_length_eq_zero e)
     have hbl0 : ((b.length : Int) == 0) = false := by simp; omega
     obtain ⟨Aq, cq, rfl, hcq⟩ := hq.form
     obtain ⟨Ar, cr, rfl, hcr⟩ := hr.form
     have lra := rats_len a
     have lrb := rats_len b
     have lQ := hD.q_len
     have lR := hD.r_lt
     have tA := (vl_parts HVA.out).2.2
     have hxa := txt_rats (vl_parts HVA.out).2.1
     have bQ : ∀ q ∈ ratsOf (Q.map ratTxt), RL 4621 q := by rw [rats_txt]; exact hD.bq
     have cQ : ∀ l ∈ Q.map ratTxt, l.length ≤ 1073741824 := fun l hl => by
      obtain ⟨q, hq', rfl⟩ := List.mem_map.1 hl
      exact Nat.le_trans (txt_len (hD.bq q hq')) (by decide)
     have cR : ∀ l ∈ R.map ratTxt, l.length ≤ 1073741824 := fun l hl => by
      obtain ⟨q, hq', rfl⟩ := List.mem_map.1 hl
      exact Nat.le_trans (txt_len (hD.br q hq')) (by decide)
     have vQ := vl_txt (Q := Q) (by omega) hD.q_trim
     have vR := vl_txt (Q := R) (by omega) hD.r_trim
     have lP := trimG_len isZ (timesR Q (ratsOf b))
     have lP2 := timesR_len (Q := Q) (B := ratsOf b)
     have hPl : (trimG isZ (timesR Q (ratsOf b))).length ≤ 65 := by omega
     have bP := div_prod_RL hD (fun q hq => RL_mono (hKa q hq) (by decide)) (by decide)
     have tP := trimmed_trim (timesR Q (ratsOf b))
     have hback := div_back hD tA
     have bR := hD.br
     have hml := fun W (hG : Glob W) h1 h2 => (mul_poly (Q.map ratTxt) b (.slice Aq (Q.map ratTxt).length cq) (.slice A' b.length c') W hG h1 h2 (by rw [List.length_map]; omega) (by omega) 4621 (fun _ => cQ) hcb (fun _ => bQ) (fun _ q hq => RL_mono (hKb q hq) (by decide)) (by decide)).mono (fun e w' h => show ∃ v', e = .returned (.tuple #[v', .int .i64 0]) ∧ StrsAt w' v' ((trimG isZ (timesR Q (ratsOf b))).map ratTxt) ∧ Below W.heap.size W w' by
      unfold RetMul at h
      rw [if_pos ⟨vQ, HVB.out⟩, rats_txt] at h
      obtain ⟨v', he, hs, hb⟩ := h
      rw [if_pos hPl] at he hs
      exact ⟨v', he, hs, hb⟩)
     generalize trimG isZ (timesR Q (ratsOf b)) = P at *
     have vP := vl_txt (Q := P) hPl tP
     have cP : ∀ l ∈ P.map ratTxt, l.length ≤ 1073741824 := fun l hl => by
      obtain ⟨q, hq', rfl⟩ := List.mem_map.1 hl
      exact Nat.le_trans (txt_len (bP q hq')) (by decide)
     have had := fun W (hG : Glob W) v h1 h2 => (add_poly (P.map ratTxt) (R.map ratTxt) v (.slice Ar (R.map ratTxt).length cr) W hG h1 h2 (by rw [List.length_map]; omega) (by rw [List.length_map]; omega) 9243 (fun _ => cP) (fun _ => cR) (fun _ => by rw [rats_txt]; exact bP) (fun _ => by rw [rats_txt]; exact fun q hq => RL_mono (bR q hq) (by decide)) (by decide) (by decide) vP vR (by rw [rats_txt, rats_txt, hback]; omega))
     simp only [rats_txt, hback, hxa] at had
     have hlr : (R.map ratTxt).length < b.length := by rw [List.length_map]; omega
     have HLR := Lib.hid hlr
     have hlri : (((R.map ratTxt).length : Nat) : Int) < (b.length : Int) := by omega
     generalize Q.map ratTxt = TQ at *
     generalize R.map ratTxt = TR at *
     generalize P.map ratTxt = TP at *
     clear hz hD lra lrb lQ lR tA hxa bQ cQ cR vQ vR lP lP2 hPl bP tP hback bR vP cP hKa hKb hca hcb hb0 HVA HVB hlr
     go_wp2_with fail
     ((with_reducible refine (hml _ (hG.below hb) hq hb').mono ?_))
     rintro e5 w5 ⟨v5, rfl, h5, hb5⟩
     replace ha := ha.below hb5
     replace hr := hr.below hb5
     replace hb := hb.trans (hb5.mono hb.size)
     clear hml hq hb'
     go_wp2_with fail
     ((with_reducible refine (had _ (hG.below hb) _ h5 hr).mono ?_))
     rintro e6 w6 ⟨v6, rfl, h6, hb6⟩
     replace ha := ha.below hb6
     replace hb := hb.trans (hb6.mono hb.size)
     clear had h5 hr
     go_wp2_with fail
     ((with_reducible refine (keepSame a _ _ _ h6 ha (by omega)).mono ?_))
     rintro e7 w7 ⟨rfl, hb7⟩
     replace hb := hb.trans (hb7.mono hb.size)
     go_wp2_with fail
     ((with_reducible refine (awake_any _ (hG.below hb)).mono ?_))
     rintro e9 w9 ⟨rfl, hb9⟩
     go_wp2_with fail
     go_ret
     exact ⟨rfl, hb.trans (hb9.mono hb.size)⟩
end Go.Proofs.YtoimnlnaaklinaaGreatDoor
