/-
  Contracts of functions that the statement reaches, and plain laws: RatT, UniH, PlusA, PlusB, CmpP, ExtA, BezP, BezQ, ExtB, LawB.
-/
import Derived.Test.YtoimnlnaaklinaaGreatDoorB19
import Derived.Test.YtoimnlnaaklinaaGreatDoorB25
import Derived.Test.YtoimnlnaaklinaaGreatDoorB29
import Derived.Test.YtoimnlnaaklinaaGreatDoorB32
import Derived.Test.YtoimnlnaaklinaaGreatDoorB33
import Derived.Test.YtoimnlnaaklinaaGreatDoorB34
set_option linter.unusedVariables false
set_option linter.unusedSimpArgs false
set_option maxHeartbeats 8000000
namespace Go.Proofs.YtoimnlnaaklinaaGreatDoor
open Go.RowKit Sos
theorem ratAdd_any (x y : Rat) (vx vy : Value) (w : World) (hG : Glob w) (hx : RatAt w vx x) (hy : RatAt w vy y) (K : Nat) (bx : RL K x) (bY : RL K y) (hK : 20 * K + 60 ≤ LIM) :
  Calls Tryz.prog 37 #[vx, vy] w (RetRat w (x + y)) := by
 by_cases h1 : x.den = 1
 ·by_cases h2 : y.den = 1
  ·exact ratAdd_ii x y vx vy w hx hy h1 h2 K bx bY (by omega)
  ·exact ratAdd_iy x y vx vy w hx hy h1 h2 K bx bY (by omega)
 ·by_cases h2 : y.den = 1
  ·exact ratAdd_xi x y vx vy w hx hy h1 h2 K bx bY (by omega)
  ·exact ratAdd_xy x y vx vy w hG hx hy h1 h2 K bx bY hK
def addR (a b : List Rat) : List Rat := (List.range (max a.length b.length)).map (fun i => cf a i + cf b i)
theorem addR_len (a b : List Rat) : (addR a b).length = max a.length b.length := by unfold addR; rw [List.length_map, List.length_range]
theorem addR_get (a b : List Rat) {i : Nat} (h : i < max a.length b.length) : (addR a b)[i]? = some (cf a i + cf b i) := by unfold addR; rw [List.getElem?_map, List.getElem?_range h]; rfl
theorem cf_addR (a b : List Rat) (i : Nat) : cf (addR a b) i = cf a i + cf b i := by
 by_cases h : i < max a.length b.length
 ·exact cf_of (addR_get a b h)
 ·rw [cf_top (by rw [addR_len]; omega), cf_top (l := a) (by omega), cf_top (l := b) (by omega), Rat.add_zero]
theorem cf_pad (a : List Rat) (k i : Nat) : cf (a ++ List.replicate k 0) i = cf a i := by
 by_cases h : i < a.length
 ·rw [cf_get (l := a) h, cf_of (a := a[i])]
  rw [List.getElem?_append_left h, List.getElem?_eq_getElem h]
 ·rw [cf_top (l := a) (by omega)]
  by_cases h2 : i < a.length + k
  ·refine cf_of ?_
   rw [List.getElem?_append_right (by omega), List.getElem?_replicate, if_pos (by omega)]
  ·exact cf_top (by rw [List.length_append, List.length_replicate]; omega)
theorem pad_get (a : List Rat) (k i : Nat) (h : i < a.length + k) : (a ++ List.replicate k 0)[i]? = some (cf a i) := by
 have hl : i < (a ++ List.replicate k 0).length := by rw [List.length_append, List.length_replicate]; exact h
 rw [List.getElem?_eq_getElem hl, ← cf_get hl, cf_pad]
theorem addR_RL {a b : List Rat} {K : Nat} (ha : ∀ q ∈ a, RL K q) (hb : ∀ q ∈ b, RL K q) (h1 : 1 ≤ K) : ∀ q ∈ addR a b, RL (2 * K + 1) q := fun q hq => by
 unfold addR at hq
 obtain ⟨i, _, rfl⟩ := List.mem_map.1 hq
 have h0 : RL K 0 := ⟨by show nl 0 ≤ K; rw [nl_zero]; omega, by show nl 1 ≤ K; exact Nat.le_trans (nl_le (by decide)) h1⟩
 have hc : ∀ (l : List Rat), (∀ q ∈ l, RL K q) → RL K (cf l i) := fun l hl => by
  by_cases h : i < l.length
  ·rw [cf_get h]; exact hl _ (List.getElem_mem h)
  ·rw [cf_top (by omega)]; exact h0
 exact add_RL (hc a ha) (hc b hb)
theorem RL_zero' {K : Nat} (h : 1 ≤ K) : RL K 0 := ⟨by show nl 0 ≤ K; rw [nl_zero]; omega, by show nl 1 ≤ K; exact Nat.le_trans (nl_le (by decide)) h⟩
theorem cf_RL {l : List Rat} {K : Nat} (h : ∀ q ∈ l, RL K q) (h0 : RL K 0) (i : Nat) : RL K (cf l i) := by
 by_cases hi : i < l.length
 ·rw [cf_get hi]; exact h _ (List.getElem_mem hi)
 ·rw [cf_top (by omega)]; exact h0
def RetAdd (w : World) (a b : List (List UInt8)) (e : Ending) (w' : World) : Prop :=
 if vl a = true ∧ vl b = true then RetPoly w (trimG isZ (addR (ratsOf a) (ratsOf b))) e w' else ∃ v', e = .returned (.tuple #[v', .int .i64 1]) ∧ StrsAt w' v' [] ∧ Below w.heap.size w w'
set_option maxRecDepth 100000 in
theorem combine_add (a b : List (List UInt8)) (va vb : Value) (w : World) (hG : Glob w) (ha : StrsAt w va a) (hb' : StrsAt w vb b) (hla : a.length ≤ 1073741824) (hlb : b.length ≤ 1073741824) (K : Nat)
  (hca : a.length ≤ 65 → ∀ l ∈ a, l.length ≤ 1073741824) (hcb : b.length ≤ 65 → ∀ l ∈ b, l.length ≤ 1073741824) (hKa : a.length ≤ 65 → ∀ q ∈ ratsOf a, RL K q) (hKb : b.length ≤ 65 → ∀ q ∈ ratsOf b, RL K q) (hK1 : 1 ≤ K) (hK : 2 * K + 1 ≤ 1073741824) :
  Calls Tryz.prog 36 #[va, vb, .func (.func 37) #[] #[]] w (RetAdd w a b) := by
 obtain ⟨A, c, rfl, hc⟩ := ha.form
 obtain ⟨A', c', rfl, hc'⟩ := hb'.form
 go_enter Tryz.func36, Tryz.ntmps36
 go_wp2_with fail
 ((with_reducible refine (readRatios_any a _ _ hG ha hla hca).mono ?_))
 rintro e1 w1 ⟨v1, rfl, h1, hb1⟩
 go_wp2_with fail
 ((with_reducible refine (readRatios_any b _ _ (hG.below hb1) (hb'.below hb1) hlb hcb).mono ?_))
 rintro e2 w2 ⟨v2, rfl, h2, hb2⟩
 have hb := hb1.trans (hb2.mono hb1.size)
 by_cases hva : vl a = true
 ·by_cases hvb : vl b = true
  ·obtain ⟨gx, rfl, hgx, X⟩ := h1 hva
   obtain ⟨gy, rfl, hgy, Y⟩ := h2 hvb
   have l65a := (vl_parts hva).1
   have l65b := (vl_parts hvb).1
   have HR : Hid (∀ e w', RetPoly w (trimG isZ (addR (ratsOf a) (ratsOf b))) e w' → RetAdd w a b e w') := fun e w' h => by unfold RetAdd; rw [if_pos ⟨hva, hvb⟩]; exact h
   have hKx := hKa l65a
   have hKy := hKb l65b
   have hxl := rats_len a
   have hyl := rats_len b
   rw [hva, hvb]
   clear h1 h2 hva hvb hKa hKb hca hcb ha hb' hc hc'
   generalize ratsOf a = xs at *
   generalize ratsOf b = ys at *
   rw [← hxl, ← hyl]
   rw [← hxl] at l65a hla
   rw [← hyl] at l65b hlb
   clear hxl hyl
   have X2 := X.below hb2
   have hxy : gx ≠ gy := by have := X.lt; omega
   have hxlt := X2.lt
   have hylt := Y.lt
   have hsz := hb.size
   obtain ⟨M, hM⟩ : ∃ M, max xs.length ys.length = M := ⟨_, rfl⟩
   have hMi : max (xs.length : Int) (ys.length : Int) = (M : Int) := by omega
   have hM1 : xs.length ≤ M := by omega
   have hM2 : ys.length ≤ M := by omega
   have hM3 : M ≤ 65 := by omega
   have HM := Lib.hid hM
   have ex : xs.length + (M - xs.length) = M := by omega
   have ey : ys.length + (M - ys.length) = M := by omega
   have EX := Lib.hid ex
   have EY := Lib.hid ey
   obtain ⟨rx, rx1, rx2, rx3⟩ := X2
   clear X hM ex ey
   have tok1 : True := trivial
   go_wp2_with (first
    | (at_builtin; have _t := tok1; clear tok1 _t; refine wpList_appendR rfl rfl 71 _ 4 64 Tryz.underlying53 Tryz.underlying3 infoRat rfl (by decide) (by decide) gx xs.length (M - xs.length) rfl rfl (by omega) (by omega) rx rx1 rx2 ?_; intro gx3 cx3 w3 rx' hg3 hr3 hb3 hcx3; obtain ⟨ry, ry1, ry2, ry3⟩ := Y.below hb3; have tok2 : True := trivial)
    | (at_builtin; have _t := tok2; clear tok2 _t; refine wpList_appendR rfl rfl 71 _ 4 64 Tryz.underlying53 Tryz.underlying3 infoRat rfl (by decide) (by decide) gy ys.length (M - ys.length) rfl rfl (by omega) (by omega) ry ry1 ry2 ?_; intro gy4 cy4 w4 ry' hg4 hr4 hb4 hcy4))
   have X3 := OwnR.zeros rx3 rfl rx2 (Keep.below hb3) hr3
   have Y4 := OwnR.zeros ry3 rfl ry2 (Keep.below hb4) hr4
   have X4 := X3.below hb4
   have hx3l := X3.lt
   have hy4l := Y4.lt
   have hs3 := hb3.size
   have hs4 := hb4.size
   have hgxy : gx3 ≠ gy4 := by rcases hg3 with ⟨rfl, rfl⟩ | hg3 <;> rcases hg4 with ⟨rfl, rfl⟩ | hg4 <;> omega
   have hgx3 : w.heap.size ≤ gx3 := by rcases hg3 with ⟨rfl, rfl⟩ | hg3 <;> omega
   have hbw := (hb.trans (hb3.mono hb.size)).trans (hb4.mono (by omega))
   rw [EX.out] at hcx3
   rw [EY.out] at hcy4
   clear hg3 hg4 hr3 hr4 rx1 rx2 rx3 ry1 ry2 ry3 X3 Y hxy hxlt hylt hb1 hb2 hb3 hb4 hgx hgy hsz hx3l hy4l
   replace hG := hG
   have hXl : (xs ++ List.replicate (M - xs.length) (0 : Rat)).length = M := by rw [List.length_append, List.length_replicate]; exact EX.out
   have hYl : (ys ++ List.replicate (M - ys.length) (0 : Rat)).length = M := by rw [List.length_append, List.length_replicate]; exact EY.out
   have hzl : (addR xs ys).length = M := by rw [addR_len]; exact HM.out
   have HXG : Hid (∀ j, j < M → (xs ++ List.replicate (M - xs.length) (0 : Rat))[j]? = some (cf xs j)) := fun j hj => pad_get _ _ _ (by rw [EX.out]; exact hj)
   have HYG : Hid (∀ j, j < M → (ys ++ List.replicate (M - ys.length) (0 : Rat))[j]? = some (cf ys j)) := fun j hj => pad_get _ _ _ (by rw [EY.out]; exact hj)
   have HZG : Hid (∀ j, j < M → (addR xs ys)[j]? = some (cf xs j + cf ys j)) := fun j hj => addR_get _ _ (by rw [HM.out]; exact hj)
   have h0R := RL_zero' hK1
   have HKX : Hid (∀ j, RL K (cf xs j)) := fun j => cf_RL hKx h0R j
   have HKY : Hid (∀ j, RL K (cf ys j)) := fun j => cf_RL hKy h0R j
   have HKZ : Hid (∀ q ∈ addR xs ys, RL (2 * K + 1) q) := addR_RL hKx hKy hK1
   generalize xs ++ List.replicate (M - xs.length) (0 : Rat) = XS at *
   generalize ys ++ List.replicate (M - ys.length) (0 : Rat) = YS at *
   generalize hzz : addR xs ys = zs at *
   have HXL := Lib.hid hXl
   have HYL := Lib.hid hYl
   have HZL := Lib.hid hzl
   clear hXl hYl hzl hzz h0R hKx hKy
   go_loopg [49] M (fun k i wr => ∃ j, Hid (j + k = M) ∧ i = .int .i64 j ∧ OwnR wr gx3 (zs.take j ++ XS.drop j) ∧ OwnR wr gy4 YS ∧ Below w.heap.size w wr)
   case atStart => exact ⟨0, by unfold Hid; omega, rfl, by simpa using X4, Y4, hbw⟩
   case round =>
    clear X4 Y4 hbw
    obtain ⟨j, HJ, rfl, X, Y, hbw⟩ := hrel
    generalize wr = wx at *
    have hj0 : (0 : Int) ≤ (j : Int) := by omega
    cases gk with
    | zero =>
     have hj : j = M := HJ.out
     subst hj
     rw [List.take_of_length_le (by rw [HZL.out]; exact Nat.le_refl _), List.drop_of_length_le (by rw [HXL.out]; exact Nat.le_refl _), List.append_nil] at X
     have hr := X.rats cx3 (by rw [HZL.out]; exact hcx3)
     rw [HZL.out] at hr
     have hle : (trimG isZ zs).length ≤ 65 := Nat.le_trans (trimG_len isZ zs) (by rw [HZL.out]; exact hM3)
     have HLE := Lib.hid hle
     have hwr : Calls Tryz.prog 24 #[.slice (some ⟨gx3, 0, none⟩) j cx3] wx (fun e w' => ∃ v', e = .returned (.tuple #[v', .int .i64 0]) ∧ StrsAt w' v' ((trimG isZ zs).map ratTxt) ∧ Below wx.heap.size wx w') :=
      (write_any zs _ _ (hG.below hbw) hr (2 * K + 1) HKZ.out hK (by rw [HZL.out]; omega)).mono (fun e w' h => by
       obtain ⟨v', he, hs, hb⟩ := h
       rw [if_pos hle] at he hs
       exact ⟨v', he, hs, hb⟩)
     clear hle
     go_wp2_with fail
     ((with_reducible refine hwr.mono ?_))
     rintro e5 w5 ⟨v5, rfl, h5, hb5⟩
     go_wp2_with fail
     go_ret2
     refine HR.out _ _ ?_
     unfold RetPoly
     rw [if_pos HLE.out, if_pos HLE.out]
     exact ⟨_, rfl, h5, hbw.trans (hb5.mono hbw.size)⟩
    | succ k =>
     have hjM : j < M := by have := HJ.out; omega
     have hj1 : (j : Int) < (M : Int) := by omega
     have hlz : XS.length = zs.length := by rw [HXL.out, HZL.out]
     have htg := turn_get (ys := zs) (xs := XS) (j := j) (by rw [HXL.out]; exact hjM) hlz
     have htl := turn_len (j := j) hlz
     have hts := turn_step (xs := XS) (ys := zs) (y := cf xs j + cf ys j) (j := j) (HZG.out j hjM) hlz
     rw [HXG.out j hjM] at htg
     have hgx : j < (zs.take j ++ XS.drop j).length := by rw [htl, HXL.out]; exact hjM
     obtain ⟨s, B, l, d, s', B', l', d', p0, p1, p2, p3, hx⟩ := X.at_ htg
     obtain ⟨t, C, m, e, t', C', m', e', r0, r1, r2, r3, hy⟩ := Y.at_ (HYG.out j hjM)
     have bx := HKX.out j
     have bY := HKY.out j
     have f0 := X.free (j * 4)
     have f1 := X.free (j * 4 + 1)
     have f2 := X.free (j * 4 + 2)
     have f3 := X.free (j * 4 + 3)
     have Xd := X.below (Below.refl _ _).drew
     have Yd := Y.below (Below.refl _ _).drew
     have hxd := hx.drew
     have hyd := hy.drew
     have hbd := hbw.drew
     have hGd := hG.below hbd
     have HTS := Lib.hid hts
     generalize cf xs j = x at *
     generalize cf ys j = y at *
     clear htg htl hts X Y hx hy HXG HYG HZG HKX HKY hlz
     go_wp2_with fail
     go_region_with (first
      | (go_at_call 37; (with_reducible refine (ratAdd_any x y _ _ _ hGd hxd hyd K bx bY (by unfold LIM; omega)).mono ?_); rintro e6 w6 ⟨v6, rfl, h6, hb6⟩; obtain ⟨s6, A6, k6, c6, s7, A7, k7, c7, rfl⟩ := h6.form; replace Xd := Xd.below hb6; replace Yd := Yd.below hb6; replace hbd := hbd.trans (hb6.mono hbd.size); obtain ⟨_, _, _, _, _, _, _, _, g0, g1, g2, g3, -⟩ := Xd.at_ (List.getElem?_eq_getElem hgx); have f0' := Xd.free (j * 4); have f1' := Xd.free (j * 4 + 1); have f2' := Xd.free (j * 4 + 2); have f3' := Xd.free (j * 4 + 3)))
     all_goals (
      go_wp2_with fail
      obtain ⟨zX, hst⟩ := Xd.stored hgx h6
      rw [HTS.out] at zX
      have zY := Yd.step hst (by omega)
      have zb := below_step hbd hst hgx3
      go_roundg k
      case rel => exact ⟨j + 1, by have := HJ.out; unfold Hid; omega, by go_num, zX, zY, zb⟩
      case measure => omega)
  ·have hvb' : vl b = false := by simpa using hvb
   have HN : Hid (¬ (vl a = true ∧ vl b = true)) := fun h => hvb h.2
   rw [hva, hvb']
   clear hva hvb hvb' h1 h2
   go_wp2_with fail
   go_ret2
   unfold RetAdd
   rw [if_neg HN.out]
   exact ⟨_, rfl, StrsAt.nil _ _ _, hb⟩
 ·have hva' : vl a = false := by simpa using hva
  have HN : Hid (¬ (vl a = true ∧ vl b = true)) := fun h => hva h.1
  rw [hva']
  clear hva hva' h1 h2
  generalize vl b = ok
  go_wp2_with fail
  all_goals (
   go_ret2
   unfold RetAdd
   rw [if_neg HN.out]
   exact ⟨_, rfl, StrsAt.nil _ _ _, hb⟩)
set_option maxRecDepth 100000 in
theorem add_poly (a b : List (List UInt8)) (va vb : Value) (w : World) (hG : Glob w) (ha : StrsAt w va a) (hb' : StrsAt w vb b) (hla : a.length ≤ 1073741824) (hlb : b.length ≤ 1073741824) (K : Nat)
  (hca : a.length ≤ 65 → ∀ l ∈ a, l.length ≤ 1073741824) (hcb : b.length ≤ 65 → ∀ l ∈ b, l.length ≤ 1073741824) (hKa : a.length ≤ 65 → ∀ q ∈ ratsOf a, RL K q) (hKb : b.length ≤ 65 → ∀ q ∈ ratsOf b, RL K q) (hK1 : 1 ≤ K) (hK : 2 * K + 1 ≤ 1073741824)
  (hva : vl a = true) (hvb : vl b = true) (hP : (trimG isZ (addR (ratsOf a) (ratsOf b))).length ≤ 65) :
  Calls Tryz.prog 16 #[va, vb] w fun e w' => ∃ v', e = .returned (.tuple #[v', .int .i64 0]) ∧ StrsAt w' v' ((trimG isZ (addR (ratsOf a) (ratsOf b))).map ratTxt) ∧ Below w.heap.size w w' := by
 obtain ⟨A, c, rfl, hc⟩ := ha.form
 obtain ⟨A', c', rfl, hc'⟩ := hb'.form
 have hcm := (combine_add a b _ _ w hG ha hb' hla hlb K hca hcb hKa hKb hK1 hK).mono (fun e w' h => show ∃ v', e = .returned (.tuple #[v', .int .i64 0]) ∧ StrsAt w' v' ((trimG isZ (addR (ratsOf a) (ratsOf b))).map ratTxt) ∧ Below w.heap.size w w' by
  unfold RetAdd at h
  rw [if_pos ⟨hva, hvb⟩] at h
  obtain ⟨v', he, hs, hb⟩ := h
  rw [if_pos hP] at he hs
  exact ⟨v', he, hs, hb⟩)
 clear hva hvb hP hKa hKb hca hcb
 generalize (trimG isZ (addR (ratsOf a) (ratsOf b))).map ratTxt = T at *
 go_enter Tryz.func16, Tryz.ntmps16
 go_wp2_with fail
 ((with_reducible refine hcm.mono ?_))
 rintro e5 w5 ⟨v5, rfl, h5, hb5⟩
 go_wp2_with fail
 go_ret2
 exact ⟨_, rfl, h5, hb5⟩
theorem natAt_setRow' {w : World} {g : Nat} {cur cs : Array Value} {e : TypeId} (hg : w.heap[g]? = some (.cells cur e (0, 0))) (hn : ∀ u ∈ cur.toList, NoInt u) {u : Value} {n : Nat} (h : NatAt w u n) : NatAt (w.setRow g cs) u n := by
 obtain ⟨A, c, hv, hc, hr, ho⟩ := h
 have hsz : (w.setRow g cs).heap.size = w.heap.size := by simp [World.setRow]
 refine ⟨A, c, hv, hc, ?_, ho.mono (by rw [hsz]; exact Nat.le_refl _)⟩
 rcases hr with hr | ⟨b, off, rfl, hlt, hcs⟩
 ·exact .inl hr
 ·by_cases hz : dg n = []
  ·exact .inl hz
  ·have hbg : b ≠ g := fun eb => by
    subst eb
    have h0 := hcs 0 (List.length_pos_iff.2 hz)
    rw [cell_of_row w b (off + 0) cur e (0, 0) hg, ← Array.getElem?_toList] at h0
    exact hn _ (List.mem_of_getElem? h0) _ _ rfl
   refine .inr ⟨b, off, rfl, by rw [hsz]; exact hlt, fun i hi => ?_⟩
   exact (World.cell?_of_block (setRow_other w g b cs hbg)).trans (hcs i hi)
section
variable {P : Program} {ops : Array Oper} {rest : List Oper} {o : Oper} {a : Act} {Q : Exit → Act → World → Prop} {w : World}
theorem run_copy_k (dT sT ty elem : TypeId) (k g dLen dCap : Nat) (sp : Option Addr) (sLen sCap : Nat) (cur : Array Value) (t : TypeId) (cs : List Value)
  (hu : P.underlying dT = some (.slice elem)) (hs : (P.info? elem).map (·.size) = some k) (hk : 0 < k)
  (hg : w.heap[g]? = some (.cells cur t (0, 0))) (hn : cs.length = sLen * k) (hle : sLen ≤ dLen)
  (hsrc : Src w sp cs) (hfit : cs.length ≤ cur.size) (h1 : ∀ v ∈ cs, v.oneCell' = true) :
  (Builtin.copy_ #[dT, sT] ty #[.slice (some ⟨g, 0, none⟩) dLen dCap, .slice sp sLen sCap]).run P w = .ok (goInt sLen) (w.setRow g (cs ++ cur.toList.drop cs.length).toArray) := by
 have hst := run_storeCells_at P g 0 t cs 0 cur w hg (by simpa using hfit) h1
 have hm : Nat.min sLen dLen = sLen := Nat.min_eq_left hle
 simp only [Nat.zero_add, List.take_zero, List.nil_append] at hst
 cases hq : P.info? elem with
 | none => simp [hq] at hs
 | some i =>
  have hi : i.size = k := by simpa [hq] using hs
  cases sp with
  | none =>
   have h0 : cs = [] := by
    rcases hsrc with h | ⟨b, off, e, _⟩
    ·exact h
    ·cases e
   subst h0
   have hs0 : sLen = 0 := by
    rcases Nat.eq_zero_or_pos sLen with h | h
    ·exact h
    ·have := Nat.mul_pos h hk; simp at hn; omega
   subst hs0
   simp [Builtin.copy_, run_underlying hu, Builtin.lenOf, Builtin.firstCells, sizeOf, typeInfo, hq, hi, storeCells, setRow_self w g cur t (0, 0) hg]
  | some ad =>
   have hl := run_loadCells_list (P := P) w ad cs (fun j v hv => by
    rcases hsrc with h | ⟨b, off, e, hc⟩
    ·rw [h] at hv; simp at hv
    ·injection e with e
     subst e
     have := hc j v hv
     unfold Addr.add
     split
     ·rename_i hj; subst hj; simpa using this
     ·exact this)
   rw [hn] at hl
   simp [Builtin.copy_, run_underlying hu, Builtin.lenOf, Builtin.firstCells, sizeOf, typeInfo, hq, hi, hm, hl, hst]
theorem wpList_copyK (hgd : o.guard = none) {d s : Operand} {dT sT : TypeId} (ho : o.op = .call { callee := .builtin .copy, args := #[d, s], argTypes := #[dT, sT] }) (elem : TypeId) (k g dLen dCap : Nat) (sp : Option Addr) (sLen sCap : Nat) (cur : Array Value) (t : TypeId) (cs : List Value)
  (hu : P.underlying dT = some (.slice elem)) (hs : (P.info? elem).map (·.size) = some k) (hk : 0 < k) (hd : a.eval d = .slice (some ⟨g, 0, none⟩) dLen dCap) (hx : a.eval s = .slice sp sLen sCap)
  (hg : w.heap[g]? = some (.cells cur t (0, 0))) (hn : cs.length = sLen * k) (hle : sLen ≤ dLen) (hsrc : Src w sp cs) (hfit : cs.length ≤ cur.size) (h1 : ∀ v ∈ cs, v.oneCell' = true)
  (h : wpList P ops Q rest (a.put o.dst (goInt sLen)) (w.setRow g (cs ++ cur.toList.drop cs.length).toArray)) : wpList P ops Q (o :: rest) a w := by
 refine wpList_plain hgd fun K hK => ?_
 have hrun := run_copy_k (P := P) (w := w) dT sT o.type elem k g dLen dCap sp sLen sCap cur t cs hu hs hk hg hn hle hsrc hfit h1
 unfold Oper.wp execOp
 simp only [ho, resolve, invoke, builtin, Sem.run_bind, Sem.run_pure, Result.andThen_ok, List.map_toArray, List.map_cons, List.map_nil, hd, hx, hrun]
 exact hK _ _ h
end
theorem rep_drop {α : Type} (z : List α) (k l M : Nat) (hz : z.length = k) (hl : l ≤ M) : (List.replicate M z).flatten.drop (l * k) = (List.replicate (M - l) z).flatten := by
 have e : List.replicate M z = List.replicate l z ++ List.replicate (M - l) z := by rw [List.replicate_append_replicate]; congr 1; omega
 have hlen : (List.replicate l z).flatten.length = l * k := by rw [flat_len (k := k) (fun r hr => by rw [(List.mem_replicate.1 hr).2]; exact hz), List.length_replicate]
 rw [e, List.flatten_append, ← hlen, List.drop_left]
theorem OwnW.copied {w : World} {g M : Nat} {rows : List (List Value)} {ns : List Int} (hr : Rw w g 2 (List.replicate M [.bool false, .slice none 0 0]) 49) (hk : ∀ r ∈ rows, r.length = 2) (hl : rows.length = ns.length) (hM : ns.length ≤ M) (hi : IRow w rows ns) :
  let W := w.setRow g (rows.flatten ++ (List.replicate M ([.bool false, .slice none 0 0] : List Value)).flatten.drop rows.flatten.length).toArray
  OwnW W g (ns ++ List.replicate (M - ns.length) 0) ∧ StepAt g w W := by
 have hg : w.heap[g]? = some (.cells (List.replicate M ([.bool false, .slice none 0 0] : List Value)).flatten.toArray 49 (0, 0)) := hr.1
 have hkeep : Keep w (w.setRow g (rows.flatten ++ (List.replicate M ([.bool false, .slice none 0 0] : List Value)).flatten.drop rows.flatten.length).toArray) := fun x n hx => natAt_setRow' hg (fun u hu => by
  have hu' : u ∈ (List.replicate M ([.bool false, .slice none 0 0] : List Value)).flatten := hu
  obtain ⟨r, hr1, hr2⟩ := List.mem_flatten.1 hu'
  rw [(List.mem_replicate.1 hr1).2] at hr2
  simp at hr2
  rcases hr2 with rfl | rfl
  ·exact NoInt.bool _
  ·exact NoInt.slice _ _ _) hx
 have hlen : rows.flatten.length = ns.length * 2 := by rw [flat_len hk, hl]
 have hfl : rows.flatten ++ (List.replicate M ([.bool false, .slice none 0 0] : List Value)).flatten.drop rows.flatten.length = (rows ++ List.replicate (M - ns.length) [Value.bool false, Value.slice none 0 0]).flatten := by
  rw [hlen, rep_drop _ 2 _ _ rfl hM, List.flatten_append]
 refine ⟨⟨rows ++ List.replicate (M - ns.length) [.bool false, .slice none 0 0], ⟨?_, fun r hr => ?_⟩, by simp [hl], fun i n hn => ?_⟩, hkeep, fun b hb => setRow_other w g b _ hb, by simp [World.setRow], rfl, rfl, rfl⟩
 ·unfold Bx
  rw [← hfl]
  exact setRow_heap w g _ _ _ _ hg
 ·rcases List.mem_append.1 hr with h | h
  ·exact hk r h
  ·rw [(List.mem_replicate.1 h).2]; rfl
 ·rcases Nat.lt_or_ge i ns.length with h | h
  ·rw [List.getElem?_append_left h] at hn
   obtain ⟨s, A, l, c, e1, e2⟩ := hi i n hn
   exact ⟨s, A, l, c, by rw [List.getElem?_append_left (by omega)]; exact e1, e2.keep hkeep⟩
  ·rw [List.getElem?_append_right h] at hn
   have hlt := (List.getElem?_eq_some_iff.1 hn).1
   rw [List.length_replicate] at hlt
   rw [List.getElem?_replicate, if_pos hlt] at hn
   injection hn with hn
   subst hn
   exact ⟨false, none, 0, 0, by rw [List.getElem?_append_right (by omega), hl, List.getElem?_replicate, if_pos hlt], IntAt.zero _⟩
def plusL (xs ys : List Int) (y : Int) : List Int := (List.range (max xs.length ys.length)).map (fun i => cf xs i + cf ys i * y)
theorem plusL_len (xs ys : List Int) (y : Int) : (plusL xs ys y).length = max xs.length ys.length := by unfold plusL; rw [List.length_map, List.length_range]
def plusJ (xs ys : List Int) (y : Int) (j : Nat) : List Int := (List.range (max xs.length ys.length)).map (fun i => cf xs i + (if i < j then cf ys i * y else 0))
theorem plusJ_len (xs ys : List Int) (y : Int) (j : Nat) : (plusJ xs ys y j).length = max xs.length ys.length := by unfold plusJ; rw [List.length_map, List.length_range]
theorem plusJ_get (xs ys : List Int) (y : Int) (j : Nat) {i : Nat} (h : i < max xs.length ys.length) : (plusJ xs ys y j)[i]? = some (cf xs i + (if i < j then cf ys i * y else 0)) := by unfold plusJ; rw [List.getElem?_map, List.getElem?_range h]; rfl
theorem plusJ_zero (xs ys : List Int) (y : Int) : plusJ xs ys y 0 = xs ++ List.replicate (max xs.length ys.length - xs.length) 0 := by
 refine List.ext_getElem? (fun i => ?_)
 by_cases h : i < max xs.length ys.length
 ·rw [plusJ_get _ _ _ _ h, if_neg (by omega), Int.add_zero]
  by_cases hi : i < xs.length
  ·rw [List.getElem?_append_left hi, List.getElem?_eq_getElem hi, cf_get hi]
  ·rw [List.getElem?_append_right (by omega), List.getElem?_replicate, if_pos (by omega), cf_top (by omega)]
 ·rw [List.getElem?_eq_none (by rw [plusJ_len]; omega), List.getElem?_eq_none (by rw [List.length_append, List.length_replicate]; omega)]
theorem plusJ_end (xs ys : List Int) (y : Int) : plusJ xs ys y ys.length = plusL xs ys y := by
 unfold plusJ plusL
 refine List.map_congr_left (fun i _ => ?_)
 by_cases h : i < ys.length
 ·rw [if_pos h]
 ·rw [if_neg h, cf_top (l := ys) (by omega), Int.zero_mul]
theorem plusJ_set (xs ys : List Int) (y : Int) (j : Nat) (h : j < max xs.length ys.length) : (plusJ xs ys y j).set j (cf xs j + cf ys j * y) = plusJ xs ys y (j + 1) := by
 refine List.ext_getElem? (fun i => ?_)
 by_cases hi : i < max xs.length ys.length
 ·rw [plusJ_get _ _ _ _ hi]
  by_cases e : i = j
  ·subst e
   rw [List.getElem?_set_self (by rw [plusJ_len]; exact hi), if_pos (by omega)]
  ·rw [List.getElem?_set_ne (by omega), plusJ_get _ _ _ _ hi]
   by_cases h2 : i < j
   ·rw [if_pos h2, if_pos (by omega)]
   ·rw [if_neg h2, if_neg (by omega)]
 ·rw [List.getElem?_eq_none (by rw [List.length_set, plusJ_len]; omega), List.getElem?_eq_none (by rw [plusJ_len]; omega)]
theorem plus_nl {xs ys : List Int} {y : Int} {K : Nat} (hx : ∀ n ∈ xs, nl n.natAbs ≤ 2 * K) (hy : ∀ n ∈ ys, nl n.natAbs ≤ K) (hk : nl y.natAbs ≤ K) : ∀ n ∈ plusL xs ys y, nl n.natAbs ≤ 2 * K + 1 := fun n hn => by
 unfold plusL at hn
 obtain ⟨i, _, rfl⟩ := List.mem_map.1 hn
 exact nl_add_int _ _ _ (cf_nl hx i) (Nat.le_trans (nl_mul_int _ _ _ _ (cf_nl hy i) hk) (by omega))
theorem WholeAt.rows' {w : World} {A : Option Addr} {c : Nat} {ns : List Int} (h : WholeAt w (.slice A ns.length c) ns) :
  ∃ rows : List (List Value), rows.length = ns.length ∧ (∀ r ∈ rows, r.length = 2) ∧ Src w A rows.flatten ∧ IRow w rows ns ∧ ∀ u ∈ rows.flatten, u.oneCell' = true := by
 by_cases h0 : ns = []
 ·subst h0
  exact ⟨[], rfl, (fun r hr => by cases hr), .inl rfl, (fun i n hn => by simp at hn), (fun u hu => by simp at hu)⟩
 ·obtain ⟨rows, h1, h2, h3, h4, h5, h6⟩ := h.rows h0
  exact ⟨rows, h1, h3, h4, h5, h6⟩
theorem size_Int : (Tryz.prog.info? 49).map (·.size) = some 2 := by kernel_rfl
set_option maxRecDepth 100000 in
theorem plus_whole (xs ys : List Int) (y : Int) (vx vy vn : Value) (w : World) (hx : WholeAt w vx xs) (hy : WholeAt w vy ys) (hn : IntAt w vn y) (K : Nat) (hKx : ∀ n ∈ xs, nl n.natAbs ≤ 2 * K) (hKy : ∀ n ∈ ys, nl n.natAbs ≤ K) (hKn : nl y.natAbs ≤ K) (hK2 : 2 * K + 4 ≤ 17592186044416) (hlx : xs.length ≤ 1073741824) (hly : ys.length ≤ 1073741824) :
  Calls Tryz.prog 46 #[vx, vy, vn] w fun e w' => ∃ g c, e = .returned (.slice (some ⟨g, 0, none⟩) (trimG isZ (plusL xs ys y)).length c) ∧ w.heap.size < g ∧ WholeAt w' (.slice (some ⟨g, 0, none⟩) (trimG isZ (plusL xs ys y)).length c) (trimG isZ (plusL xs ys y)) ∧ Below w.heap.size w w' := by
 obtain ⟨A, c, rfl, hc⟩ := hx.form
 obtain ⟨A', c', rfl, hc'⟩ := hy.form
 obtain ⟨sn, An, kn, cn, rfl⟩ := hn.form
 obtain ⟨M, hM⟩ : ∃ M, max xs.length ys.length = M := ⟨_, rfl⟩
 have hMi : max (xs.length : Int) (ys.length : Int) = (M : Int) := by omega
 have hM1 : xs.length ≤ M := by omega
 have hM2 : ys.length ≤ M := by omega
 have hM3 : M ≤ 1073741824 := by omega
 have B1 : Bx (w.alloc (.cells #[.bool sn, .slice An kn cn] 49)) (w.heap.size) [.bool sn, .slice An kn cn] 49 := Bx.newAt w [.bool sn, .slice An kn cn] 49 (w.heap.size) (by simp)
 have hb : Below w.heap.size w (w.alloc (.cells #[.bool sn, .slice An kn cn] 49)) := (Below.refl _ _).alloc (by simp) _
 go_enter Tryz.func46, Tryz.ntmps46
 obtain ⟨rows, hrl, hrk, hsrc, hir, hone⟩ := hx.rows'
 have hfit : rows.flatten.length ≤ (List.replicate M ([.bool false, .slice none 0 0] : List Value)).flatten.toArray.size := by
  rw [flat_len hrk, hrl, List.size_toArray, flat_len (k := 2) (fun r hr => by rw [(List.mem_replicate.1 hr).2]; rfl), List.length_replicate]; omega
 have hrn : rows.flatten.length = xs.length * 2 := by rw [flat_len hrk, hrl]
 have HFIT := Lib.hid hfit
 have HRN := Lib.hid hrn
 clear hfit hrn
 go_wp2_with (first
  | (at_make; refine wpList_makeR rfl rfl 49 _ 2 32 Tryz.underlying46 infoInt rfl (by decide) M rfl rfl (by first | rfl | omega) (by first | rfl | omega) (by omega) (by omega) ?_; intro w1 hz1 hr1 hb1; rw [World.size_alloc] at hr1; have hrb : w1.heap[w.heap.size + 1]? = some (.cells (List.replicate M ([.bool false, .slice none 0 0] : List Value)).flatten.toArray 49 (0, 0)) := hr1.1; have hsb := hsrc.below (hb.trans (hb1.mono hb.size)); have HRB := Lib.hid hrb; clear hrb)
  | (with_reducible refine wpList_copyK rfl (d := .tmp 16) (s := .tmp 17) rfl 49 2 (w.heap.size + 1) M M A xs.length c _ 49 rows.flatten Tryz.underlying46 size_Int (by decide) rfl rfl HRB.out HRN.out hM1 hsb HFIT.out hone ?_; generalize hW2 : World.setRow w1 (w.heap.size + 1) (rows.flatten ++ (List.replicate M ([.bool false, .slice none 0 0] : List Value)).flatten.drop rows.flatten.length).toArray = w2; have HW2 := Lib.hid hW2; clear hW2))
 have hbw := hb.trans (hb1.mono hb.size)
 obtain ⟨R0, hst⟩ := OwnW.copied (w := w1) (g := w.heap.size + 1) (M := M) hr1 hrk hrl hM1 (hir.keep (Keep.below hbw))
 rw [HW2.out] at R0 hst
 have B1' := B1.below hb1
 have B2 : Bx _ w.heap.size [.bool sn, .slice An kn cn] 49 := (hst.2.1 w.heap.size (by omega)).trans B1'
 have hb2 := below_step hbw hst (by omega)
 rw [← hM, ← plusJ_zero xs ys y] at R0
 have hLen := plusL_len xs ys y
 have HML := Lib.hid hM
 have HLL : Hid ((plusL xs ys y).length = M) := by unfold Hid; rw [hLen]; exact hM
 have HJL : Hid (∀ j, (plusJ xs ys y j).length = M) := fun j => by rw [plusJ_len]; exact hM
 have HJG : Hid (∀ j i, i < M → (plusJ xs ys y j)[i]? = some (cf xs i + (if i < j then cf ys i * y else 0))) := fun j i hi => plusJ_get _ _ _ _ (by rw [hM]; exact hi)
 have HJS : Hid (∀ j, j < M → (plusJ xs ys y j).set j (cf xs j + cf ys j * y) = plusJ xs ys y (j + 1)) := fun j hj => plusJ_set _ _ _ _ (by rw [hM]; exact hj)
 have HJE : Hid (plusJ xs ys y ys.length = plusL xs ys y) := plusJ_end _ _ _
 have HKL : Hid (∀ n ∈ plusL xs ys y, nl n.natAbs ≤ 2 * K + 1) := plus_nl hKx hKy hKn
 clear hM hLen hMi hr1 hz1 hb1 hst B1' hb B1 hrl hrk hsrc hir hone hbw HRB HRN HFIT hsb HW2
 go_wp2_with fail
 go_loopg [21] ys.length (fun k i wr => ∃ j, Hid (j + k = ys.length) ∧ i = .int .i64 j ∧ OwnW wr (w.heap.size + 1) (plusJ xs ys y j) ∧ Bx wr w.heap.size [.bool sn, .slice An kn cn] 49 ∧ Below w.heap.size w wr)
 case atStart => exact ⟨0, by unfold Hid; omega, rfl, R0, B2, hb2⟩
 case round =>
  clear R0 B2 hb2
  obtain ⟨j, HJ, rfl, S, N, hb⟩ := hrel
  generalize wr = wx at *
  have hj0 : (0 : Int) ≤ (j : Int) := by omega
  cases gk with
  | zero =>
   have hj : j = ys.length := HJ.out
   subst hj
   rw [HJE.out] at S
   have hwl := S.whole M (by rw [HLL.out]; exact Nat.le_refl _)
   have htr := trim_whole (plusL xs ys y) (some ⟨w.heap.size + 1, 0, none⟩) M wx hwl (2 * K + 1) HKL.out (by omega) (by rw [HLL.out]; omega)
   rw [HLL.out] at htr
   go_wp2_with fail
   ((with_reducible refine htr.mono ?_))
   rintro e5 w5 ⟨rfl, h5, hb5⟩
   go_wp2_with fail
   go_ret
   exact ⟨w.heap.size + 1, M, rfl, by omega, h5, hb.trans (hb5.mono hb.size)⟩
  | succ k =>
   have hjy : j < ys.length := by have := HJ.out; omega
   have hjM : j < M := by omega
   have hj1 : (j : Int) < (ys.length : Int) := by omega
   have hj2 : (j : Int) < (M : Int) := by omega
   have hgt := HJG.out j j hjM
   rw [if_neg (Nat.lt_irrefl j), Int.add_zero] at hgt
   have hlr : j < (plusJ xs ys y j).length := by rw [HJL.out]; exact hjM
   have hset := HJS.out j hjM
   obtain ⟨b, s, B, l, d, rfl, hbl, y0, y1, hyi, hym⟩ := (hy.below hb).get (i := j) hjy
   have bY := hKy _ hym
   have bX := cf_nl hKx j
   have bmu := nl_mul_int (cf ys j) y _ _ bY hKn
   have hmul := fun W v u h1 h2 => mul_any (cf ys j) y v u W h1 h2 (by omega)
   have hadd := fun W v u h1 h2 => add_any (cf xs j) (cf ys j * y) v u W h1 h2 (by omega) (by omega)
   unfold RetInt at hmul hadd
   have HSET := Lib.hid hset
   clear hset hym bmu
   generalize cf xs j + cf ys j * y = nv at *
   generalize cf ys j * y = mv at *
   generalize cf xs j = ov at *
   generalize cf ys j = yv at *
   obtain ⟨st, At, kt, ct, g0, g1, hov⟩ := S.at_ hgt
   have hwl := S.lt
   have hnl := N.lt
   have hgc : wx.heap.size ≠ w.heap.size + 1 := by omega
   have hC0 : Below wx.heap.size wx (wx.alloc (.cells #[.bool s, .slice B l d] 49)) := (Below.refl _ _).alloc (Nat.le_refl _) _
   have C := Bx.new wx [.bool s, .slice B l d] 49
   have C_0 := C.cell 0 rfl
   have C_1 := C.cell 1 rfl
   have N_0 := (N.below hC0).cell 0 rfl
   have N_1 := (N.below hC0).cell 1 rfl
   replace g0 := (hC0.cell (p := ⟨w.heap.size + 1, j * 2, none⟩) hwl).trans g0
   replace g1 := (hC0.cell (p := ⟨w.heap.size + 1, j * 2 + 1, none⟩) hwl).trans g1
   have hov' := (hov.below hC0).drew
   have hn' := ((hn.below hb).below hC0).drew
   have hyi' := (hyi.below hC0).drew
   have hS' := (S.below hC0).drew
   have hN' := (N.below hC0).drew
   have hb' := (hb.trans (hC0.mono hb.size)).drew
   replace hwl := Nat.lt_of_lt_of_le hwl hC0.size
   replace hnl := Nat.lt_of_lt_of_le hnl hC0.size
   have hcl := C.lt
   clear hgt S N hb hyi hov
   go_wp2_with fail
   clear C hC0
   generalize hgcz : wx.heap.size = gc at *
   generalize wx.alloc (.cells #[.bool s, .slice B l d] 49) = wz at *
   go_region_with (first
     | (go_at_call 27; (with_reducible refine (hmul _ _ _ hyi' hn').mono ?_); rintro e6 w6 ⟨v6, rfl, h6, hb6⟩; replace hov' := hov'.below hb6; replace hS' := hS'.below hb6; replace hN' := hN'.below hb6; replace hb' := hb'.trans (hb6.mono hb'.size); replace g0 := (hb6.cell (p := ⟨w.heap.size + 1, j * 2, none⟩) hwl).trans g0; replace g1 := (hb6.cell (p := ⟨w.heap.size + 1, j * 2 + 1, none⟩) hwl).trans g1; replace N_0 := (hb6.cell (p := ⟨w.heap.size, 0, none⟩) hnl).trans N_0; replace N_1 := (hb6.cell (p := ⟨w.heap.size, 1, none⟩) hnl).trans N_1; replace C_0 := (hb6.cell (p := ⟨gc, 0, none⟩) hcl).trans C_0; replace C_1 := (hb6.cell (p := ⟨gc, 1, none⟩) hcl).trans C_1; replace hwl := Nat.lt_of_lt_of_le hwl hb6.size; replace hnl := Nat.lt_of_lt_of_le hnl hb6.size; replace hcl := Nat.lt_of_lt_of_le hcl hb6.size)
     | (go_at_call 64; (with_reducible refine (hadd _ _ _ hov' h6).mono ?_); rintro e7 w7 ⟨v7, rfl, h7, hb7⟩; obtain ⟨s7, A7, k7, c7, rfl⟩ := h7.form; replace hov' := hov'.below hb7; replace hS' := hS'.below hb7; replace hN' := hN'.below hb7; replace hb' := hb'.trans (hb7.mono hb'.size); replace g0 := (hb7.cell (p := ⟨w.heap.size + 1, j * 2, none⟩) hwl).trans g0; replace g1 := (hb7.cell (p := ⟨w.heap.size + 1, j * 2 + 1, none⟩) hwl).trans g1; replace N_0 := (hb7.cell (p := ⟨w.heap.size, 0, none⟩) hnl).trans N_0; replace N_1 := (hb7.cell (p := ⟨w.heap.size, 1, none⟩) hnl).trans N_1; replace C_0 := (hb7.cell (p := ⟨gc, 0, none⟩) hcl).trans C_0; replace C_1 := (hb7.cell (p := ⟨gc, 1, none⟩) hcl).trans C_1; replace hwl := Nat.lt_of_lt_of_le hwl hb7.size; replace hnl := Nat.lt_of_lt_of_le hnl hb7.size; replace hcl := Nat.lt_of_lt_of_le hcl hb7.size; have f0 := hS'.free (j * 2); have f1 := hS'.free (j * 2 + 1)))
   all_goals (
    go_wp2_with fail
    have hst := (hS'.stored hlr h7).2
    have zS := (hS'.stored hlr h7).1
    rw [HSET.out] at zS
    have zN : Bx _ w.heap.size [.bool sn, .slice An kn cn] 49 := (hst.2.1 w.heap.size (by omega)).trans hN'
    have zb := below_step hb' hst (by omega)
    go_roundg k
    case rel => exact ⟨j + 1, by have := HJ.out; unfold Hid; omega, by go_num, zS, zN, zb⟩
    case measure => omega)
end Go.Proofs.YtoimnlnaaklinaaGreatDoor
namespace Go.Proofs.YtoimnlnaaklinaaGreatDoor
open Sos
def hornS (inner res : List Int) (c pw : Int) : List Int := trimG isZ (plusL (timesL res inner) (trimG isZ [c]) pw)
def hornR (outer inner : List Int) (E : Int) : Nat → List Int
 | 0 => []
 | k + 1 => hornS inner (hornR outer inner E k) (cf outer (outer.length - 1 - k)) (E ^ k)
theorem hornS_len (inner res : List Int) (c pw : Int) : (hornS inner res c pw).length ≤ res.length + inner.length + 1 := by
 unfold hornS
 refine Nat.le_trans (trimG_len _ _) ?_
 rw [plusL_len]
 have h1 : (timesL res inner).length ≤ res.length + inner.length := by
  unfold timesL
  split
  ·simp
  ·rw [List.length_map, List.length_range]; omega
 have h2 := trimG_len isZ [c]
 rw [List.length_singleton] at h2
 omega
theorem hornR_len (outer inner : List Int) (E : Int) (hi : inner.length ≤ 65) : ∀ k, (hornR outer inner E k).length ≤ 66 * k
 | 0 => Nat.le_refl _
 | k + 1 => by
  have h1 := hornS_len inner (hornR outer inner E k) (cf outer (outer.length - 1 - k)) (E ^ k)
  have h2 := hornR_len outer inner E hi k
  show (hornS _ _ _ _).length ≤ _
  omega
theorem one_nl {c : Int} {K : Nat} (h : nl c.natAbs ≤ K) : ∀ n ∈ trimG isZ [c], nl n.natAbs ≤ K := fun n hn => by
 have := trimG_mem hn
 rw [List.mem_singleton] at this
 subst this; exact h
theorem times_nl2 {xs ys : List Int} {a b : Nat} (hx : ∀ n ∈ xs, nl n.natAbs ≤ a) (hy : ∀ n ∈ ys, nl n.natAbs ≤ b) (hl : xs.length + ys.length ≤ 1073741824) : ∀ n ∈ timesL xs ys, nl n.natAbs ≤ a + b + 1 := fun n hn => by
 unfold timesL at hn
 split at hn
 ·cases hn
 ·obtain ⟨i, hi, rfl⟩ := List.mem_map.1 hn
  exact conv_nl (cf_nl hx) (cf_nl hy) (by have := List.mem_range.1 hi; omega)
theorem plus_nl2 {xs ys : List Int} {y : Int} {a b c : Nat} (hx : ∀ n ∈ xs, nl n.natAbs ≤ a) (hy : ∀ n ∈ ys, nl n.natAbs ≤ b) (hk : nl y.natAbs ≤ c) (h : b + c ≤ a) : ∀ n ∈ plusL xs ys y, nl n.natAbs ≤ a + 1 := fun n hn => by
 unfold plusL at hn
 obtain ⟨i, _, rfl⟩ := List.mem_map.1 hn
 exact nl_add_int _ _ _ (cf_nl hx i) (Nat.le_trans (nl_mul_int _ _ _ _ (cf_nl hy i) hk) h)
theorem pow_nl_int (E : Int) (k K : Nat) (h : nl E.natAbs ≤ K) : nl (E ^ k).natAbs ≤ k * K + 1 := by
 rw [Int.natAbs_pow]
 exact Nat.le_trans (nl_pow _ _) (Nat.add_le_add_right (Nat.mul_le_mul_left _ h) 1)
theorem hornR_nl {outer inner : List Int} {E : Int} {K : Nat} (ho : ∀ n ∈ outer, nl n.natAbs ≤ K) (hi : ∀ n ∈ inner, nl n.natAbs ≤ K) (hE : nl E.natAbs ≤ K) (hl : inner.length ≤ 65) : ∀ k, k ≤ 65 → ∀ n ∈ hornR outer inner E k, nl n.natAbs ≤ k * (2 * K + 4)
 | 0, _, n, hn => by cases hn
 | k + 1, hk, n, hn => by
  have ih := hornR_nl ho hi hE hl k (by omega)
  have hlen := hornR_len outer inner E hl k
  have h1 := times_nl2 ih hi (by omega)
  have h2 := pow_nl_int E k K hE
  have e : (k + 1) * (2 * K + 4) = k * (2 * K + 4) + 2 * K + 4 := by rw [Nat.succ_mul]; omega
  have e2 : k * (2 * K + 4) = 2 * (k * K) + 4 * k := by rw [Nat.mul_add, Nat.mul_left_comm]; omega
  have h3 := plus_nl2 (a := k * (2 * K + 4) + 2 * K + 2) (fun n hn => Nat.le_trans (h1 n hn) (by omega)) (one_nl (cf_nl ho (outer.length - 1 - k))) h2 (by omega)
  have h4 := h3 n (trimG_mem hn)
  omega
end Go.Proofs.YtoimnlnaaklinaaGreatDoor
namespace Go.Proofs.YtoimnlnaaklinaaGreatDoor
open Go.RowKit Sos
def nextS (s0 s1 q : List Int) (m : Int) : List Int := trimG isZ (plusL (trimG isZ (s0.map (· * m))) (timesL q s1) (-1))
inductive Ext (B : Nat) : List Int → List Int → List Int → List Int → List Int → List Int → Prop
 | done (a s0 s1 : List Int) : Ext B a [] s0 s1 a s0
 | step {a b s0 s1 q r g s : List Int} {m c : Int} (hb : b ≠ []) (h : PQRes a b B m q r) (hc : c ≠ 0) (hr : ∀ n ∈ r, c ∣ n) (hn : ∀ n ∈ nextS s0 s1 q m, c ∣ n) (t : Ext B b (divL r c) s1 (divL (nextS s0 s1 q m) c) g s) : Ext B a b s0 s1 g s
theorem ext_KB {K la lb B : Nat} (h : (K + 1) * (la - lb + 2) * 3 ^ lb ≤ B) : K + (la + 1 - lb) * (K + 1) + 1 ≤ B := by
 have e1 : K + (la + 1 - lb) * (K + 1) + 1 ≤ (K + 1) * (la - lb + 2) := by
  have h1 : (la + 1 - lb) * (K + 1) ≤ (la - lb + 1) * (K + 1) := Nat.mul_le_mul_right _ (by omega)
  rw [Nat.mul_comm (K + 1), Nat.succ_mul]
  omega
 exact Nat.le_trans e1 (Nat.le_trans (Nat.le_mul_of_pos_right _ (Nat.pow_pos (by decide))) h)
theorem ext_next {K la lb lr B : Nat} (h : (K + 1) * (la - lb + 2) * 3 ^ lb ≤ B) (hr : lr < lb) : (K + (la + 1 - lb) * (K + 1) + 1) * (lb - lr + 2) * 3 ^ lr ≤ B := by
 have e1 : K + (la + 1 - lb) * (K + 1) + 1 ≤ (K + 1) * (la - lb + 2) := by
  have h1 : (la + 1 - lb) * (K + 1) ≤ (la - lb + 1) * (K + 1) := Nat.mul_le_mul_right _ (by omega)
  rw [Nat.mul_comm (K + 1), Nat.succ_mul]
  omega
 have e2 : lb = (lb - lr) + lr := by omega
 have h2 := gcd_pot (d := lb - lr) (by omega)
 have h3 : (K + 1) * (la - lb + 2) * 3 ^ lb = (K + 1) * (la - lb + 2) * 3 ^ (lb - lr) * 3 ^ lr := by
  conv => lhs; rw [e2, Nat.pow_add]
  rw [show (lb - lr + lr) = lb by omega, Nat.mul_assoc]
  simp only [Nat.mul_assoc]
 rw [h3] at h
 exact Nat.le_trans (Nat.mul_le_mul_right _ (Nat.mul_le_mul e1 h2)) h
theorem nextS_nl {s0 s1 q : List Int} {m : Int} {Ks B : Nat} (h0 : ∀ n ∈ s0, nl n.natAbs ≤ Ks) (h1 : ∀ n ∈ s1, nl n.natAbs ≤ Ks) (hq : ∀ n ∈ q, nl n.natAbs ≤ B) (hm : nl m.natAbs ≤ B) (hl : q.length + s1.length ≤ 1073741824) : ∀ n ∈ nextS s0 s1 q m, nl n.natAbs ≤ Ks + B + 3 := fun n hn => by
 have h2 := times_nl2 hq h1 hl
 have h3 : ∀ n ∈ trimG isZ (s0.map (· * m)), nl n.natAbs ≤ Ks + B + 2 := fun n hn => by
  obtain ⟨k, hk, rfl⟩ := List.mem_map.1 (trimG_mem hn)
  exact Nat.le_trans (nl_mul_int _ _ _ _ (h0 k hk) hm) (by omega)
 exact plus_nl2 (a := Ks + B + 2) (b := B + Ks + 1) (c := 1) h3 h2 (nl_le (by decide)) (by omega) n (trimG_mem hn)
theorem nextS_len (s0 s1 q : List Int) (m : Int) : (nextS s0 s1 q m).length ≤ max s0.length (q.length + s1.length) := by
 unfold nextS
 refine Nat.le_trans (trimG_len _ _) ?_
 rw [plusL_len]
 have h1 := trimG_len isZ (s0.map (· * m))
 rw [List.length_map] at h1
 have h2 : (timesL q s1).length ≤ q.length + s1.length := by
  unfold timesL
  split
  ·simp
  ·rw [List.length_map, List.length_range]; omega
 omega
theorem nextS_trim (s0 s1 q : List Int) (m : Int) : Trimmed (nextS s0 s1 q m) := trimmed_trim _
theorem divL_trim {ns : List Int} {c : Int} (h : Trimmed ns) (hd : ∀ n ∈ ns, c ∣ n) : Trimmed (divL ns c) := fun a ha e => by
 unfold divL at ha
 rw [List.getLast?_map] at ha
 cases hl : ns.getLast? with
 | none => rw [hl] at ha; cases ha
 | some b =>
  rw [hl] at ha
  replace ha : b.tdiv c = a := by injection ha
  have hb := h b hl
  have h2 := Int.tdiv_mul_cancel (hd b (List.mem_of_getLast? hl))
  rw [ha, e, Int.zero_mul] at h2
  exact hb h2.symm
set_option maxRecDepth 100000 in
theorem extended_whole (xs ys : List Int) (D : Int) (vx vy vd : Value) (w : World) (hG : Glob w) (hx : WholeAt w vx xs) (hy : WholeAt w vy ys) (hd : IntAt w vd D) (tx : Trimmed xs) (ty : Trimmed ys) (hD : D ≠ 0) (K B BS : Nat)
  (hKx : ∀ n ∈ xs, nl n.natAbs ≤ K) (hKy : ∀ n ∈ ys, nl n.natAbs ≤ K) (hKd : nl D.natAbs ≤ K) (hK1 : 1 ≤ K) (hB : (K + 1) * (xs.length - ys.length + 2) * 3 ^ ys.length ≤ B) (hBS : K + ys.length * (B + 3) ≤ BS) (hL : 10 * (B + BS) + 100 ≤ LIM) (hlx : xs.length ≤ 1000) (hly : ys.length ≤ 1000) :
  Calls Tryz.prog 48 #[vx, vy, vd] w fun e w' => ∃ v u g s, e = .returned (.tuple #[v, u]) ∧ WholeAt w' v g ∧ WholeAt w' u s ∧ Ext B xs ys [D] [] g s ∧ (∀ n ∈ g, nl n.natAbs ≤ B) ∧ (∀ n ∈ s, nl n.natAbs ≤ BS) ∧ Below w.heap.size w w' := by
 obtain ⟨A, c, rfl, hc⟩ := hx.form
 obtain ⟨A', c', rfl, hc'⟩ := hy.form
 obtain ⟨sd, Ad, kd, cd, rfl⟩ := hd.form
 have hLIM : LIM = 17592186044416 := rfl
 go_enter Tryz.func48, Tryz.ntmps48
 go_wp2_with fail
 have hs := WholeAt.single (w := w.alloc (.cells #[.bool sd, .slice Ad kd cd] 49)) (hd.keep (Keep.alloc _ _))
 rw [World.size_alloc] at hs
 have hb : Below w.heap.size w ((w.alloc (.cells #[.bool sd, .slice Ad kd cd] 49)).alloc (.cells #[.bool sd, .slice Ad kd cd] 49)) := ((Below.refl _ _).alloc (Nat.le_refl _) _).alloc (by simp) _
 have hx1 := hx.below hb
 have hy1 := hy.below hb
 go_loopg [8, 9, 10, 11] ys.length (fun k va vb u0 u1 wr => ∃ a b s0 s1 A c K' Ks, Hid (b.length = k) ∧ vb = .slice A b.length c ∧ WholeAt wr va a ∧ WholeAt wr (.slice A b.length c) b ∧ WholeAt wr u0 s0 ∧ WholeAt wr u1 s1 ∧ Hid (Trimmed a ∧ Trimmed b) ∧ Hid (∀ g s, Ext B a b s0 s1 g s → Ext B xs ys [D] [] g s) ∧
  (∀ n ∈ a, nl n.natAbs ≤ K') ∧ (∀ n ∈ b, nl n.natAbs ≤ K') ∧ 1 ≤ K' ∧ Hid ((K' + 1) * (a.length - b.length + 2) * 3 ^ b.length ≤ B) ∧ (∀ n ∈ s0, nl n.natAbs ≤ Ks) ∧ (∀ n ∈ s1, nl n.natAbs ≤ Ks) ∧ Hid (Ks + b.length * (B + 3) ≤ BS) ∧ a.length ≤ 1000 ∧ b.length ≤ 1000 ∧ Hid (s0.length + 1000 * b.length ≤ 1000001 ∧ s1.length + 1000 * b.length ≤ 1000001) ∧ Below w.heap.size w wr)
 case atStart => exact ⟨xs, ys, [D], [], A', c', K, K, rfl, rfl, hx1, hy1, hs, WholeAt.nil _ _ _, ⟨tx, ty⟩, fun g s h => h, hKx, hKy, hK1, hB, (fun n hn => by rw [List.mem_singleton.1 hn]; exact hKd), (fun n hn => by cases hn), hBS, hlx, hly, ⟨by simp; omega, by simp; omega⟩, hb⟩
 case round =>
  clear hx1 hy1 hx hy hs hd hb hB hBS tx ty hKx hKy hKd hK1
  obtain ⟨a, b, s0, s1, A1, c1, K', Ks, HL, rfl, ha, hbb, h0, h1, HT, HE, ka, kb, hK1, HB, k0, k1, HS, hla, hlb, HLS, hb⟩ := hrel
  generalize wr = wy at *
  have hKB := ext_KB HB.out
  have hKs : Ks ≤ BS := Nat.le_trans (Nat.le_add_right _ _) HS.out
  by_cases hb0 : b.length = 0
  ·have q0 : ¬ (0 : Int) < (b.length : Int) := by omega
   have hbn : b = [] := List.eq_nil_of_length_eq_zero hb0
   have HH := Lib.hid (HE.out a s0 (by rw [hbn]; exact Ext.done a s0 s1))
   clear hbn hb0
   go_wp2_with fail
   go_ret2
   exact ⟨_, _, rfl, a, ha, s0, h0, HH.out, fun n hn => Nat.le_trans (ka n hn) (by omega), fun n hn => Nat.le_trans (k0 n hn) hKs, hb⟩
  ·have q0 : (0 : Int) < (b.length : Int) := by omega
   have hbn : b ≠ [] := fun e => hb0 (by rw [e]; rfl)
   have pq := pqr_whole a b _ _ wy ha hbb hbn HT.out.1 HT.out.2 K' _ ka kb hK1 (Nat.le_refl _) (by omega) (by omega) (by omega)
   unfold RetPQR at pq
   go_wp2_with fail
   ((with_reducible refine pq.mono ?_))
   rintro e3 w3 ⟨vq, vr, vm, q, r, m, rfl, hq, hr, hm, hres, hb3⟩
   obtain ⟨sm, Am, km, cm, rfl⟩ := hm.form
   obtain ⟨Ar, cr, rfl, -⟩ := hr.form
   have hP := hres.mono (show _ ≤ B by omega)
   have HPP := Lib.hid hP
   have HQ := Lib.hid hres
   have lr := hres.r_lt
   have lq := hP.q_len
   have ls0 := HLS.out.1
   have ls1 := HLS.out.2
   have kq := hP.bq
   have kr := hP.br
   have km' := hP.bm
   have bs : Ks + 3 + B ≤ BS := by
    obtain ⟨p, hp⟩ : ∃ p, b.length = p + 1 := ⟨b.length - 1, by omega⟩
    have := HS.out
    rw [hp, Nat.succ_mul] at this
    omega
   have e1 : ∀ n ∈ trimG isZ (s0.map (· * m)), nl n.natAbs ≤ 2 * (Ks + B + 1) := fun n hn => by
    obtain ⟨k, hk, rfl⟩ := List.mem_map.1 (trimG_mem hn)
    exact Nat.le_trans (nl_mul_int _ _ _ _ (k0 k hk) km') (by omega)
   have e2 : ∀ n ∈ timesL q s1, nl n.natAbs ≤ Ks + B + 1 := fun n hn => Nat.le_trans (times_nl2 kq k1 (by omega) n hn) (by omega)
   have e3 := nextS_nl k0 k1 kq km' (by omega)
   have l3 := nextS_len s0 s1 q m
   have l1 : (trimG isZ (s0.map (· * m))).length ≤ 1073741824 := Nat.le_trans (trimG_len _ _) (by rw [List.length_map]; omega)
   have l2 : (timesL q s1).length ≤ 1073741824 := by
    unfold timesL
    split
    ·simp
    ·rw [List.length_map, List.length_range]; omega
   have c1 := fun W v u h k => scale_whole s0 m v u W h k (Ks + B) (fun n hn => Nat.le_trans (k0 n hn) (by omega)) (Nat.le_trans km' (by omega)) (by omega) (by omega)
   have c2 := fun W v u h k => times_whole q s1 v u W h k (Ks + B) (fun n hn => Nat.le_trans (kq n hn) (by omega)) (fun n hn => Nat.le_trans (k1 n hn) (by omega)) (by omega) (by omega) (by omega)
   have c3 := fun W v u t h k l => plus_whole (trimG isZ (s0.map (· * m))) (timesL q s1) (-1) v u t W h k l (Ks + B + 1) e1 e2 (Nat.le_trans (nl_le (m := 1) (by decide)) (by omega)) (by omega) l1 l2
   have c4 := fun W v hG h => content_whole r v W hG h B kr (by omega) (by omega)
   have c5 := fun W v hG h => content_whole (nextS s0 s1 q m) v W hG h (Ks + B + 3) e3 (by omega) (by omega)
   have g1 := gcdAll_nl kr
   have g2 := gcdAll_nl e3
   have c6 := fun W v u hG h k => gcd_any (gcdAll r : Int) (gcdAll (nextS s0 s1 q m) : Int) v u W hG h k (Ks + B + 3) (by rw [Int.natAbs_natCast]; omega) (by rw [Int.natAbs_natCast]; exact g2) (by omega)
   have hgc : ((Nat.gcd (gcdAll r : Int).natAbs (gcdAll (nextS s0 s1 q m) : Int).natAbs : Nat) : Int) = ((Nat.gcd (gcdAll r) (gcdAll (nextS s0 s1 q m)) : Nat) : Int) := by rw [Int.natAbs_natCast, Int.natAbs_natCast]
   simp only [hgc] at c6
   have hdr : ∀ n ∈ r, ((Nat.gcd (gcdAll r) (gcdAll (nextS s0 s1 q m)) : Nat) : Int) ∣ n := fun n hn => Int.dvd_trans (Int.ofNat_dvd.2 (Nat.gcd_dvd_left _ _)) (gcdAll_dvd hn)
   have hdn : ∀ n ∈ nextS s0 s1 q m, ((Nat.gcd (gcdAll r) (gcdAll (nextS s0 s1 q m)) : Nat) : Int) ∣ n := fun n hn => Int.dvd_trans (Int.ofNat_dvd.2 (Nat.gcd_dvd_right _ _)) (gcdAll_dvd hn)
   have hcn : nl (Nat.gcd (gcdAll r) (gcdAll (nextS s0 s1 q m))) ≤ Ks + B + 3 := by
    rcases Nat.eq_zero_or_pos (gcdAll r) with h | h
    ·rw [h, Nat.gcd_zero_left]; exact g2
    ·exact Nat.le_trans (nl_gcd_left _ _ _ (by omega) g1) (by omega)
   have HD := Lib.hid (And.intro hdr hdn)
   have hN : nextS s0 s1 q m = trimG isZ (plusL (trimG isZ (s0.map (· * m))) (timesL q s1) (-1)) := rfl
   rw [← hN] at c3
   have HX := Lib.hid (fun c hc hr hn g s t => HE.out g s (Ext.step (c := c) hbn HPP.out hc hr hn t))
   have hbm := ext_next (lr := r.length) HB.out lr
   have HBM := Lib.hid hbm
   have hsm : Ks + B + 3 + r.length * (B + 3) ≤ BS := by
    have h1 : (r.length + 1) * (B + 3) ≤ b.length * (B + 3) := Nat.mul_le_mul_right _ (by omega)
    have := HS.out
    rw [Nat.succ_mul] at h1
    omega
   have HSM := Lib.hid hsm
   have hrr := hres.br
   have htr := hres.r_trim
   have HTR := Lib.hid htr
   clear pq hres hP hgc hdr hdn hN g1 e1 e2 l1 l2 hbm hsm htr
   go_wp2_with fail
   obtain ⟨w4, e4, hA4, X⟩ := box1 w3 [.bool sm, .slice Am km cm] 49
   rw [e4]; clear e4
   have hA3 := hb3.trans (hA4.mono hb3.size)
   replace hbb := hbb.below hA3
   replace h0 := h0.below hA3
   replace h1 := h1.below hA3
   replace hb := hb.trans (hA3.mono hb.size)
   replace hq := hq.below hA4
   replace hr := hr.below hA4
   replace hm := hm.below hA4
   clear hA3 hb3 hA4 ha
   ((with_reducible refine (c1 _ _ _ h0 hm).mono ?_))
   rintro e5 w5 ⟨v5, rfl, h5, hb5⟩
   clear c1 h0 hm X
   replace hbb := hbb.below hb5
   replace h1 := h1.below hb5
   replace hq := hq.below hb5
   replace hr := hr.below hb5
   replace hb := hb.trans (hb5.mono hb.size)
   go_wp2_with fail
   ((with_reducible refine (c2 _ _ _ hq h1).mono ?_))
   rintro e6 w6 ⟨v6, rfl, h6, hb6⟩
   clear c2 hq
   replace hbb := hbb.below hb6
   replace h1 := h1.below hb6
   replace hr := hr.below hb6
   replace h5 := h5.below hb6
   replace hb := hb.trans (hb6.mono hb.size)
   go_wp2_with fail
   ((with_reducible refine (new_any (-1) _ (by decide) (by decide)).mono ?_))
   rintro e7 w7 ⟨v7, rfl, h7, hb7⟩
   replace hbb := hbb.below hb7
   replace h1 := h1.below hb7
   replace hr := hr.below hb7
   replace h5 := h5.below hb7
   replace h6 := h6.below hb7
   replace hb := hb.trans (hb7.mono hb.size)
   go_wp2_with fail
   ((with_reducible refine (c3 _ _ _ _ h5 h6 h7).mono ?_))
   rintro e8 w8 ⟨g8, c8, rfl, -, h8, hb8⟩
   clear c3 h5 h6 h7
   replace hbb := hbb.below hb8
   replace h1 := h1.below hb8
   replace hr := hr.below hb8
   replace hb := hb.trans (hb8.mono hb.size)
   generalize hNN : nextS s0 s1 q m = N at *
   generalize (Value.slice (some ⟨g8, 0, none⟩) N.length c8) = v8 at *
   go_wp2_with fail
   ((with_reducible refine (c4 _ _ (hG.below hb) hr).mono ?_))
   rintro e9 w9 ⟨v9, rfl, h9, hb9⟩
   clear c4
   replace hbb := hbb.below hb9
   replace h1 := h1.below hb9
   replace hr := hr.below hb9
   replace h8 := h8.below hb9
   replace hb := hb.trans (hb9.mono hb.size)
   go_wp2_with fail
   ((with_reducible refine (c5 _ _ (hG.below hb) h8).mono ?_))
   rintro e10 w10 ⟨v10, rfl, h10, hb10⟩
   clear c5
   replace hbb := hbb.below hb10
   replace h1 := h1.below hb10
   replace hr := hr.below hb10
   replace h8 := h8.below hb10
   replace h9 := h9.below hb10
   replace hb := hb.trans (hb10.mono hb.size)
   go_wp2_with fail
   ((with_reducible refine (c6 _ _ _ (hG.below hb) h9 h10).mono ?_))
   rintro e11 w11 ⟨v11, rfl, h11, hb11⟩
   obtain ⟨sg, Ag, kg, cg, rfl⟩ := h11.form
   clear c6 h9 h10
   replace hbb := hbb.below hb11
   replace h1 := h1.below hb11
   replace hr := hr.below hb11
   replace h8 := h8.below hb11
   replace hb := hb.trans (hb11.mono hb.size)
   generalize hcc : Nat.gcd (gcdAll r) (gcdAll N) = cc at *
   clear hcc hNN
   go_wp2_with fail
   obtain ⟨w12, e12, hA, X⟩ := box1 w11 [.bool sg, .slice Ag kg cg] 49
   rw [e12]; clear e12
   replace h11 := h11.below hA
   replace hbb := hbb.below hA
   replace h1 := h1.below hA
   replace hr := hr.below hA
   replace h8 := h8.below hA
   replace hb := hb.trans (hA.mono hb.size)
   have cM := X.g2
   have hcn' : nl ((cc : Nat) : Int).natAbs ≤ Ks + B + 3 := by rw [Int.natAbs_natCast]; exact hcn
   have dv1 := fun W v h k (h0 : (cc : Int) ≠ 0) => divide_whole r (cc : Int) v (.agg #[.bool sg, .slice Ag kg cg]) W h k (fun _ => h0) (Ks + B + 3) (fun n hn => Nat.le_trans (kr n hn) (by omega)) hcn' (by omega) (by omega)
   have dv2 := fun W v h k (h0 : (cc : Int) ≠ 0) => divide_whole N (cc : Int) v (.agg #[.bool sg, .slice Ag kg cg]) W h k (fun _ => h0) (Ks + B + 3) e3 hcn' (by omega) (by omega)
   ((with_reducible refine (isZero_any (cc : Int) _ _ h11 (by omega)).mono ?_))
   rintro e13 w13 ⟨rfl, hb13⟩
   replace X := X.below hb13
   replace cM := X.g2
   replace hbb := hbb.below hb13
   replace h1 := h1.below hb13
   replace hr := hr.below hb13
   replace h8 := h8.below hb13
   replace h11 := h11.below hb13
   replace hb := hb.trans (hb13.mono hb.size)
   have ks1 : ∀ n ∈ s1, nl n.natAbs ≤ Ks + B + 3 := fun n hn => Nat.le_trans (k1 n hn) (by omega)
   have kb1 : ∀ n ∈ b, nl n.natAbs ≤ K' + (a.length + 1 - b.length) * (K' + 1) := fun n hn => Nat.le_trans (kb n hn) (Nat.le_add_right _ _)
   have hKK : 1 ≤ K' + (a.length + 1 - b.length) * (K' + 1) := Nat.le_trans hK1 (Nat.le_add_right _ _)
   have hls : s1.length + 1000 * r.length ≤ 1000001 ∧ N.length + 1000 * r.length ≤ 1000001 := ⟨by omega, by omega⟩
   have HLS' := Lib.hid hls
   clear hls k0 k1 kb ka kq HB HS HLS hK1 hcn' hcn ls0 ls1 l3 lq km'
   by_cases hz : (cc : Int) = 0
   ·have hd0 : decide ((cc : Int) = 0) = true := by simpa using hz
    rw [hd0]
    have HE' := Lib.hid (show ∀ g s, Ext B b r s1 N g s → Ext B xs ys [D] [] g s from fun g s t => HX.out 1 (by decide) (fun n _ => Int.one_dvd n) (fun n _ => Int.one_dvd n) g s (by rw [divL_one, divL_one]; exact t))
    clear hd0 hz dv1 dv2 HX
    go_wp2_with fail
    go_roundg r.length
    case rel => exact ⟨b, r, s1, N, Ar, cr, _, Ks + B + 3, rfl, rfl, hbb, hr, h1, h8, ⟨HT.out.2, HTR.out⟩, HE'.out, kb1, hrr, hKK, HBM.out, ks1, e3, HSM.out, hlb, by omega, HLS'.out, hb⟩
    case measure => have := HL.out; omega
   ·have hd0 : decide ((cc : Int) = 0) = false := by simpa using hz
    rw [hd0]
    have HE' := Lib.hid (show ∀ g s, Ext B b (divL r cc) s1 (divL N cc) g s → Ext B xs ys [D] [] g s from fun g s t => HX.out cc hz HD.out.1 HD.out.2 g s t)
    have ht := divL_trim HTR.out HD.out.1
    have HTD := Lib.hid ht
    replace dv1 := fun W v h k => dv1 W v h k hz
    replace dv2 := fun W v h k => dv2 W v h k hz
    have x1 := divL_nl (x := (cc : Int)) hrr
    have x2 := divL_nl (x := (cc : Int)) e3
    have lR := divL_len r (cc : Int)
    have lN := divL_len N (cc : Int)
    generalize divL r cc = R at *
    generalize divL N cc = M at *
    rw [← lR] at HBM HSM HLS'
    rw [← lN] at HLS'
    have hRb : R.length < b.length := by omega
    have HRL := Lib.hid hRb
    clear hd0 hz HX ht lN hRb lr lR
    go_wp2_with fail
    replace hbb := hbb.drew
    replace h1 := h1.drew
    replace hr := hr.drew
    replace h8 := h8.drew
    replace h11 := h11.drew
    replace X := X.drew
    replace hb := hb.drew
    go_region_held3 (fun w' => C2 w' w11.heap.size (.bool sg) (.slice Ag kg cg))
     (with_reducible exact X.k2)
     (first
      | (go_at_call 76; (with_reducible refine (dv1 _ _ hr h11).mono ?_); rintro eA wA ⟨vA, rfl, hA', hbA⟩; replace X := X.below hbA; replace hbb := hbb.below hbA; replace h1 := h1.below hbA; (try replace h8 := h8.below hbA); (try replace hB' := hB'.below hbA); replace h11 := h11.below hbA; replace hb := hb.trans (hbA.mono hb.size))
      | (go_at_call 76; (with_reducible refine (dv2 _ _ h8 h11).mono ?_); rintro eB wB ⟨vB, rfl, hB', hbB⟩; replace X := X.below hbB; replace hbb := hbb.below hbB; replace h1 := h1.below hbB; (try replace hr := hr.below hbB); (try replace hA' := hA'.below hbB); replace h11 := h11.below hbB; replace hb := hb.trans (hbB.mono hb.size)))
    all_goals (
     obtain ⟨AR, cR, rfl, -⟩ := hA'.form
     go_wp2_with fail
     go_roundg R.length
     case rel => exact ⟨b, R, s1, M, AR, cR, _, Ks + B + 3, rfl, rfl, hbb, hA', h1, hB', ⟨HT.out.2, HTD.out⟩, HE'.out, kb1, x1, hKK, HBM.out, ks1, x2, HSM.out, hlb, by have := HRL.out; omega, HLS'.out, hb⟩
     case measure => have := HL.out; have := HRL.out; omega)
end Go.Proofs.YtoimnlnaaklinaaGreatDoor
namespace Go.Proofs.YtoimnlnaaklinaaGreatDoor
open Sos
section
variable {R : Type} [Add R] [Mul R] [Sub R] [OfNat R 0] [CR R]
theorem conv_ind (p q : Nat → R) {n i : Nat} (h : i ≤ n) : conv p q i = sumTo (fun k => p k * (if k ≤ i then q (i - k) else 0)) (n + 1) := by
 obtain ⟨d, rfl⟩ : ∃ d, n = i + d := ⟨n - i, by omega⟩
 rw [show i + d + 1 = i + 1 + d by omega, sumTo_split, sumTo_zero (n := d) (fun k _ => by rw [if_neg (by omega), CR.mul_zero]), CR.add_zero]
 exact sumTo_congr (fun k hk => by rw [if_pos (by omega)])
theorem conv_assoc (p q r : Nat → R) (i : Nat) : conv (conv p q) r i = conv p (conv q r) i := by
 have e1 : conv (conv p q) r i = sumTo (fun k => sumTo (fun j => p j * ((if j ≤ k then q (k - j) else 0) * r (i - k))) (i + 1)) (i + 1) := by
  refine sumTo_congr (fun k hk => ?_)
  rw [conv_ind p q (show k ≤ i by omega), CR.mul_comm, ← sumTo_mul]
  refine sumTo_congr (fun j _ => ?_)
  rw [CR.mul_comm (r (i - k)), CR.mul_assoc]
 rw [e1, sumTo_swap]
 refine sumTo_congr (fun j hj => ?_)
 rw [sumTo_mul]
 congr 1
 obtain ⟨d, hd⟩ : ∃ d, i + 1 = j + d := ⟨i + 1 - j, by omega⟩
 rw [hd, sumTo_split, sumTo_zero (n := j) (fun k hk => by rw [if_neg (by omega), zero_mul']), zero_add']
 have e2 : d = i - j + 1 := by omega
 rw [e2]
 refine sumTo_congr (fun k hk => ?_)
 rw [if_pos (by omega), show j + k - j = k by omega, show i - (j + k) = i - j - k by omega]
end
theorem cf_plusL (xs ys : List Int) (y : Int) (i : Nat) : cf (plusL xs ys y) i = cf xs i + cf ys i * y := by
 unfold plusL
 rw [cf_range]
 split
 ·rfl
 ·rw [cf_top (show xs.length ≤ i by omega), cf_top (show ys.length ≤ i by omega)]; simp
theorem cf_next (s0 s1 q : List Int) (m : Int) (i : Nat) : cf (nextS s0 s1 q m) i = cf s0 i * m - conv (cf q) (cf s1) i := by
 unfold nextS
 rw [cf_trim, cf_plusL, cf_trim, cf_scale, cf_times]
 omega
theorem divL_mul {ns : List Int} {c : Int} (h : ∀ n ∈ ns, c ∣ n) (i : Nat) : cf ns i = c * cf (divL ns c) i := by
 rw [cf_divL, Int.mul_comm]
 exact (Int.tdiv_mul_cancel (cf_dvd h i)).symm
def Dv (f : Nat → Int) (d : List Int) : Prop := ∃ (k : Int) (u : List Int), k ≠ 0 ∧ ∀ i, k * f i = conv (cf u) (cf d) i
section
variable {f g : Nat → Int} {d e : List Int}
theorem Dv.congr (h : Dv f d) (he : ∀ i, g i = f i) : Dv g d := by
 obtain ⟨k, u, hk, hu⟩ := h
 exact ⟨k, u, hk, fun i => by rw [he, hu]⟩
theorem Dv.self (d : List Int) (c : Int) : Dv (fun i => c * cf d i) d := ⟨1, [c], by decide, fun i => by
 have h : ∀ k, cf [c] k = if k = 0 then c else 0 := fun k => by
  cases k with
  | zero => rfl
  | succ k => rw [cf_top (by simp)]; rfl
 rw [conv_congr h (fun _ => rfl), conv_mono, if_pos (Nat.zero_le _), Int.one_mul]; rfl⟩
theorem Dv.zero (d : List Int) : Dv (fun _ => 0) d := ⟨1, [], by decide, fun i => by rw [conv_zero_left (fun k => cf_nil k)]; simp⟩
theorem Dv.lin (h : Dv f d) (h' : Dv g d) (q : List Int) (c c' : Int) : Dv (fun i => c * f i + c' * conv (cf q) g i) d := by
 obtain ⟨k, u, hk, hu⟩ := h
 obtain ⟨l, v, hl, hv⟩ := h'
 refine ⟨k * l, plusL (u.map (· * (l * c))) (timesL q v) (k * c'), Int.mul_ne_zero hk hl, fun i => ?_⟩
 have e : ∀ j, cf (plusL (u.map (· * (l * c))) (timesL q v) (k * c')) j = (l * c) * cf u j + (k * c') * conv (cf q) (cf v) j := fun j => by
  rw [cf_plusL, cf_scale, cf_times, Int.mul_comm (cf u j), Int.mul_comm (conv _ _ _)]
 rw [conv_congr e (fun _ => rfl), conv_add_left, conv_mul_left, conv_mul_left, ← hu, conv_assoc, conv_congr (fun _ => rfl) (fun j => (hv j).symm), conv_mul_right]
 grind
theorem Dv.cancel {c : Int} (hc : c ≠ 0) (h : Dv (fun i => c * f i) d) : Dv f d := by
 obtain ⟨k, u, hk, hu⟩ := h
 exact ⟨k * c, u, Int.mul_ne_zero hk hc, fun i => by rw [Int.mul_assoc]; exact hu i⟩
theorem Dv.none {r y : List Int} (h : Dv (cf r) y) (hl : r.length < y.length) (ty : Trimmed y) : ∀ i, cf r i = 0 := by
 obtain ⟨k, u, hk, hu⟩ := h
 have y0 : y ≠ [] := fun e => by rw [e] at hl; simp at hl
 have hz := conv_none (d := cf u) (L := u.length) y0 ty (fun i hi => cf_top hi) (fun i hi => by rw [← hu, cf_top (by omega)]; simp)
 intro i
 have h1 := hu i
 rw [conv_zero_left hz] at h1
 rcases Int.mul_eq_zero.1 h1 with h2 | h2
 ·exact absurd h2 hk
 ·exact h2
end
theorem pq_qlen {a b q r : List Int} {m : Int} {B : Nat} (h : PQRes a b B m q r) (hb : b ≠ []) (tb : Trimmed b) (hq : q ≠ []) : q.length + b.length ≤ a.length + 1 := by
 have q1 : q.length ≠ 0 := fun e => hq (List.eq_nil_of_length_eq_zero e)
 have b1 : b.length ≠ 0 := fun e => hb (List.eq_nil_of_length_eq_zero e)
 rcases Nat.lt_or_ge (a.length + 1) (q.length + b.length) with hlt | hge
 ·have h1 := h.id_ (q.length - 1 + (b.length - 1))
  rw [cf_top (l := a) (by omega), cf_top (l := r) (by have := h.r_lt; omega), conv_lead (fun i hi => cf_top (by omega)) (fun i hi => cf_top (by omega))] at h1
  have h2 : cf q (q.length - 1) * cf b (b.length - 1) = 0 := by omega
  rcases Int.mul_eq_zero.1 h2 with h3 | h3
  ·exact absurd h3 ((trimmed_cf hq).1 h.q_trim)
  ·exact absurd h3 ((trimmed_cf hb).1 tb)
 ·exact hge
theorem times_len_le (q s : List Int) (hq : q ≠ []) (hs : s ≠ []) : (timesL q s).length + 1 = q.length + s.length := by
 have := times_len hq hs
 have q1 : q.length ≠ 0 := fun e => hq (List.eq_nil_of_length_eq_zero e)
 omega
theorem next_len (s0 s1 q : List Int) (m : Int) : (nextS s0 s1 q m).length ≤ max s0.length (timesL q s1).length := by
 unfold nextS
 refine Nat.le_trans (trimG_len _ _) ?_
 rw [plusL_len]
 have h1 := trimG_len isZ (s0.map (· * m))
 rw [List.length_map] at h1
 omega
structure ExtI (x y : List Int) (D : Int) (a b s0 s1 : List Int) : Prop where
 c0 : Dv (fun i => D * cf a i + -1 * conv (cf s0) (cf x) i) y
 c1 : Dv (fun i => D * cf b i + -1 * conv (cf s1) (cf x) i) y
 dv : ∀ d, Dv (cf a) d → Dv (cf b) d → Dv (cf x) d ∧ Dv (cf y) d
 ne : a ≠ [] ∨ b ≠ []
 ta : Trimmed a
 tb : Trimmed b
 t0 : Trimmed s0
 t1 : Trimmed s1
 len : (s1 = [] ∧ a = x ∧ b = y ∧ s0.length ≤ 1) ∨ (s1.length + a.length ≤ y.length + 1 ∧ s0.length + a.length ≤ y.length ∧ b.length < a.length)
structure ExtR (x y : List Int) (D : Int) (g s : List Int) : Prop where
 c : Dv (fun i => D * cf g i + -1 * conv (cf s) (cf x) i) y
 dx : Dv (cf x) g
 dy : Dv (cf y) g
 ne : g ≠ []
 tg : Trimmed g
 ts : Trimmed s
 len : s.length + g.length ≤ y.length
theorem ext_res {x y : List Int} {D : Int} (hy : y ≠ []) {B : Nat} {a b s0 s1 g s : List Int} (h : Ext B a b s0 s1 g s) : ExtI x y D a b s0 s1 → ExtR x y D g s := by
 induction h with
 | done a s0 s1 =>
  intro I
  have ha : a ≠ [] := I.ne.resolve_right (fun e => e rfl)
  have hd := I.dv a ((Dv.self a 1).congr (fun i => (Int.one_mul _).symm)) ((Dv.zero a).congr (fun i => cf_nil i))
  refine ⟨I.c0, hd.1, hd.2, ha, I.ta, I.t0, ?_⟩
  rcases I.len with ⟨-, -, h, -⟩ | ⟨-, h, -⟩
  ·exact absurd h.symm hy
  ·exact h
 | @step a b s0 s1 q r g s m c hb hP hc hr hn t ih =>
  intro I
  have tn := nextS_trim s0 s1 q m
  refine ih ⟨I.c1, ?_, fun d h1 h2 => ?_, .inl hb, I.tb, divL_trim hP.r_trim hr, I.t1, divL_trim tn hn, ?_⟩
  ·refine Dv.cancel hc ((I.c0.lin I.c1 q m (-1)).congr (fun i => ?_))
   have h1 := divL_mul hr i
   have h2 : c * conv (cf (divL (nextS s0 s1 q m) c)) (cf x) i = m * conv (cf s0) (cf x) i + -1 * conv (cf q) (conv (cf s1) (cf x)) i := by
    rw [← conv_mul_left, conv_congr (fun j => (divL_mul hn j).symm) (fun _ => rfl), conv_congr (fun j => show cf (nextS s0 s1 q m) j = m * cf s0 j + -1 * conv (cf q) (cf s1) j by rw [cf_next, Int.mul_comm]; omega) (fun _ => rfl), conv_add_left, conv_mul_left, conv_mul_left, conv_assoc]
   have h3 : conv (cf q) (fun i => D * cf b i + -1 * conv (cf s1) (cf x) i) i = D * conv (cf q) (cf b) i + -1 * conv (cf q) (conv (cf s1) (cf x)) i := by
    rw [conv_add_right, conv_mul_right, conv_mul_right]
   have h4 := hP.id_ i
   show c * (D * cf (divL r c) i + -1 * conv (cf (divL (nextS s0 s1 q m) c)) (cf x) i) = m * (D * cf a i + -1 * conv (cf s0) (cf x) i) + -1 * conv (cf q) (fun i => D * cf b i + -1 * conv (cf s1) (cf x) i) i
   rw [h3]
   grind
  ·refine I.dv d (Dv.cancel hP.m0 ((h2.lin h1 q c 1).congr (fun i => ?_))) h1
   show m * cf a i = c * cf (divL r c) i + 1 * conv (cf q) (cf b) i
   rw [hP.id_ i, divL_mul hr i]
   omega
  ·have l1 := divL_len r c
   have l2 := divL_len (nextS s0 s1 q m) c
   have l3 := next_len s0 s1 q m
   have lr := hP.r_lt
   rw [l1, l2]
   right
   rcases I.len with ⟨e1, e2, e3, e4⟩ | ⟨e1, e2, e3⟩
   ·subst e1
    have : (timesL q []).length = 0 := by unfold timesL; rw [if_pos (.inr rfl)]; rfl
    rw [e3] at lr ⊢
    exact ⟨by omega, by simp, by omega⟩
   ·refine ⟨?_, by omega, by omega⟩
    by_cases hq : q = []
    ·have : (timesL q s1).length = 0 := by unfold timesL; rw [if_pos (.inl hq)]; rfl
     omega
    ·by_cases hs : s1 = []
     ·have : (timesL q s1).length = 0 := by unfold timesL; rw [if_pos (.inr hs)]; rfl
      omega
     ·have h1 := times_len_le q s1 hq hs
      have h2 := pq_qlen hP hb I.tb hq
      omega
theorem ext_start {x y : List Int} {D : Int} (hy : y ≠ []) (tx : Trimmed x) (ty : Trimmed y) (hD : D ≠ 0) : ExtI x y D x y [D] [] := by
 refine ⟨(Dv.zero y).congr (fun i => ?_), (Dv.self y D).congr (fun i => ?_), fun d h1 h2 => ⟨h1, h2⟩, .inr hy, tx, ty, fun a h => ?_, fun a h => by simp at h, .inl ⟨rfl, rfl, rfl, Nat.le_refl _⟩⟩
 ·obtain ⟨k, u, hk, hu⟩ := Dv.self x D
  have h : ∀ k, cf [D] k = if k = 0 then D else 0 := fun k => by
   cases k with
   | zero => rfl
   | succ k => rw [cf_top (by simp)]; rfl
  rw [conv_congr h (fun _ => rfl), conv_mono, if_pos (Nat.zero_le _)]
  show D * cf x i + -1 * (D * cf x i) = 0
  omega
 ·rw [conv_zero_left (fun k => cf_nil k)]
  omega
 ·simp at h
  rw [← h]; exact hD
structure BezRes (A B G S T : List Rat) (Kg K : Nat) : Prop where
 id_ : ∀ i, conv (cf S) (cf A) i + conv (cf T) (cf B) i = cf G i
 da : ∃ U : List Rat, ∀ i, cf A i = conv (cf U) (cf G) i
 db : ∃ U : List Rat, ∀ i, cf B i = conv (cf U) (cf G) i
 ne : G ≠ []
 tg : Trimmed G
 ts : Trimmed S
 tt : Trimmed T
 last : cf G (G.length - 1) = 1
 len : B = [] ∨ S.length + G.length ≤ B.length
 lg : G.length ≤ max A.length B.length
 ls : S.length ≤ B.length + 1
 lt : T.length ≤ A.length + B.length
 bg : ∀ q ∈ G, RL Kg q
 bs : ∀ q ∈ S, RL K q
 bt : ∀ q ∈ T, RL K q
 bsa : ∀ i, i ≤ 1000 → RL K (conv (cf S) (cf A) i)
 btb : ∀ i, i ≤ 1000 → RL K (conv (cf T) (cf B) i)
theorem ratios_RL {ns : List Int} {l : Int} {K : Nat} (h : ∀ n ∈ ns, nl n.natAbs ≤ K) (hl : nl l.natAbs ≤ K) (h1 : 1 ≤ K) : ∀ q ∈ ratios ns l, RL K q := fun q hq => by
 unfold ratios at hq
 obtain ⟨n, hn, rfl⟩ := List.mem_map.1 hq
 exact frac_RL _ _ _ (h n hn) hl h1
theorem conv_ratios {A : List Rat} {D l : Int} (hD : D ≠ 0) (hl : l ≠ 0) (hA : ∀ q ∈ A, (q.den : Int) ∣ D) (s : List Int) (i : Nat) : conv (cf (ratios s l)) (cf A) i = ((conv (cf s) (cf (numsL A D)) i : Int) : Rat) / ((l * D : Int) : Rat) := by
 have hD' : (D : Rat) ≠ 0 := fun e => hD (Rat.intCast_inj.1 e)
 have hl' : (l : Rat) ≠ 0 := fun e => hl (Rat.intCast_inj.1 e)
 have h1 : ((conv (cf s) (cf (numsL A D)) i : Int) : Rat) = l * (D * conv (cf (ratios s l)) (cf A) i) := by
  rw [cast_conv, ← conv_mul_right, ← conv_mul_left]
  refine conv_congr (fun k => ?_) (fun k => ?_) i
  ·rw [cf_ratios]; grind
  ·rw [nums_cf A D hA]; grind
 rw [h1, Rat.intCast_mul]
 grind
theorem dv_rat {A : List Rat} {D l : Int} (hD : D ≠ 0) (hl : l ≠ 0) (hA : ∀ q ∈ A, (q.den : Int) ∣ D) {g : List Int} (h : Dv (cf (numsL A D)) g) : ∃ U : List Rat, ∀ i, cf A i = conv (cf U) (cf (ratios g l)) i := by
 have hD' : (D : Rat) ≠ 0 := fun e => hD (Rat.intCast_inj.1 e)
 have hl' : (l : Rat) ≠ 0 := fun e => hl (Rat.intCast_inj.1 e)
 obtain ⟨k, u, hk, hu⟩ := h
 have hk' : (k : Rat) ≠ 0 := fun e => hk (Rat.intCast_inj.1 e)
 refine ⟨u.map (fun n : Int => (n : Rat) * ((l : Rat) / ((k : Rat) * D))), fun i => ?_⟩
 have e : ∀ j, cf (u.map (fun n : Int => (n : Rat) * ((l : Rat) / ((k : Rat) * D)))) j = ((l : Rat) / ((k : Rat) * D)) * ((cf u j : Int) : Rat) := fun j => by
  rw [cf_map (fun n : Int => (n : Rat) * ((l : Rat) / ((k : Rat) * D))) (by simp) u j, Rat.mul_comm]
 have h1 : ((k * cf (numsL A D) i : Int) : Rat) = l * conv (fun j => ((cf u j : Int) : Rat)) (cf (ratios g l)) i := by
  rw [hu, cast_conv, ← conv_mul_right]
  exact conv_congr (fun _ => rfl) (fun j => by rw [cf_ratios]; grind) i
 rw [conv_congr e (fun _ => rfl), conv_mul_left]
 rw [Rat.intCast_mul, nums_cf A D hA] at h1
 grind
theorem bez_main {A B : List Rat} {D E m : Int} {g s q r : List Int} {K0 Kx Bg BS KB K : Nat} (hA : ComDen A D K0) (hB : ComDen B E K0) (tB : Trimmed (numsL B E)) (R : ExtR (numsL A D) (numsL B E) D g s)
  (P : PQRes (trimG isZ (plusL (trimG isZ (g.map (· * D))) (timesL s (numsL A D)) (-1))) (numsL B E) KB m q r)
  (kx : ∀ n ∈ numsL A D, nl n.natAbs ≤ Kx) (ky : ∀ n ∈ numsL B E, nl n.natAbs ≤ Kx) (kg : ∀ n ∈ g, nl n.natAbs ≤ Bg) (ks : ∀ n ∈ s, nl n.natAbs ≤ BS) (hK : Bg + BS + KB + K0 + Kx + 1 ≤ K) (hlg : g.length ≤ max A.length B.length) (h1 : 1 ≤ Bg) :
  BezRes A B (ratios g (cf g (g.length - 1))) (ratios s (cf g (g.length - 1))) (ratios (trimG isZ (q.map (· * E))) (cf g (g.length - 1) * D * m)) Bg K := by
 have hD0 : D ≠ 0 := by have := hA.pos; omega
 have hE0 : E ≠ 0 := by have := hB.pos; omega
 have hl0 : cf g (g.length - 1) ≠ 0 := (trimmed_cf R.ne).1 R.tg
 have bl : nl (cf g (g.length - 1)).natAbs ≤ Bg := cf_nl kg _
 generalize hl : cf g (g.length - 1) = l at *
 have hm0 := P.m0
 have hc : ∀ i, cf (trimG isZ (plusL (trimG isZ (g.map (· * D))) (timesL s (numsL A D)) (-1))) i = D * cf g i + -1 * conv (cf s) (cf (numsL A D)) i := fun i => by
  rw [cf_trim, cf_plusL, cf_trim, cf_scale, cf_times]; grind
 have hr := Dv.none (r := r) (((R.c.congr hc).lin (Dv.self (numsL B E) 1) q m (-1)).congr (fun i => by
  have h1 := P.id_ i
  have h2 : conv (cf q) (fun i => 1 * cf (numsL B E) i) i = conv (cf q) (cf (numsL B E)) i := conv_congr (fun _ => rfl) (fun j => Int.one_mul _) i
  rw [h2]; omega)) P.r_lt tB
 have hLD : l * D ≠ 0 := Int.mul_ne_zero hl0 hD0
 have hLDm : l * D * m ≠ 0 := Int.mul_ne_zero hLD hm0
 have hT : ∀ i, conv (cf (ratios (trimG isZ (q.map (· * E))) (l * D * m))) (cf B) i = ((conv (cf q) (cf (numsL B E)) i : Int) : Rat) / ((l * D * m : Int) : Rat) := fun i => by
  rw [conv_ratios hE0 hLDm hB.dvd]
  have h1 : conv (cf (trimG isZ (q.map (· * E)))) (cf (numsL B E)) i = E * conv (cf q) (cf (numsL B E)) i := by
   rw [← conv_mul_left]
   exact conv_congr (fun k => by rw [cf_trim, cf_scale, Int.mul_comm]) (fun _ => rfl) i
  have h2 : (E : Rat) ≠ 0 := fun e => hE0 (Rat.intCast_inj.1 e)
  have h3 : ((l * D * m : Int) : Rat) ≠ 0 := fun e => hLDm (Rat.intCast_inj.1 e)
  rw [h1, Rat.intCast_mul, Rat.intCast_mul (l * D * m)]
  grind
 have bD := hA.nl_
 have bLD : nl (l * D).natAbs ≤ Bg + K0 := nl_mul_int _ _ _ _ bl bD
 have bLDm : nl (l * D * m).natAbs ≤ Bg + K0 + KB := nl_mul_int _ _ _ _ bLD P.bm
 have lx := nums_len A D
 have ly := nums_len B E
 have lq : (trimG isZ (q.map (· * E))).length ≤ q.length := Nat.le_trans (trimG_len _ _) (by rw [List.length_map]; exact Nat.le_refl _)
 have lz := R.len
 have lrest : q.length ≤ A.length + B.length := by
  have h1 := P.q_len
  have h2 := trimG_len isZ (plusL (trimG isZ (g.map (· * D))) (timesL s (numsL A D)) (-1))
  rw [plusL_len] at h2
  have h3 := trimG_len isZ (g.map (· * D))
  rw [List.length_map] at h3
  have h4 : (timesL s (numsL A D)).length ≤ s.length + A.length := by
   unfold timesL
   split
   ·simp
   ·rw [List.length_map, List.length_range]; omega
  omega
 refine ⟨fun i => ?_, dv_rat hD0 hl0 hA.dvd R.dx, dv_rat hE0 hl0 hB.dvd R.dy, fun e => R.ne (by unfold ratios at e; exact List.map_eq_nil_iff.1 e), ratios_trimmed hl0 R.tg, ratios_trimmed hl0 R.ts, ratios_trimmed hLDm (trimmed_trim _), ?_, .inr ?_, ?_, ?_, ?_, ?_, ?_, ?_, fun i hi => ?_, fun i hi => ?_⟩
 ·rw [hT, conv_ratios hD0 hl0 hA.dvd, cf_ratios]
  have h1 := P.id_ i
  rw [hr i, hc i] at h1
  have h2 : ((m * (D * cf g i + -1 * conv (cf s) (cf (numsL A D)) i) : Int) : Rat) = ((conv (cf q) (cf (numsL B E)) i + 0 : Int) : Rat) := by rw [h1]
  simp only [Rat.intCast_mul, Rat.intCast_add] at h2
  have h3 : (l : Rat) ≠ 0 := fun e => hl0 (Rat.intCast_inj.1 e)
  have h4 : (D : Rat) ≠ 0 := fun e => hD0 (Rat.intCast_inj.1 e)
  have h5 : (m : Rat) ≠ 0 := fun e => hm0 (Rat.intCast_inj.1 e)
  simp only [Rat.intCast_mul]
  have h6 : ((-1 : Int) : Rat) = -1 := rfl
  have h7 : ((0 : Int) : Rat) = 0 := rfl
  rw [h6, h7] at h2
  grind
 ·rw [cf_ratios]
  unfold ratios
  rw [List.length_map, hl]
  have h3 : (l : Rat) ≠ 0 := fun e => hl0 (Rat.intCast_inj.1 e)
  grind
 ·unfold ratios; rw [List.length_map, List.length_map]; omega
 ·unfold ratios; rw [List.length_map]; exact hlg
 ·unfold ratios; rw [List.length_map]; omega
 ·unfold ratios; rw [List.length_map]; omega
 ·exact ratios_RL kg bl h1
 ·exact ratios_RL (fun n hn => Nat.le_trans (ks n hn) (by omega)) (by omega) (by omega)
 ·refine ratios_RL (fun n hn => ?_) (by omega) (by omega)
  obtain ⟨k, hk, rfl⟩ := List.mem_map.1 (trimG_mem hn)
  exact Nat.le_trans (nl_mul_int _ _ _ _ (P.bq k hk) hB.nl_) (by omega)
 ·rw [conv_ratios hD0 hl0 hA.dvd]
  exact frac_RL _ _ _ (Nat.le_trans (conv_nl (cf_nl ks) (cf_nl kx) (by omega)) (by omega)) (by omega) (by omega)
 ·rw [hT]
  exact frac_RL _ _ _ (Nat.le_trans (conv_nl (cf_nl P.bq) (cf_nl ky) (by omega)) (by omega)) (by omega) (by omega)
theorem conv_noneR {d : Nat → Rat} {ys : List Rat} {L : Nat} (hy0 : ys ≠ []) (ty : Trimmed ys) (hd : ∀ i, L ≤ i → d i = 0) (h : ∀ i, ys.length ≤ i + 1 → conv d (cf ys) i = 0) : ∀ i, d i = 0 := by
 induction L with
 | zero => exact fun i => hd i (Nat.zero_le _)
 | succ L ih =>
  refine ih (fun i hi => ?_)
  by_cases hL : L + 1 ≤ i
  ·exact hd i hL
  ·have e : i = L := by omega
   subst e
   have h1 := conv_lead (p := d) (q := cf ys) (m := i) (n := ys.length - 1) (fun j hj => hd j (by omega)) (fun j hj => cf_top (by omega))
   rw [h _ (by omega)] at h1
   rcases Rat.mul_eq_zero.1 h1.symm with h2 | h2
   ·exact h2
   ·exact absurd h2 ((trimmed_cf hy0).1 ty)
theorem bez_div {A G Q R : List Rat} {K : Nat} (h : DivRes A G Q R K) (hU : ∃ U : List Rat, ∀ i, cf A i = conv (cf U) (cf G) i) (ne : G ≠ []) (tg : Trimmed G) : R = [] := by
 obtain ⟨U, hU⟩ := hU
 have hc : ∀ i, conv (fun k => cf U k + (-1) * cf Q k) (cf G) i = cf R i := fun i => by
  rw [conv_add_left, conv_mul_left, ← hU i, ← h.id_ i]
  grind
 have hz := conv_noneR (d := fun k => cf U k + (-1) * cf Q k) (L := U.length + Q.length) ne tg (fun i hi => by show cf U i + (-1) * cf Q i = 0; rw [cf_top (by omega), cf_top (by omega)]; grind) (fun i hi => by rw [hc, cf_top (by have := h.r_lt; omega)])
 refine trim_ext h.r_trim (fun a ha => by simp at ha) (fun i => ?_)
 rw [← hc, conv_zero_left hz, cf_nil]
theorem bez_sum {A B G S T : List Rat} {Kg K : Nat} (h : BezRes A B G S T Kg K) : trimG isZ (addR (trimG isZ (timesR S A)) (trimG isZ (timesR T B))) = G :=
 trim_ext (trimmed_trim _) h.tg (fun i => by rw [cf_trim, cf_addR, cf_trim, cf_timesR, cf_trim, cf_timesR]; exact h.id_ i)
theorem timesR_le {Q B : List Rat} : (trimG isZ (timesR Q B)).length ≤ Q.length + B.length := by
 refine Nat.le_trans (trimG_len _ _) ?_
 unfold timesR
 split
 ·simp
 ·rw [List.length_map, List.length_range]; omega
theorem bez_RL {S A : List Rat} {K : Nat} (h : ∀ i, i ≤ 1000 → RL K (conv (cf S) (cf A) i)) (hl : S.length + A.length ≤ 1000) : ∀ q ∈ trimG isZ (timesR S A), RL K q := fun q hq => by
 obtain ⟨i, hi, rfl⟩ := List.getElem_of_mem hq
 have := timesR_le (Q := S) (B := A)
 rw [← cf_get hi, cf_trim, cf_timesR]
 exact h i (by omega)
theorem bez_one_txt {G : List Rat} (h : cf G (G.length - 1) = 1) (ne : G ≠ []) : (G.map ratTxt)[G.length - 1]? = some [49] := by
 have hl : G.length - 1 < G.length := by
  have : G.length ≠ 0 := fun e => ne (List.eq_nil_of_length_eq_zero e)
  omega
 rw [List.getElem?_map, List.getElem?_eq_getElem hl, ← cf_get hl, h]
 exact congrArg some (txt_read (s := [49]) (q := 1) (by decide))
end Go.Proofs.YtoimnlnaaklinaaGreatDoor
namespace Go.Proofs.YtoimnlnaaklinaaGreatDoor
open Go.RowKit Sos
theorem bez_one {A : List Rat} {D : Int} {K0 Kx K : Nat} (hA : ComDen A D K0) (h0 : numsL A D ≠ []) (tx : Trimmed (numsL A D)) (kx : ∀ n ∈ numsL A D, nl n.natAbs ≤ Kx) (hK : K0 + Kx + 1 ≤ K) (h1 : 1 ≤ Kx) :
  BezRes A [] (ratios (numsL A D) (cf (numsL A D) ((numsL A D).length - 1))) (ratios [D] (cf (numsL A D) ((numsL A D).length - 1))) [] Kx K := by
 have hD0 : D ≠ 0 := by have := hA.pos; omega
 have hl0 := (trimmed_cf h0).1 tx
 have bl : nl (cf (numsL A D) ((numsL A D).length - 1)).natAbs ≤ Kx := cf_nl kx _
 have hlen := nums_len A D
 generalize hl : cf (numsL A D) ((numsL A D).length - 1) = l at *
 have h3 : (l : Rat) ≠ 0 := fun e => hl0 (Rat.intCast_inj.1 e)
 have h4 : (D : Rat) ≠ 0 := fun e => hD0 (Rat.intCast_inj.1 e)
 have hcD : ∀ k, cf [D] k = if k = 0 then D else 0 := fun k => by
  cases k with
  | zero => rfl
  | succ k => rw [cf_top (by simp)]; rfl
 have bD := hA.nl_
 have hsa : ∀ i, conv (cf (ratios [D] l)) (cf A) i = cf (ratios (numsL A D) l) i := fun i => by
  rw [conv_ratios hD0 hl0 hA.dvd, cf_ratios, conv_congr hcD (fun _ => rfl), conv_mono, if_pos (Nat.zero_le _), Rat.intCast_mul, Rat.intCast_mul]
  show (D : Rat) * _ / _ = _
  rw [Nat.sub_zero]
  grind
 have bg : ∀ q ∈ ratios (numsL A D) l, RL Kx q := ratios_RL kx bl h1
 refine ⟨fun i => ?_, dv_rat hD0 hl0 hA.dvd ((Dv.self (numsL A D) 1).congr (fun i => (Int.one_mul _).symm)), ⟨[], fun i => ?_⟩, fun e => h0 (by unfold ratios at e; exact List.map_eq_nil_iff.1 e), ratios_trimmed hl0 tx, ratios_trimmed hl0 (fun a ha => by simp at ha; rw [← ha]; exact hD0), (fun a ha => by simp at ha), ?_, .inl rfl, ?_, ?_, ?_, bg, ratios_RL (fun n hn => by rw [List.mem_singleton.1 hn]; omega) (by omega) (by omega), (fun q hq => by cases hq), fun i _ => ?_, fun i _ => ?_⟩
 ·rw [hsa, conv_zero_left (fun k => cf_nil k)]; grind
 ·rw [cf_nil, conv_zero_left (fun k => cf_nil k)]
 ·rw [cf_ratios]
  unfold ratios
  rw [List.length_map, hl]
  grind
 ·unfold ratios; rw [List.length_map]; simp; omega
 ·unfold ratios; simp
 ·simp
 ·rw [hsa]; exact RL_mono (cf_RL bg (RL_zero h1) i) (by omega)
 ·rw [conv_zero_left (fun k => cf_nil k)]; exact RL_zero (by omega)
def RetExt (w : World) (a b : List (List UInt8)) (e : Ending) (w' : World) : Prop :=
 ∃ vg vs vt G S T, e = .returned (.tuple #[vg, vs, vt, .int .i64 0]) ∧ StrsAt w' vg (G.map ratTxt) ∧ StrsAt w' vs (S.map ratTxt) ∧ StrsAt w' vt (T.map ratTxt) ∧
  (a = [] ∧ b = [] ∧ G = [] ∧ S = [] ∧ T = [] ∨ BezRes (ratsOf a) (ratsOf b) G S T 43740 2800000) ∧ Below w.heap.size w w'
set_option maxRecDepth 100000 in
theorem extGcd_any (a b : List (List UInt8)) (va vb : Value) (w : World) (hG : Glob w) (ha : StrsAt w va a) (hb' : StrsAt w vb b) (hva : vl a = true) (hvb : vl b = true) (hla : a.length ≤ 7) (hlb : b.length ≤ 7) (hsa : ∀ l ∈ a, l.length ≤ 6) (hsb : ∀ l ∈ b, l.length ≤ 6) :
  Calls Tryz.prog 20 #[va, vb] w (RetExt w a b) := by
 obtain ⟨A, c, rfl, hc⟩ := ha.form
 obtain ⟨A', c', rfl, hc'⟩ := hb'.form
 have hKa : ∀ q ∈ ratsOf a, RL 1 q := RL_short (fun l hl => Nat.le_trans (hsa l hl) (by decide))
 have hKb : ∀ q ∈ ratsOf b, RL 1 q := RL_short (fun l hl => Nat.le_trans (hsb l hl) (by decide))
 go_enter Tryz.func20, Tryz.ntmps20
 go_wp2_with fail
 ((with_reducible refine (uniRead_len a _ _ hG ha (by omega) (fun _ l hl => Nat.le_trans (hsa l hl) (by decide)) 1 8 7 (fun _ => hKa) (fun _ => hla) (by decide) (by decide) (by unfold LIM; decide)).mono ?_))
 rintro e1 w1 ⟨v1, vd1, xs, D, rfl, hx, hD, hvx, hb1⟩
 obtain ⟨rfl, hcx⟩ := hvx hva
 obtain ⟨A1, c1, rfl, hc1⟩ := hx.form
 obtain ⟨s1, B1, k1, d1, rfl⟩ := hD.form
 rw [hva]
 go_wp2_with fail
 obtain ⟨w2, e2, hA2, X⟩ := box1 w1 [.bool s1, .slice B1 k1 d1] 49
 rw [e2]; clear e2
 replace hx := hx.below hA2
 replace hD := hD.below hA2
 have hb := hb1.trans (hA2.mono hb1.size)
 have gxs := hb1.size
 ((with_reducible refine (uniRead_len b _ _ (hG.below hb) (hb'.below hb) (by omega) (fun _ l hl => Nat.le_trans (hsb l hl) (by decide)) 1 8 7 (fun _ => hKb) (fun _ => hlb) (by decide) (by decide) (by unfold LIM; decide)).mono ?_))
 rintro e3 w3 ⟨v3, vd3, ys, E, rfl, hy, hE, hvy, hb3⟩
 obtain ⟨rfl, hcy⟩ := hvy hvb
 obtain ⟨A3, c3, rfl, hc3⟩ := hy.form
 obtain ⟨s3, B3, k3, d3, rfl⟩ := hE.form
 rw [hvb]
 have gX3 := (X.below hb3).lt
 replace X := X.below hb3
 replace hx := hx.below hb3
 replace hD := hD.below hb3
 replace hb := hb.trans (hb3.mono hb.size)
 obtain ⟨p1, -, t1⟩ := vl_parts hva
 obtain ⟨p2, -, t2⟩ := vl_parts hvb
 have lx0 : (numsL (ratsOf a) D).length = a.length := by rw [nums_len]; unfold ratsOf; rw [List.length_map]
 have ly0 : (numsL (ratsOf b) E).length = b.length := by rw [nums_len]; unfold ratsOf; rw [List.length_map]
 have tx := nums_trimmed hcx.pos hcx.dvd t1
 have ty := nums_trimmed hcy.pos hcy.dvd t2
 have bx := nums_nl _ D 1 _ hKa hcx.nl_
 have bY := nums_nl _ E 1 _ hKb hcy.nl_
 have bD := hcx.nl_
 have bE := hcy.nl_
 have HAB : Hid (ComDen (ratsOf a) D (1 + 7 * 1) ∧ ComDen (ratsOf b) E (1 + 7 * 1)) := ⟨hcx, hcy⟩
 have hD0 : D ≠ 0 := by have := hcx.pos; omega
 have Hx0 : Hid (numsL (ratsOf a) D = [] → a = []) := fun e => List.eq_nil_of_length_eq_zero (by rw [← lx0, e]; rfl)
 have Hy0 : Hid (numsL (ratsOf b) E = [] → b = []) := fun e => List.eq_nil_of_length_eq_zero (by rw [← ly0, e]; rfl)
 have lx7 : (numsL (ratsOf a) D).length ≤ 7 := by omega
 have ly7 : (numsL (ratsOf b) E).length ≤ 7 := by omega
 have HLX := Lib.hid lx0
 have HLY := Lib.hid ly0
 clear lx0 ly0
 clear hcx hcy hvx hvy t1 t2 p1 p2 hKa hKb hsa hsb ha hb' hva hvb
 have XA := fun o : Obj => (X.alloc o).k2
 generalize hNA : numsL (ratsOf a) D = NA at *
 have HNA := Lib.hid hNA
 generalize hNB : numsL (ratsOf b) E = NB at *
 have HNB := Lib.hid hNB
 clear hNA hNB
 have hx1 := hx.below ((Below.refl w3.heap.size w3).alloc (Nat.le_refl _) (.cells #[.bool s3, .slice B3 k3 d3] 49))
 by_cases hy0 : NB = []
 ·have qy : ((NB.length : Int) == 0) = true := by rw [hy0]; rfl
  have hb0 := Hy0.out hy0
  by_cases hx0 : NA = []
  ·have qx : ((NA.length : Int) == 0) = true := by rw [hx0]; rfl
   have ha0 := Hx0.out hx0
   have HAA := Lib.hid (And.intro ha0 hb0)
   clear hx0 hy0 ha0 hb0
   go_wp2_with fail
   exact bodyPost_ret (v := .tuple #[.slice none 0 0, .slice none 0 0, .slice none 0 0, .int .i64 0]) (by simp [results, Tryz.results20, go_sem]) rfl ⟨_, _, _, [], [], [], rfl, StrsAt.nil _ _ _, StrsAt.nil _ _ _, StrsAt.nil _ _ _, .inl ⟨HAA.out.1, HAA.out.2, rfl, rfl, rfl⟩, hb.alloc hb.size _⟩
  ·have qx : ((NA.length : Int) == 0) = false := by simpa using hx0
   have hbz := bez_one (Kx := 43740) (K := 2800000) HAB.out.1 (by rw [HNA.out]; exact hx0) (by rw [HNA.out]; exact tx) (by rw [HNA.out]; exact fun n hn => Nat.le_trans (bx n hn) (by decide)) (by decide) (by decide)
   rw [HNA.out] at hbz
   have HBZ := Lib.hid (show BezRes (ratsOf a) (ratsOf b) _ _ _ _ _ by rw [hb0]; exact hbz)
   have bl := cf_nl bx (NA.length - 1)
   have hmo := fun W hG h => monic_whole NA (.slice A1 NA.length c1) W hG h hx0 9 bx (by decide) (by decide) (by omega)
   have hle := fun W h => lead_whole NA (.slice A1 NA.length c1) W h hx0 (by omega)
   generalize hlead : cf NA (NA.length - 1) = l at *
   have hst := fun W v u hG h k => wholeStrings_any [D] l v u W hG h k 9 (fun n hn => by rw [List.mem_singleton.1 hn]; exact Nat.le_trans bD (by decide)) bl (by decide) (by decide) (by simp)
   clear hx0 hy0 hb0 hbz hlead
   go_wp2_with fail
   obtain ⟨w4, e4, hA4, Y⟩ := box1 w3 [.bool s3, .slice B3 k3 d3] 49
   rw [e4]; clear e4
   replace hx := hx.below hA4
   replace hD := hD.below hA4
   replace X := X.below hA4
   replace hb := hb.trans (hA4.mono hb.size)
   have hGW := hG.below hb
   have X_l := X.lt
   have KS := Lib.hid (show ∀ w', Below w4.heap.size w4 w' → C2 w' w1.heap.size (.bool s1) (.slice B1 k1 d1) from fun w' hU => (X.below hU).k2)
   clear XA hx1 hA4 Y hy hE hG X
   go_region_held3 (fun w' => C2 w' w1.heap.size (.bool s1) (.slice B1 k1 d1))
    (exact KS.out _ (by with_reducible (repeat (first | exact Below.refl _ _ | refine ua ?_ | refine ud ?_ | refine ut ?_ hbM | refine ut ?_ hbL | refine ut ?_ hbS | refine us ?_ (by omega)))))
    (first
     | (go_at_call 29; (with_reducible refine (hmo _ (hGW.below (by with_reducible (repeat (first | exact Below.refl _ _ | refine ua ?_ | refine ud ?_ | refine ut ?_ hbM | refine ut ?_ hbL | refine ut ?_ hbS | refine us ?_ (by omega))))) (hx.below (by with_reducible (repeat (first | exact Below.refl _ _ | refine ua ?_ | refine ud ?_ | refine ut ?_ hbM | refine ut ?_ hbL | refine ut ?_ hbS | refine us ?_ (by omega)))))).mono ?_); rintro eM wM ⟨vM, rfl, hM, hbM⟩; have lM := hbM.size)
     | (go_at_call 47; (with_reducible refine (hle _ (hx.below (by with_reducible (repeat (first | exact Below.refl _ _ | refine ua ?_ | refine ud ?_ | refine ut ?_ hbM | refine ut ?_ hbL | refine ut ?_ hbS | refine us ?_ (by omega)))))).mono ?_); rintro eL wL ⟨vL, rfl, hL, hbL⟩; have lL := hbL.size)
     | (go_at_call 31; (with_reducible refine (hst _ _ _ (hGW.below (by with_reducible (repeat (first | exact Below.refl _ _ | refine ua ?_ | refine ud ?_ | refine ut ?_ hbM | refine ut ?_ hbL | refine ut ?_ hbS | refine us ?_ (by omega))))) (WholeAt.below (WholeAt.single (hD.below (by with_reducible (repeat (first | exact Below.refl _ _ | refine ua ?_ | refine ud ?_ | refine ut ?_ hbM | refine ut ?_ hbL | refine ut ?_ hbS | refine us ?_ (by omega)))))) (by with_reducible (repeat (first | exact Below.refl _ _ | refine ua ?_ | refine ud ?_ | refine ut ?_ hbM | refine ut ?_ hbL | refine ut ?_ hbS | refine us ?_ (by omega))))) (hL.below (by with_reducible (repeat (first | exact Below.refl _ _ | refine ua ?_ | refine ud ?_ | refine ut ?_ hbM | refine ut ?_ hbL | refine ut ?_ hbS | refine us ?_ (by omega)))))).mono ?_); rintro eS wS ⟨vS, rfl, hS, hbS⟩))
   all_goals (
    go_wp2_with fail
    exact bodyPost_ret (v := .tuple #[vM, vS, .slice none 0 0, .int .i64 0]) (by simp [results, Tryz.results20, go_sem]) rfl ⟨_, _, _, _, _, [], rfl, hM.below (by with_reducible (repeat (first | exact Below.refl _ _ | refine ua ?_ | refine ud ?_ | refine ut ?_ hbM | refine ut ?_ hbL | refine ut ?_ hbS | refine us ?_ (by omega)))), hS, StrsAt.nil _ _ _, .inr HBZ.out, hb.trans (Below.mono (show Below w4.heap.size w4 wS by with_reducible (repeat (first | exact Below.refl _ _ | refine ua ?_ | refine ud ?_ | refine ut ?_ hbM | refine ut ?_ hbL | refine ut ?_ hbS | refine us ?_ (by omega)))) hb.size)⟩)
 ·have qy : ((NB.length : Int) == 0) = false := by simpa using hy0
  have HY0 := Lib.hid hy0
  clear hy0
  have hpw : ∀ x, x ≤ 7 → ∀ y, y ≤ 7 → (9 + 1) * (x - y + 2) * 3 ^ y ≤ 43740 := by decide
  have hex := fun W hG h1 h2 h3 => extended_whole NA NB D (.slice A1 NA.length c1) (.slice A3 NB.length c3) (.agg #[.bool s1, .slice B1 k1 d1]) W hG h1 h2 h3 tx ty hD0 9 43740 306210 bx bY (Nat.le_trans bD (by decide)) (by decide) (hpw _ lx7 _ ly7) (by omega) (by unfold LIM; decide) (by omega) (by omega)
  have HST := Lib.hid (ext_start (D := D) HY0.out tx ty hD0)
  have hbzz := fun g s q r m (R : ExtR NA NB D g s) P kg ks hlg => bez_main (A := ratsOf a) (B := ratsOf b) (D := D) (E := E) (m := m) (g := g) (s := s) (q := q) (r := r) (Kx := 9) (Bg := 43740) (BS := 306210) (KB := 2449783) (K := 2800000) HAB.out.1 HAB.out.2 (by rw [HNB.out]; exact ty) (by rw [HNA.out, HNB.out]; exact R) (by rw [HNA.out, HNB.out]; exact P) (by rw [HNA.out]; exact bx) (by rw [HNB.out]; exact bY) kg ks (by decide) hlg (by decide)
  have HBZ := Lib.hid hbzz
  clear hpw hbzz
  have hqx : ((NA.length : Int) == 0) = true ∨ ((NA.length : Int) == 0) = false := by cases ((NA.length : Int) == 0) <;> simp
  rcases hqx with qx | qx
  all_goals (
   go_wp2_with fail
   obtain ⟨w4, e4, hA4, Y⟩ := box1 w3 [.bool s3, .slice B3 k3 d3] 49
   rw [e4]; clear e4
   replace hx := hx.below hA4
   replace hy := hy.below hA4
   replace hD := hD.below hA4
   replace hE := hE.below hA4
   replace X := X.below hA4
   replace hb := hb.trans (hA4.mono hb.size)
   clear XA hx1 hA4
   ((with_reducible refine (hex _ (hG.below hb) hx hy hD).mono ?_))
   rintro e5 w5 ⟨v5, u5, g, s, rfl, h5, i5, hext, kg, ks, hb5⟩
   have RR := ext_res HY0.out hext HST.out
   have HR := Lib.hid RR
   have hg0 := RR.ne
   have lsg := RR.len
   clear hext RR hex
   replace hx := hx.below hb5
   replace hy := hy.below hb5
   replace hD := hD.below hb5
   replace hE := hE.below hb5
   replace X := X.below hb5
   replace Y := Y.below hb5
   replace hb := hb.trans (hb5.mono hb.size)
   have hg1 : g.length ≠ 0 := fun e => hg0 (List.eq_nil_of_length_eq_zero e)
   go_wp2_with fail
   ((with_reducible refine (lead_whole g _ _ h5 hg0 (by omega)).mono ?_))
   rintro e6 w6 ⟨v6, rfl, h6, hb6⟩
   obtain ⟨s6, B6, k6, d6, rfl⟩ := h6.form
   replace hx := hx.below hb6
   replace hy := hy.below hb6
   replace hD := hD.below hb6
   replace hE := hE.below hb6
   replace X := X.below hb6
   replace Y := Y.below hb6
   replace h5 := h5.below hb6
   replace i5 := i5.below hb6
   replace hb := hb.trans (hb6.mono hb.size)
   have bl := cf_nl kg (g.length - 1)
   generalize hl : cf g (g.length - 1) = l at *
   have HL := Lib.hid hl
   clear hl
   have XA := fun o : Obj => (X.alloc o).k2
   go_wp2_with fail
   obtain ⟨w7, e7, hA7, L⟩ := box1 w6 [.bool s6, .slice B6 k6 d6] 49
   rw [e7]; clear e7 XA
   have X_l := X.lt
   have Y_l := Y.lt
   replace hx := hx.below hA7
   replace hy := hy.below hA7
   replace hD := hD.below hA7
   replace hE := hE.below hA7
   replace X := X.below hA7
   replace Y := Y.below hA7
   replace h5 := h5.below hA7
   replace i5 := i5.below hA7
   replace h6 := h6.below hA7
   replace hb := hb.trans (hA7.mono hb.size)
   ((with_reducible refine (scale_whole g D _ _ _ h5 hD 43740 kg (Nat.le_trans bD (by decide)) (by decide) (by omega)).mono ?_))
   rintro e8 w8 ⟨v8, rfl, h8, hb8⟩
   replace hx := hx.below hb8
   replace hy := hy.below hb8
   replace hD := hD.below hb8
   replace hE := hE.below hb8
   replace X := X.below hb8
   replace Y := Y.below hb8
   replace L := L.below hb8
   replace h5 := h5.below hb8
   replace i5 := i5.below hb8
   replace h6 := h6.below hb8
   replace hb := hb.trans (hb8.mono hb.size)
   go_wp2_with fail
   ((with_reducible refine (times_whole s NA _ _ _ i5 hx 306210 ks (fun n hn => Nat.le_trans (bx n hn) (by decide)) (by unfold LIM; decide) (by omega) (by omega)).mono ?_))
   rintro e9 w9 ⟨v9, rfl, h9, hb9⟩
   replace hy := hy.below hb9
   replace hD := hD.below hb9
   replace hE := hE.below hb9
   replace X := X.below hb9
   replace Y := Y.below hb9
   replace L := L.below hb9
   replace h5 := h5.below hb9
   replace i5 := i5.below hb9
   replace h6 := h6.below hb9
   replace h8 := h8.below hb9
   replace hb := hb.trans (hb9.mono hb.size)
   go_wp2_with fail
   ((with_reducible refine (new_any (-1) _ (by decide) (by decide)).mono ?_))
   rintro e10 w10 ⟨v10, rfl, h10, hb10⟩
   replace hy := hy.below hb10
   replace hD := hD.below hb10
   replace hE := hE.below hb10
   replace X := X.below hb10
   replace Y := Y.below hb10
   replace L := L.below hb10
   replace h5 := h5.below hb10
   replace i5 := i5.below hb10
   replace h6 := h6.below hb10
   replace h8 := h8.below hb10
   replace h9 := h9.below hb10
   replace hb := hb.trans (hb10.mono hb.size)
   have x1 : ∀ n ∈ trimG isZ (g.map (· * D)), nl n.natAbs ≤ 306221 := fun n hn => by
    obtain ⟨k, hk, rfl⟩ := List.mem_map.1 (trimG_mem hn)
    exact Nat.le_trans (nl_mul_int _ _ _ _ (kg k hk) bD) (by decide)
   have x2 : ∀ n ∈ timesL s NA, nl n.natAbs ≤ 306220 := fun n hn => Nat.le_trans (times_nl2 ks bx (by omega) n hn) (by decide)
   have x3 : ∀ n ∈ trimG isZ (plusL (trimG isZ (g.map (· * D))) (timesL s NA) (-1)), nl n.natAbs ≤ 306222 := fun n hn => plus_nl2 (c := 1) x1 x2 (nl_le (m := 1) (by decide)) (by decide) n (trimG_mem hn)
   have y1 : (trimG isZ (g.map (· * D))).length ≤ g.length := Nat.le_trans (trimG_len _ _) (by rw [List.length_map]; exact Nat.le_refl _)
   have y2 : (timesL s NA).length ≤ s.length + NA.length - 1 := by
    by_cases h1 : s = []
    ·unfold timesL; rw [if_pos (.inl h1)]; simp
    ·by_cases h2 : NA = []
     ·unfold timesL; rw [if_pos (.inr h2)]; simp
     ·rw [times_len h1 h2]; exact Nat.le_refl _
   have y3 : (trimG isZ (plusL (trimG isZ (g.map (· * D))) (timesL s NA) (-1))).length ≤ max g.length (s.length + NA.length - 1) := Nat.le_trans (trimG_len _ _) (by rw [plusL_len]; omega)
   go_wp2_with fail
   ((with_reducible refine (plus_whole (trimG isZ (g.map (· * D))) (timesL s NA) (-1) _ _ _ _ h8 h9 h10 306221 (fun n hn => Nat.le_trans (x1 n hn) (by decide)) (fun n hn => Nat.le_trans (x2 n hn) (by decide)) (Nat.le_trans (nl_le (m := 1) (by decide)) (by decide)) (by decide) (by omega) (by omega)).mono ?_))
   rintro e11 w11 ⟨g11, c11, rfl, -, h11, hb11⟩
   replace hy := hy.below hb11
   replace hD := hD.below hb11
   replace hE := hE.below hb11
   replace X := X.below hb11
   replace Y := Y.below hb11
   replace L := L.below hb11
   replace h5 := h5.below hb11
   replace i5 := i5.below hb11
   replace h6 := h6.below hb11
   replace hb := hb.trans (hb11.mono hb.size)
   clear x1 x2 y1 y2 h8 h9 h10
   have tr := trimmed_trim (plusL (trimG isZ (g.map (· * D))) (timesL s NA) (-1))
   have hbzz := fun q r m P => HBZ.out g s q r m HR.out P kg ks (by have := HLY.out; rw [show (ratsOf b).length = b.length from List.length_map _]; omega)
   have HBY := Lib.hid hbzz
   generalize hrest : trimG isZ (plusL (trimG isZ (g.map (· * D))) (timesL s NA) (-1)) = rest at *
   clear hbzz hrest HBZ
   have hm7 : (rest.length + 1 - NB.length) * (306222 + 1) ≤ 7 * (306222 + 1) := Nat.mul_le_mul_right _ (by omega)
   have pq := fun W h1 h2 => pqr_whole rest NB (.slice (some ⟨g11, 0, none⟩) rest.length c11) (.slice A3 NB.length c3) W h1 h2 HY0.out tr ty 306222 2449783 x3 (fun n hn => Nat.le_trans (bY n hn) (by decide)) (by decide) (by omega) (by unfold LIM; decide) (by omega) (by omega)
   unfold RetPQR at pq
   have lr14 : rest.length ≤ 14 := by omega
   clear tr hm7 x3 y3
   go_wp2_with fail
   ((with_reducible refine (pq _ h11 hy).mono ?_))
   rintro e12 w12 ⟨vq, vr, vm, q, r, m, rfl, hq, -, hm, hres, hb12⟩
   obtain ⟨s12, B12, k12, d12, rfl⟩ := hm.form
   have HZ := Lib.hid (HBY.out q r m hres)
   have bq := hres.bq
   have bm := hres.bm
   have lq := hres.q_len
   clear pq hres HBY h11 hy
   replace hD := hD.below hb12
   replace hE := hE.below hb12
   replace X := X.below hb12
   replace Y := Y.below hb12
   replace L := L.below hb12
   replace h5 := h5.below hb12
   replace i5 := i5.below hb12
   replace h6 := h6.below hb12
   replace hb := hb.trans (hb12.mono hb.size)
   have X_l := X.lt
   have Y_l := Y.lt
   have L_l := L.lt
   have XA := fun o : Obj => aa (X.alloc o).k2 (aa (Y.alloc o).k2 (L.alloc o).k2)
   go_wp2_with fail
   obtain ⟨w13, e13, hA13, M⟩ := box1 w12 [.bool s12, .slice B12 k12 d12] 49
   rw [e13]; clear e13 XA
   replace hD := hD.below hA13
   replace hE := hE.below hA13
   replace X := X.below hA13
   replace Y := Y.below hA13
   replace L := L.below hA13
   replace h5 := h5.below hA13
   replace i5 := i5.below hA13
   replace h6 := h6.below hA13
   replace hq := hq.below hA13
   replace hm := hm.below hA13
   replace hb := hb.trans (hA13.mono hb.size)
   have KS := Lib.hid (show ∀ w', Below w13.heap.size w13 w' → C2 w' w1.heap.size (.bool s1) (.slice B1 k1 d1) ∧ C2 w' w3.heap.size (.bool s3) (.slice B3 k3 d3) ∧ C2 w' w6.heap.size (.bool s6) (.slice B6 k6 d6) ∧ C2 w' w12.heap.size (.bool s12) (.slice B12 k12 d12) from fun w' hU => ⟨(X.below hU).k2, (Y.below hU).k2, (L.below hU).k2, (M.below hU).k2⟩)
   have hsc := fun W h k => scale_whole q E vq (.agg #[.bool s3, .slice B3 k3 d3]) W h k 2449783 bq (Nat.le_trans bE (by decide)) (by decide) (by omega)
   have hmu := fun W h k => mul_any l D (.agg #[.bool s6, .slice B6 k6 d6]) (.agg #[.bool s1, .slice B1 k1 d1]) W h k (by omega)
   have blD := nl_mul_int l D _ _ bl bD
   have hmv := fun W v h k => mul_any (l * D) m v (.agg #[.bool s12, .slice B12 k12 d12]) W h k (by omega)
   have blm := nl_mul_int (l * D) m _ _ blD bm
   have z1 : ∀ n ∈ trimG isZ (q.map (· * E)), nl n.natAbs ≤ 2800000 := fun n hn => by
    obtain ⟨k, hk, rfl⟩ := List.mem_map.1 (trimG_mem hn)
    exact Nat.le_trans (nl_mul_int _ _ _ _ (bq k hk) bE) (by decide)
   have z2 : (trimG isZ (q.map (· * E))).length ≤ q.length := Nat.le_trans (trimG_len _ _) (by rw [List.length_map]; exact Nat.le_refl _)
   have hst := fun W v u hG h k => wholeStrings_any (trimG isZ (q.map (· * E))) (l * D * m) v u W hG h k 2800000 z1 (by omega) (by decide) (by decide) (by omega)
   have hmo := fun W hG h => monic_whole g v5 W hG h hg0 43740 kg (by decide) (by decide) (by omega)
   have hss := fun W hG h k => wholeStrings_any s l u5 (.agg #[.bool s6, .slice B6 k6 d6]) W hG h k 306210 ks (Nat.le_trans bl (by decide)) (by decide) (by decide) (by omega)
   have hz := HZ.out
   rw [HL.out] at hz
   have HZZ := Lib.hid hz
   simp only [HL.out] at hmo
   have hGW := hG.below hb
   clear hG HL hz HZ X Y M hA13 hb12 lr14 z1 z2 bq bm blD blm
   go_region_held3 (fun w' => C2 w' w1.heap.size (.bool s1) (.slice B1 k1 d1) ∧ C2 w' w3.heap.size (.bool s3) (.slice B3 k3 d3) ∧ C2 w' w6.heap.size (.bool s6) (.slice B6 k6 d6) ∧ C2 w' w12.heap.size (.bool s12) (.slice B12 k12 d12))
    (exact KS.out _ (by with_reducible (repeat (first | exact Below.refl _ _ | refine ua ?_ | refine ud ?_ | refine ut ?_ hbA | refine ut ?_ hbB | refine ut ?_ hbC | refine ut ?_ hbS | refine ut ?_ hbN | refine ut ?_ hbT | refine us ?_ (by omega)))))
    (first
     | (go_at_call 35; (with_reducible refine (hsc _ (hq.below (by with_reducible (repeat (first | exact Below.refl _ _ | refine ua ?_ | refine ud ?_ | refine ut ?_ hbA | refine ut ?_ hbB | refine ut ?_ hbC | refine ut ?_ hbS | refine ut ?_ hbN | refine ut ?_ hbT | refine us ?_ (by omega))))) (hE.below (by with_reducible (repeat (first | exact Below.refl _ _ | refine ua ?_ | refine ud ?_ | refine ut ?_ hbA | refine ut ?_ hbB | refine ut ?_ hbC | refine ut ?_ hbS | refine ut ?_ hbN | refine ut ?_ hbT | refine us ?_ (by omega)))))).mono ?_); rintro eA wA ⟨vA, rfl, hA, hbA⟩; have lA := hbA.size)
     | (go_at_call 27; (with_reducible refine (hmu _ (h6.below (by with_reducible (repeat (first | exact Below.refl _ _ | refine ua ?_ | refine ud ?_ | refine ut ?_ hbA | refine ut ?_ hbB | refine ut ?_ hbC | refine ut ?_ hbS | refine ut ?_ hbN | refine ut ?_ hbT | refine us ?_ (by omega))))) (hD.below (by with_reducible (repeat (first | exact Below.refl _ _ | refine ua ?_ | refine ud ?_ | refine ut ?_ hbA | refine ut ?_ hbB | refine ut ?_ hbC | refine ut ?_ hbS | refine ut ?_ hbN | refine ut ?_ hbT | refine us ?_ (by omega)))))).mono ?_); rintro eB wB ⟨vB, rfl, hB, hbB⟩; have lB := hbB.size)
     | (go_at_call 27; (with_reducible refine (hmv _ _ (hB.below (by with_reducible (repeat (first | exact Below.refl _ _ | refine ua ?_ | refine ud ?_ | refine ut ?_ hbA | refine ut ?_ hbB | refine ut ?_ hbC | refine ut ?_ hbS | refine ut ?_ hbN | refine ut ?_ hbT | refine us ?_ (by omega))))) (hm.below (by with_reducible (repeat (first | exact Below.refl _ _ | refine ua ?_ | refine ud ?_ | refine ut ?_ hbA | refine ut ?_ hbB | refine ut ?_ hbC | refine ut ?_ hbS | refine ut ?_ hbN | refine ut ?_ hbT | refine us ?_ (by omega)))))).mono ?_); rintro eC wC ⟨vC, rfl, hC, hbC⟩; have lC := hbC.size)
     | (go_at_call 31; (with_reducible refine (hst _ _ _ (hGW.below (by with_reducible (repeat (first | exact Below.refl _ _ | refine ua ?_ | refine ud ?_ | refine ut ?_ hbA | refine ut ?_ hbB | refine ut ?_ hbC | refine ut ?_ hbS | refine ut ?_ hbN | refine ut ?_ hbT | refine us ?_ (by omega))))) (hA.below (by with_reducible (repeat (first | exact Below.refl _ _ | refine ua ?_ | refine ud ?_ | refine ut ?_ hbA | refine ut ?_ hbB | refine ut ?_ hbC | refine ut ?_ hbS | refine ut ?_ hbN | refine ut ?_ hbT | refine us ?_ (by omega))))) (hC.below (by with_reducible (repeat (first | exact Below.refl _ _ | refine ua ?_ | refine ud ?_ | refine ut ?_ hbA | refine ut ?_ hbB | refine ut ?_ hbC | refine ut ?_ hbS | refine ut ?_ hbN | refine ut ?_ hbT | refine us ?_ (by omega)))))).mono ?_); rintro eS wS ⟨vS, rfl, hS, hbS⟩; have lS := hbS.size))
   all_goals (
    go_wp2_with fail
    go_region_held3 (fun w' => C2 w' w6.heap.size (.bool s6) (.slice B6 k6 d6))
     (exact (KS.out _ (by with_reducible (repeat (first | exact Below.refl _ _ | refine ua ?_ | refine ud ?_ | refine ut ?_ hbA | refine ut ?_ hbB | refine ut ?_ hbC | refine ut ?_ hbS | refine ut ?_ hbN | refine ut ?_ hbT | refine us ?_ (by omega))))).2.2.1)
     (first
      | (go_at_call 29; (with_reducible refine (hmo _ (hGW.below (by with_reducible (repeat (first | exact Below.refl _ _ | refine ua ?_ | refine ud ?_ | refine ut ?_ hbA | refine ut ?_ hbB | refine ut ?_ hbC | refine ut ?_ hbS | refine ut ?_ hbN | refine ut ?_ hbT | refine us ?_ (by omega))))) (h5.below (by with_reducible (repeat (first | exact Below.refl _ _ | refine ua ?_ | refine ud ?_ | refine ut ?_ hbA | refine ut ?_ hbB | refine ut ?_ hbC | refine ut ?_ hbS | refine ut ?_ hbN | refine ut ?_ hbT | refine us ?_ (by omega)))))).mono ?_); rintro eN wN ⟨vN, rfl, hN, hbN⟩; have lN := hbN.size)
      | (go_at_call 31; (with_reducible refine (hss _ (hGW.below (by with_reducible (repeat (first | exact Below.refl _ _ | refine ua ?_ | refine ud ?_ | refine ut ?_ hbA | refine ut ?_ hbB | refine ut ?_ hbC | refine ut ?_ hbS | refine ut ?_ hbN | refine ut ?_ hbT | refine us ?_ (by omega))))) (i5.below (by with_reducible (repeat (first | exact Below.refl _ _ | refine ua ?_ | refine ud ?_ | refine ut ?_ hbA | refine ut ?_ hbB | refine ut ?_ hbC | refine ut ?_ hbS | refine ut ?_ hbN | refine ut ?_ hbT | refine us ?_ (by omega))))) (h6.below (by with_reducible (repeat (first | exact Below.refl _ _ | refine ua ?_ | refine ud ?_ | refine ut ?_ hbA | refine ut ?_ hbB | refine ut ?_ hbC | refine ut ?_ hbS | refine ut ?_ hbN | refine ut ?_ hbT | refine us ?_ (by omega)))))).mono ?_); rintro eT wT ⟨vT, rfl, hT, hbT⟩))
    all_goals (
     go_wp2_with fail
     exact bodyPost_ret (v := .tuple #[vN, vT, vS, .int .i64 0]) (by simp [results, Tryz.results20, go_sem]) rfl ⟨_, _, _, _, _, _, rfl, hN.below (by with_reducible (repeat (first | exact Below.refl _ _ | refine ua ?_ | refine ud ?_ | refine ut ?_ hbA | refine ut ?_ hbB | refine ut ?_ hbC | refine ut ?_ hbS | refine ut ?_ hbN | refine ut ?_ hbT | refine us ?_ (by omega)))), hT, hS.below (by with_reducible (repeat (first | exact Below.refl _ _ | refine ua ?_ | refine ud ?_ | refine ut ?_ hbA | refine ut ?_ hbB | refine ut ?_ hbC | refine ut ?_ hbS | refine ut ?_ hbN | refine ut ?_ hbT | refine us ?_ (by omega)))), .inr HZZ.out, hb.trans (Below.mono (show Below w13.heap.size w13 wT by with_reducible (repeat (first | exact Below.refl _ _ | refine ua ?_ | refine ud ?_ | refine ut ?_ hbA | refine ut ?_ hbB | refine ut ?_ hbC | refine ut ?_ hbS | refine ut ?_ hbN | refine ut ?_ hbT | refine us ?_ (by omega)))) hb.size)⟩)))
theorem StrsAt.cellAt {w : World} {b off c l : Nat} {ls : List (List UInt8)} (h : StrsAt w (.slice (some ⟨b, off, none⟩) l c) ls) {i : Nat} {t : List UInt8} (hi : ls[i]? = some t) : w.cell? ⟨b, off + i, none⟩ = some (.string ⟨t.toArray⟩) := by
 obtain ⟨b', off', e, -, hc⟩ := h.at_ hi
 simp only [Option.some.injEq, Addr.mk.injEq, and_true] at e
 rw [e.1, e.2]; exact hc
set_option maxRecDepth 100000 in
theorem bezout_any (a b : List (List UInt8)) (va vb : Value) (w : World) (hG : Glob w) (ha : StrsAt w va a) (hb' : StrsAt w vb b) (hca : ∀ l ∈ a, l.length ≤ 9223372036854775807) (hcb : ∀ l ∈ b, l.length ≤ 9223372036854775807) :
  Calls Tryz.prog 6 #[va, vb] w fun e w' => e = .returned (.bool true) ∧ Below w.heap.size w w' := by
 obtain ⟨A, c, rfl, hc⟩ := ha.form
 obtain ⟨A', c', rfl, hc'⟩ := hb'.form
 have hp := polys_two ha hb' 22
 have hb : Below w.heap.size w (w.alloc (.cells #[.slice A a.length c, .slice A' b.length c'] 22)) := (Below.refl _ _).alloc (Nat.le_refl _) _
 have hsm := fun W v (hp : PolysAt W v [a, b]) => show Calls Tryz.prog 7 #[.int .i64 7, .int .i64 6, v] W fun e w' => e = .returned (.bool (smallB 7 6 [a, b])) ∧ W = w' from small_any 7 6 [a, b] v W hp (by decide) (by decide) (by show 2 ≤ 1073741824; decide) (fun p hp => by
  simp only [List.mem_cons, List.not_mem_nil, or_false] at hp
  rcases hp with rfl | rfl
  ·exact hca
  ·exact hcb)
 clear hca hcb
 go_enter Tryz.func6, Tryz.ntmps6
 go_wp2_with fail
 replace ha := ha.below hb
 replace hb' := hb'.below hb
 generalize w.alloc (.cells #[.slice A a.length c, .slice A' b.length c'] 22) = W at *
 ((with_reducible refine (hsm _ _ hp).mono ?_))
 rintro e1 w1 ⟨rfl, rfl⟩
 clear hsm hp
 cases hs : smallB 7 6 [a, b] with
 | false =>
  clear hs
  go_wp2_with fail
  ((with_reducible refine (awake_any _ (hG.below hb)).mono ?_))
  rintro e9 w9 ⟨rfl, hb9⟩
  go_wp2_with fail
  go_ret
  exact ⟨rfl, hb.trans (hb9.mono hb.size)⟩
 | true =>
  obtain ⟨la, sa⟩ := small_parts hs (p := a) (by simp)
  obtain ⟨lb, sb⟩ := small_parts hs (p := b) (by simp)
  have hca : a.length ≤ 65 → ∀ l ∈ a, l.length ≤ 1073741824 := fun _ l hl => Nat.le_trans (sa l hl) (by decide)
  have hcb : b.length ≤ 65 → ∀ l ∈ b, l.length ≤ 1073741824 := fun _ l hl => Nat.le_trans (sb l hl) (by decide)
  have hKa : ∀ q ∈ ratsOf a, RL 1 q := RL_short (fun l hl => Nat.le_trans (sa l hl) (by decide))
  have hKb : ∀ q ∈ ratsOf b, RL 1 q := RL_short (fun l hl => Nat.le_trans (sb l hl) (by decide))
  clear hs
  go_wp2_with fail
  ((with_reducible refine (valid_any a _ _ (hG.below hb) ha (by omega) hca).mono ?_))
  rintro e2 w2 ⟨rfl, hb2⟩
  replace ha := ha.below hb2
  replace hb' := hb'.below hb2
  replace hb := hb.trans (hb2.mono hb.size)
  cases hva : vl a with
  | false =>
   clear hva
   go_wp2_with fail
   ((with_reducible refine (awake_any _ (hG.below hb)).mono ?_))
   rintro e9 w9 ⟨rfl, hb9⟩
   go_wp2_with fail
   go_ret
   exact ⟨rfl, hb.trans (hb9.mono hb.size)⟩
  | true =>
   have HVA := Lib.hid hva
   clear hva
   go_wp2_with fail
   ((with_reducible refine (valid_any b _ _ (hG.below hb) hb' (by omega) hcb).mono ?_))
   rintro e3 w3 ⟨rfl, hb3⟩
   replace ha := ha.below hb3
   replace hb' := hb'.below hb3
   replace hb := hb.trans (hb3.mono hb.size)
   cases hvb : vl b with
   | false =>
    clear hvb
    go_wp2_with fail
    ((with_reducible refine (awake_any _ (hG.below hb)).mono ?_))
    rintro e9 w9 ⟨rfl, hb9⟩
    go_wp2_with fail
    go_ret
    exact ⟨rfl, hb.trans (hb9.mono hb.size)⟩
   | true =>
    have HVB := Lib.hid hvb
    clear hvb
    go_wp2_with fail
    ((with_reducible refine (extGcd_any a b _ _ _ (hG.below hb) ha hb' HVA.out HVB.out la lb sa sb).mono ?_))
    rintro e4 w4 ⟨vg, vs, vt, G, S, T, rfl, hg, hs, ht, hbz, hb4⟩
    replace ha := ha.below hb4
    replace hb' := hb'.below hb4
    replace hb := hb.trans (hb4.mono hb.size)
    rcases hbz with ⟨rfl, rfl, rfl, rfl, rfl⟩ | Z
    ·obtain ⟨Ag, cg, rfl, -⟩ := hg.form
     obtain ⟨As, cs, rfl, -⟩ := hs.form
     obtain ⟨At, ct, rfl, -⟩ := ht.form
     clear hg hs ht ha hb' sa sb hca hcb hKa hKb
     go_wp2_with fail
     ((with_reducible refine (awake_any _ (hG.below hb)).mono ?_))
     rintro e9 w9 ⟨rfl, hb9⟩
     go_wp2_with fail
     go_ret
     exact ⟨rfl, hb.trans (hb9.mono hb.size)⟩
    ·have lra := rats_len a
     have lrb := rats_len b
     have lG := Z.lg
     have lS := Z.ls
     have lT := Z.lt
     have hlen := Z.len
     have hG0 : G.length ≠ 0 := fun e => Z.ne (List.eq_nil_of_length_eq_zero e)
     have htxt := bez_one_txt Z.last Z.ne
     have hsum := bez_sum Z
     have vG := vl_txt (Q := G) (by omega) Z.tg
     have vS := vl_txt (Q := S) (by omega) Z.ts
     have vT := vl_txt (Q := T) (by omega) Z.tt
     have cS : ∀ l ∈ S.map ratTxt, l.length ≤ 1073741824 := fun l hl => by
      obtain ⟨q, hq', rfl⟩ := List.mem_map.1 hl
      exact Nat.le_trans (txt_len (Z.bs q hq')) (by decide)
     have cT : ∀ l ∈ T.map ratTxt, l.length ≤ 1073741824 := fun l hl => by
      obtain ⟨q, hq', rfl⟩ := List.mem_map.1 hl
      exact Nat.le_trans (txt_len (Z.bt q hq')) (by decide)
     have cG : ∀ l ∈ G.map ratTxt, l.length ≤ 1073741824 := fun l hl => by
      obtain ⟨q, hq', rfl⟩ := List.mem_map.1 hl
      exact Nat.le_trans (txt_len (Z.bg q hq')) (by decide)
     have l1 := timesR_le (Q := S) (B := ratsOf a)
     have l2 := timesR_le (Q := T) (B := ratsOf b)
     have b1 := bez_RL Z.bsa (by omega)
     have b2 := bez_RL Z.btb (by omega)
     have t1 := trimmed_trim (timesR S (ratsOf a))
     have t2 := trimmed_trim (timesR T (ratsOf b))
     obtain ⟨Ag, cg, rfl, hcg⟩ := hg.form
     obtain ⟨As, cs, rfl, hcs⟩ := hs.form
     obtain ⟨At, ct, rfl, hct⟩ := ht.form
     have hm1 := fun W (hG : Glob W) h1 h2 => (mul_poly (S.map ratTxt) a (.slice As (S.map ratTxt).length cs) (.slice A a.length c) W hG h1 h2 (by rw [List.length_map]; omega) (by omega) 2800000 (fun _ => cS) hca (fun _ => by rw [rats_txt]; exact Z.bs) (fun _ q hq => RL_mono (hKa q hq) (by decide)) (by decide)).mono (fun e w' h => show ∃ v', e = .returned (.tuple #[v', .int .i64 0]) ∧ StrsAt w' v' ((trimG isZ (timesR S (ratsOf a))).map ratTxt) ∧ Below W.heap.size W w' by
      unfold RetMul at h
      rw [if_pos ⟨vS, HVA.out⟩, rats_txt] at h
      obtain ⟨v', he, hs, hb⟩ := h
      rw [if_pos (by omega)] at he hs
      exact ⟨v', he, hs, hb⟩)
     have hm2 := fun W (hG : Glob W) h1 h2 => (mul_poly (T.map ratTxt) b (.slice At (T.map ratTxt).length ct) (.slice A' b.length c') W hG h1 h2 (by rw [List.length_map]; omega) (by omega) 2800000 (fun _ => cT) hcb (fun _ => by rw [rats_txt]; exact Z.bt) (fun _ q hq => RL_mono (hKb q hq) (by decide)) (by decide)).mono (fun e w' h => show ∃ v', e = .returned (.tuple #[v', .int .i64 0]) ∧ StrsAt w' v' ((trimG isZ (timesR T (ratsOf b))).map ratTxt) ∧ Below W.heap.size W w' by
      unfold RetMul at h
      rw [if_pos ⟨vT, HVB.out⟩, rats_txt] at h
      obtain ⟨v', he, hs, hb⟩ := h
      rw [if_pos (by omega)] at he hs
      exact ⟨v', he, hs, hb⟩)
     have hlt : ∀ {P : List Rat}, (∀ q ∈ P, RL 2800000 q) → ∀ l ∈ P.map ratTxt, l.length ≤ 1073741824 := fun h l hl => by
      obtain ⟨q, hq', rfl⟩ := List.mem_map.1 hl
      exact Nat.le_trans (txt_len (h q hq')) (by decide)
     have had := fun W (hG : Glob W) v u h1 h2 => (add_poly ((trimG isZ (timesR S (ratsOf a))).map ratTxt) ((trimG isZ (timesR T (ratsOf b))).map ratTxt) v u W hG h1 h2 (by rw [List.length_map]; omega) (by rw [List.length_map]; omega) 2800000 (fun _ => hlt b1) (fun _ => hlt b2) (fun _ => by rw [rats_txt]; exact b1) (fun _ => by rw [rats_txt]; exact b2) (by decide) (by decide) (vl_txt (by omega) t1) (vl_txt (by omega) t2) (by rw [rats_txt, rats_txt, hsum]; omega))
     simp only [rats_txt, hsum] at had
     have hd1 := fun W (hG : Glob W) h1 h2 => (quoRem_len a (G.map ratTxt) (.slice A a.length c) (.slice Ag (G.map ratTxt).length cg) W hG h1 h2 (by omega) (by rw [List.length_map]; omega) 43740 hca (fun _ => cG) (fun _ q hq => RL_mono (hKa q hq) (by decide)) (fun _ => by rw [rats_txt]; exact Z.bg) 7 3200000 9000000 (fun _ => la) (fun _ => by rw [List.length_map]; omega) (by decide) (by decide) (by decide) (by decide)).mono (fun e w' h => show ∃ v' u', e = .returned (.tuple #[v', u', .int .i64 0]) ∧ StrsAt w' u' [] ∧ Below W.heap.size W w' by
      obtain ⟨v, u, n, Q, R, rfl, -, hu, hb, -, -, hd⟩ := h
      obtain ⟨rfl, hD⟩ := hd HVA.out vG (fun e => Z.ne (List.map_eq_nil_iff.1 e))
      rw [rats_txt] at hD
      obtain rfl := bez_div hD Z.da Z.ne Z.tg
      exact ⟨v, u, rfl, hu, hb⟩)
     have hd2 := fun W (hG : Glob W) h1 h2 => (quoRem_len b (G.map ratTxt) (.slice A' b.length c') (.slice Ag (G.map ratTxt).length cg) W hG h1 h2 (by omega) (by rw [List.length_map]; omega) 43740 hcb (fun _ => cG) (fun _ q hq => RL_mono (hKb q hq) (by decide)) (fun _ => by rw [rats_txt]; exact Z.bg) 7 3200000 9000000 (fun _ => lb) (fun _ => by rw [List.length_map]; omega) (by decide) (by decide) (by decide) (by decide)).mono (fun e w' h => show ∃ v' u', e = .returned (.tuple #[v', u', .int .i64 0]) ∧ StrsAt w' u' [] ∧ Below W.heap.size W w' by
      obtain ⟨v, u, n, Q, R, rfl, -, hu, hb, -, -, hd⟩ := h
      obtain ⟨rfl, hD⟩ := hd HVB.out vG (fun e => Z.ne (List.map_eq_nil_iff.1 e))
      rw [rats_txt] at hD
      obtain rfl := bez_div hD Z.db Z.ne Z.tg
      exact ⟨v, u, rfl, hu, hb⟩)
     have hl7 : (G.map ratTxt).length ≤ 65 := by rw [List.length_map]; omega
     have hl8 : (S.map ratTxt).length ≤ 65 := by rw [List.length_map]; omega
     have hl9 : (T.map ratTxt).length ≤ 65 := by rw [List.length_map]; omega
     have htx' : (G.map ratTxt)[(G.map ratTxt).length - 1]? = some [49] := by rw [List.length_map]; exact htxt
     have hg1 : 0 < (G.map ratTxt).length := by rw [List.length_map]; omega
     have hfin : b.length = 0 ∨ (S.map ratTxt).length + (G.map ratTxt).length ≤ b.length := by
      rw [List.length_map, List.length_map]
      rcases hlen with h | h
      ·left; rw [← lrb, h]; rfl
      ·right; omega
     have HFIN := Lib.hid hfin
     generalize (trimG isZ (timesR S (ratsOf a))).map ratTxt = TP1 at *
     generalize (trimG isZ (timesR T (ratsOf b))).map ratTxt = TP2 at *
     generalize G.map ratTxt = TG at *
     generalize S.map ratTxt = TS at *
     generalize T.map ratTxt = TT at *
     clear hfin Z lra lrb lG lS lT hlen hG0 htxt hsum vG vS vT cS cT cG l1 l2 b1 b2 t1 t2 hlt hKa hKb hca hcb sa sb HVA HVB
     have q0 : ((TG.length : Int) == 0) = false := beq_eq_false_iff_ne.2 (by omega)
     obtain ⟨m, hm⟩ : ∃ m, TG.length = m + 1 := ⟨TG.length - 1, by omega⟩
     rw [hm, Nat.add_sub_cancel] at htx'
     have e1 : (TG.length : Int) - 1 = (m : Int) := by omega
     have i0 : (0 : Int) ≤ (m : Int) := by omega
     have i1 : (m : Int) < (TG.length : Int) := by omega
     obtain ⟨bg, og, rfl, -, -⟩ := hg.at_ htx'
     have HTX := Lib.hid htx'
     clear hm htx' hg1
     go_wp2_with fail
     ((with_reducible refine (hm1 _ (hG.below hb) hs ha).mono ?_))
     rintro e5 w5 ⟨v5, rfl, h5, hb5⟩
     replace ha := ha.below hb5
     replace hb' := hb'.below hb5
     replace hg := hg.below hb5
     replace ht := ht.below hb5
     replace hb := hb.trans (hb5.mono hb.size)
     clear hm1 hs
     go_wp2_with fail
     ((with_reducible refine (hm2 _ (hG.below hb) ht hb').mono ?_))
     rintro e6 w6 ⟨v6, rfl, h6, hb6⟩
     replace ha := ha.below hb6
     replace hb' := hb'.below hb6
     replace hg := hg.below hb6
     replace h5 := h5.below hb6
     replace hb := hb.trans (hb6.mono hb.size)
     clear hm2 ht
     go_wp2_with fail
     ((with_reducible refine (had _ (hG.below hb) _ _ h5 h6).mono ?_))
     rintro e7 w7 ⟨v7, rfl, h7, hb7⟩
     replace ha := ha.below hb7
     replace hb' := hb'.below hb7
     replace hg := hg.below hb7
     replace hb := hb.trans (hb7.mono hb.size)
     clear had h5 h6
     go_wp2_with fail
     ((with_reducible refine (keepSame TG _ _ _ h7 hg (by omega)).mono ?_))
     rintro e8 w8 ⟨rfl, hb8⟩
     replace ha := ha.below hb8
     replace hb' := hb'.below hb8
     replace hg := hg.below hb8
     replace hb := hb.trans (hb8.mono hb.size)
     have q1 := hg.cellAt HTX.out
     go_wp2_with fail
     ((with_reducible refine (hd1 _ (hG.below hb) ha hg).mono ?_))
     rintro e10 w10 ⟨v10, u10, rfl, h10, hb10⟩
     obtain ⟨A10, c10, rfl, -⟩ := h10.form
     clear q1 h10 hd1 h7
     replace hb' := hb'.below hb10
     replace hg := hg.below hb10
     replace hb := hb.trans (hb10.mono hb.size)
     go_wp2_with fail
     ((with_reducible refine (hd2 _ (hG.below hb) hb' hg).mono ?_))
     rintro e11 w11 ⟨v11, u11, rfl, h11, hb11⟩
     obtain ⟨A11, c11, rfl, -⟩ := h11.form
     replace hb := hb.trans (hb11.mono hb.size)
     clear h11 hd2 hg hb'
     by_cases hbz : b.length = 0
     ·have qb : ((b.length : Int) == 0) = true := by rw [hbz]; rfl
      clear hbz
      go_wp2_with fail
      ((with_reducible refine (awake_any _ (hG.below hb)).mono ?_))
      rintro e9 w9 ⟨rfl, hb9⟩
      go_wp2_with fail
      go_ret
      exact ⟨rfl, hb.trans (hb9.mono hb.size)⟩
     ·have qb : ((b.length : Int) == 0) = false := beq_eq_false_iff_ne.2 (by omega)
      have hmx : (TS.length : Int) ≤ max ((b.length : Int) - (TG.length : Int)) 0 := by have := HFIN.out; omega
      clear hbz
      go_wp2_with fail
      ((with_reducible refine (awake_any _ (hG.below hb)).mono ?_))
      rintro e9 w9 ⟨rfl, hb9⟩
      go_wp2_with fail
      go_ret
      exact ⟨rfl, hb.trans (hb9.mono hb.size)⟩
end Go.Proofs.YtoimnlnaaklinaaGreatDoor
