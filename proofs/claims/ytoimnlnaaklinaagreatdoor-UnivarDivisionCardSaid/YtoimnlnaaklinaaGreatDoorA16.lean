/-
  Contracts of functions that the statement reaches, and plain laws: GcdD, Own, IntA, IntB, IntC, IntD, AccA.
-/
import Derived.Test.YtoimnlnaaklinaaGreatDoorA10
import Derived.Test.YtoimnlnaaklinaaGreatDoorA13
import Derived.Test.YtoimnlnaaklinaaGreatDoorA15
import Derived.Deep.RegionHeld3
import Derived.Deep.DeepCutAuto
set_option linter.unusedVariables false
set_option linter.unusedSimpArgs false
set_option maxHeartbeats 8000000
namespace Go.Proofs.YtoimnlnaaklinaaGreatDoor
open Go.RowKit Sos
def OwnN (w : World) (B : Nat) (v : Value) (zs : List Int) : Prop := w.ownsRow B 105 1 v zs.length (zs.map (Value.int .u64))
theorem OwnN.nil (w : World) (B : Nat) : OwnN w B (.slice none 0 0) [] := World.ownsRow_nil w B _ _
theorem OwnN.below {w w' : World} {B : Nat} {v : Value} {zs : List Int} (h : OwnN w B v zs) (hb : Below w.heap.size w w') : OwnN w' B v zs := by
 refine World.ownsRow.kept h (grownBy_of_below hb none) ?_
 cases v.ownBlock with
 | none => exact .inl rfl
 | some g => exact .inr (by simp)
theorem OwnN.lt {w : World} {B : Nat} {v : Value} {zs : List Int} (h : OwnN w B v zs) : ∀ g, v.ownBlock = some g → B ≤ g ∧ g < w.heap.size := World.ownsRow.lt h
theorem OwnN.at_ {w : World} {B : Nat} {v : Value} {zs : List Int} (h : OwnN w B v zs) (h0 : 0 < zs.length) :
  ∃ g cap, v = .slice (some ⟨g, 0, none⟩) zs.length cap ∧ B ≤ g ∧ zs.length ≤ cap ∧ cap ≤ maxLen ∧ Shape w g 105 cap ∧ Cells .u64 w g 0 zs := by
 rcases h.2 with ⟨_, e⟩ | ⟨g, cap, cur, rfl, hb, hh, hn, hm, hs, ht⟩
 ·omega
 ·refine ⟨g, cap, rfl, hb, hn, hm, ⟨cur, hh, by omega⟩, ?_⟩
  refine VC.cells (fun i u hu => ?_)
  rw [cell_of_row w g (0 + i) cur _ (0, 0) hh, Nat.zero_add, ← Array.getElem?_toList]
  rw [← ht, List.getElem?_take] at hu
  split at hu
  ·exact hu
  ·cases hu
theorem OwnN.of {w : World} {B g cap : Nat} {zs : List Int} (hs : Shape w g 105 cap) (hc : Cells .u64 w g 0 zs) (hB : B ≤ g) (hl : zs.length ≤ cap) (hm : cap ≤ maxLen) : OwnN w B (.slice (some ⟨g, 0, none⟩) zs.length cap) zs := by
 obtain ⟨cur, hh, hn⟩ := hs
 refine ⟨by simp, .inr ⟨g, cap, cur, rfl, hB, hh, hl, hm, by omega, ?_⟩⟩
 refine List.ext_getElem? fun i => ?_
 rw [Nat.mul_one, List.getElem?_take]
 by_cases hi : i < zs.length
 ·rw [if_pos hi]
  have := hc.vc i (.int .u64 zs[i]) (by simp [List.getElem?_eq_getElem hi])
  rw [cell_of_row w g (0 + i) cur _ (0, 0) hh, Nat.zero_add, ← Array.getElem?_toList] at this
  rw [this]; simp [List.getElem?_eq_getElem hi]
 ·rw [if_neg hi, List.getElem?_eq_none (by simp; omega)]
theorem OwnN.natAt {w : World} {B : Nat} {v : Value} {n : Nat} (h : OwnN w B v (dg n)) : NatAt w v n := by
 rcases Nat.eq_zero_or_pos (nl n) with h0 | h0
 ·have e := nl_eq_zero h0
  subst e
  rcases h.2 with ⟨rfl, _⟩ | ⟨g, cap, cur, rfl, hb, hh, hn, _⟩
  ·exact NatAt.nil _
  ·refine ⟨_, cap, rfl, hn, by rw [dg_zero]; exact Rd.nil, Old.mk (Array.getElem?_eq_some_iff.1 hh).1⟩
 ·obtain ⟨g, cap, rfl, hb, hl, hm, hs, hc⟩ := h.at_ (by rw [dg_len]; exact h0)
  exact ⟨_, cap, rfl, hl, Rd.mk hs.lt hc, Old.mk hs.lt⟩
theorem OwnN.base {w : World} {B B' : Nat} {v : Value} {zs : List Int} (h : OwnN w B v zs) (hB : B' ≤ B) : OwnN w B' v zs := by
 refine ⟨h.1, ?_⟩
 rcases h.2 with h' | ⟨g, cap, cur, hv, hb, h'⟩
 ·exact .inl h'
 ·exact .inr ⟨g, cap, cur, hv, Nat.le_trans hB hb, h'⟩
def RetOwnN (w : World) (zs : List Int) (e : Ending) (w' : World) : Prop := ∃ v, e = .returned v ∧ OwnN w' w.heap.size v zs ∧ Below w.heap.size w w'
theorem clone64_rowZ (A : Option Addr) (zs : List Int) (c : Nat) (w : World) (hs : Rd .u64 w A zs) (hl : zs.length * 8 ≤ 140737488355328) :
  Calls Tryz.prog 103 #[.slice A zs.length c] w (RetOwnN w zs) := by
 cases A with
 | none =>
  have h0 : zs = [] := by
   rcases hs with h | ⟨_, _, h, _⟩
   ·exact h
   ·cases h
  subst h0
  have hq : ∀ w : World, (binOp .eql 47 (.slice none 0 c) (.slice none 0 0)).run Tryz.prog w = .ok (.bool true) w := fun w => Lib.run_eql_slice_nil w _ 105 none 0 c 0 0 Tryz.underlying47
  go_enter Tryz.func103, Tryz.ntmps103
  go_wp2
  go_ret
  exact ⟨_, rfl, OwnN.nil _ _, Below.refl _ _⟩
 | some ad =>
  have hq : ∀ w : World, (binOp .eql 47 (.slice (some ad) zs.length c) (.slice none 0 0)).run Tryz.prog w = .ok (.bool false) w := fun w => Lib.run_eql_slice_nil w _ 105 (some ad) zs.length c 0 0 Tryz.underlying47
  go_enter Tryz.func103, Tryz.ntmps103
  have hsrc : Src (w.alloc (.cells #[] 105)) (some ad) (zs.map (Value.int .u64)) := (hs.below ((Below.refl _ _).alloc (Nat.le_refl _) _)).src
  have hown0 := ownsRow_empty w 105 1
  go_wp2_with (at_builtin; refine wpList_append rfl rfl 105 _ 1 8 Tryz.underlying47 info64 rfl (by decide) w.heap.size (.slice (some ⟨w.heap.size, 0, none⟩) 0 0) 0 [] rfl hown0 (zs.map (Value.int .u64)) rfl (by simp) hsrc (ints_oneCell _ _) (by omega) (by omega) (by simp) ?_; intro v1 w1 ho1 hg1 hat1)
  go_ret
  refine ⟨v1, rfl, by simpa [OwnN] using ho1, ?_⟩
  exact ((Below.refl w.heap.size w).alloc (Nat.le_refl _) _).grown hg1 (by simp) (by simp [Value.ownBlock])
theorem clone64_row (n : Nat) (v : Value) (w : World) (hv : NatAt w v n) (hl : nl n ≤ LIM) :
  Calls Tryz.prog 103 #[v] w (RetOwnN w (dg n)) := by
 unfold LIM at hl
 obtain ⟨A, c, rfl, hc, hs, _⟩ := hv
 exact clone64_rowZ A (dg n) c w hs (by rw [dg_len]; omega)
def GcdRel (w : World) (K G : Nat) (va vb : Value) (a b : Nat) (wr : World) : Prop := OwnN wr w.heap.size va (dg a) ∧ OwnN wr w.heap.size vb (dg b) ∧ (∀ g, va.ownBlock = some g → vb.ownBlock ≠ some g) ∧ b ≤ a ∧ nl a ≤ K ∧
 Hid (Nat.gcd a b = G) ∧ Below w.heap.size w wr
theorem nl_gcd_le {x y : Nat} (h : x ≤ y) : nl x ≤ nl y := nl_mono h
theorem leh_facts {a b u0 u1 v0 v1 na nb : Nat} {odd : Bool} (h : Leh a b u0 u1 v0 v1 odd na nb) : na < BN ^ nl a ∧ nb < BN ^ nl a ∧ na + nb ≤ a ∧ na ≤ b ∧ nb ≤ na ∧ Nat.gcd na nb = Nat.gcd a b ∧
  (na : Int) = sgo odd * ((v0 : Int) * b - u0 * a) ∧ (nb : Int) = sgo odd * ((u1 : Int) * a - v1 * b) := by
 have h1 := h.small
 have h2 := lt_pow_nl a
 exact ⟨by omega, by omega, h1.1, h1.2, h.hle, h.gcd.symm, h.hna, h.hnb⟩
set_option maxRecDepth 100000 in
theorem gcdWords_any (x y K : Nat) (vx vy : Value) (w : World) (hG : Glob w) (hx : NatAt w vx x) (hy : NatAt w vy y) (bx : nl x ≤ K) (bY : nl y ≤ K) (hK : 5 * K + 4 ≤ LIM) :
  Calls Tryz.prog 73 #[vx, vy] w (RetNat w [vx, vy] (Nat.gcd x y)) := by
 unfold LIM at hK
 have hcmp := compareWords_any x y vx vy w hx hy (by omega) (by omega)
 rcases Nat.lt_or_ge x y with hlt | hge
 ·have hcz : cmpI x y < 0 := by
   rcases cmpI_cases x y with h | h | h <;> omega
  have hge : x ≤ y := by omega
  generalize cmpI x y = cc at *
  go_enter Tryz.func73, Tryz.ntmps73
  go_wp2_with fail
  refine hcmp.mono ?_
  rintro e w0 ⟨rfl, hb0⟩
  have hx0 := hx.below hb0
  have hy0 := hy.below hb0
  by_cases hyz : x = 0
  ·subst hyz
   obtain ⟨B, d, rfl, hd, hry, hoy⟩ := id hx
   have q0 : ((nl 0 : Int) == 0) = true := by rw [nl_zero]; rfl
   go_wp2
   go_ret
   exact ⟨_, rfl, by rw [Nat.gcd_zero_left]; exact hy0, From.mem (by simp), hb0⟩
  ·have hn1 := nl_pos hyz
   obtain ⟨B, d, rfl, hd, hry, hoy⟩ := id hx
   have q0 : ((nl x : Int) == 0) = false := by simp; omega
   go_wp2_with fail
   ((with_reducible refine (clone64_row y _ _ hy0 (by unfold LIM; omega)).mono ?_))
   rintro e w1 ⟨va, rfl, hva, hb1⟩
   go_wp2_with fail
   ((with_reducible refine (clone64_row x _ _ (hx0.below hb1) (by unfold LIM; omega)).mono ?_))
   rintro e w2 ⟨vb, rfl, hvb, hb2⟩
   have hb02 := hb0.trans ((hb1.trans (hb2.mono hb1.size)).mono hb0.size)
   have HGe : Hid (Nat.gcd y x = Nat.gcd x y) := Nat.gcd_comm _ _
   have hrel0 : GcdRel w K (Nat.gcd x y) va vb y x w2 := by
    refine ⟨(hva.below hb2).base hb0.size, hvb.base (Nat.le_trans hb0.size hb1.size), ?_, hge, bY, HGe, hb02⟩
    intro g e1 e2
    have := (hva.lt g e1).2
    have := (hvb.lt g e2).1
    omega
   have HG0 := Lib.hid hG
   clear hva hvb hx hy hx0 hy0 hb0 hb1 hb2 hb02 hd hry hoy hyz hn1 hge hcmp hG HGe
   generalize hGG : Nat.gcd x y = G at *
   clear hGG
   generalize [Value.slice B (nl x) d, vy] = FS at *
   go_wp2_with fail
   go_loopg [5, 6] (y + x) (fun k p q wr => ∃ a b, Hid (a + b = k) ∧ GcdRel w K G p q a b wr)
   case atStart => exact ⟨y, x, rfl, hrel0⟩
   case round =>
    obtain ⟨a, b, HK, hva, hvb, hdis, hba, hna, HGC, hbel⟩ := hrel
    clear hrel0
    by_cases hb1 : nl b ≤ 1
    ·by_cases hb0 : b = 0
     ·subst hb0
      have hg0 := HGC.out
      rw [Nat.gcd_zero_right] at hg0
      have hN := hva.natAt
      have hf : From w FS u5 := by
       intro g hg hlt
       have := (hva.lt g hg).1
       omega
      subst hg0
      rcases hvb.2 with ⟨rfl, _⟩ | ⟨g, cap, cur, rfl, _⟩
      ·go_wp2_with fail
       go_ret
       exact ⟨_, rfl, hN, hf, hbel⟩
      ·rw [dg_len, nl_zero]
       go_wp2_with fail
       go_ret
       exact ⟨_, rfl, hN, hf, hbel⟩
     ·have hn1 : nl b = 1 := by have := nl_pos hb0; omega
      have hbB : b < BN := by have := lt_pow_nl b; rw [hn1, Nat.pow_one] at this; exact this
      have hNa : NatAt wr.drew u5 a := hva.natAt
      obtain ⟨gb, capb, rfl, hgB, hcb, hmb, hsb, hcl⟩ := hvb.at_ (by rw [dg_len]; omega)
      have g0 := hcl 0 (by rw [dg_len]; omega)
      rw [dg_one hb0 hbB] at g0
      simp only [Nat.zero_add, List.getD_cons_zero] at g0
      have hgl : gb < wr.drew.heap.size := hsb.lt
      rw [dg_len, hn1] at *
      obtain ⟨r, HR⟩ : ∃ r, Hid (a % b = r) := ⟨_, rfl⟩
      have hr : Hid (Nat.gcd b r = G) := by unfold Hid; rw [← HGC.out, ← HR.out, Nat.gcd_comm b, ← Nat.gcd_rec, Nat.gcd_comm]
      have hGr : Glob wr.drew := HG0.out.below (hbel.drew)
      have hrb : r < BN := by rw [← HR.out]; exact Nat.lt_trans (Nat.mod_lt _ (by omega)) hbB
      have hGB : Nat.gcd b r < BN := Nat.lt_of_le_of_lt (Nat.gcd_le_left _ (by omega)) hbB
      clear hcl hva hvb hsb hn1 hdis
      go_wp2_with fail
      go_region_held3 (fun w' => w'.cell? ⟨gb, 0, none⟩ = some (.int .u64 b)) (first | go_keep | (exact (hbf.cell (p := ⟨gb, 0, none⟩) (Nat.lt_of_lt_of_le hgl hbm.size)).trans ((hbm.cell (p := ⟨gb, 0, none⟩) hgl).trans g0)) | (exact (hbm.cell (p := ⟨gb, 0, none⟩) hgl).trans g0)) (first
       | (go_at_call 108; (with_reducible refine (remainderWord_any a b u5 _ hNa (by omega) hbB (by unfold LIM; omega)).mono ?_); rintro e' wm ⟨he, hbm⟩; rw [HR.out] at he; subst he)
       | (go_at_call 107; (with_reducible refine (gcdWord_any b r hbB hrb _ (hGr.below hbm)).mono ?_); rintro e' w' ⟨rfl, rfl⟩)
       | (go_at_call 74; (with_reducible refine (fromWord_any _ hGB _).mono ?_); rintro e' wf ⟨vf, rfl, hvf, hff, hbf⟩))
      go_wp2
      go_ret
      exact ⟨_, rfl, by rw [← hr.out]; exact hvf, hff.wk (Nat.le_trans hbel.size hbm.size), hbel.trans ((Below.trans (Below.trans (below_drewN (Below.refl _ _) 1) hbm) (hbf.mono hbm.size)).mono hbel.size)⟩
    ·have h2 : 2 ≤ nl b := by omega
     have hnab := nl_mono hba
     have hb0 : b ≠ 0 := by intro h; subst h; rw [nl_zero] at h2; omega
     have hNa := hva.natAt
     have hNb := hvb.natAt
     obtain ⟨gb, capb, rfl, hgB, hcb, hmb, hsb, hclb⟩ := hvb.at_ (by rw [dg_len]; omega)
     obtain ⟨ga, capa, rfl, hgA, hca, hma, hsa, hcla⟩ := hva.at_ (by rw [dg_len]; omega)
     have hne : ga ≠ gb := fun h => hdis ga rfl (by rw [h]; rfl)
     simp only [dg_len] at hcb hca hvb hva hNa hNb hdis ⊢
     go_wp2_with fail
     ((with_reducible refine (simulate_any a b _ _ _ hNa hNb hba h2 (by unfold LIM; omega)).mono ?_))
     rintro e w3 ⟨u0, u1, v0, v1, odd, rfl, bu0, bu1, bv0, bv1, hleh, hb3⟩
     have HLEH := Lib.hid hleh
     clear hleh hb1
     by_cases hv0 : v0 = 0
     ·subst hv0
      clear HLEH
      have hb4 := hb3.alloc hb3.size (.cells #[.int .u64 u0, .int .u64 u1, .int .u64 0, .int .u64 v1, .bool odd] 130)
      go_wp2_with fail
      ((with_reducible refine (divideWords_any a b _ _ _ (hNa.below hb4) (hNb.below hb4) hb0 (by unfold LIM; omega)).mono ?_))
      rintro e w5 ⟨vq, vr, rfl, hq, hr, fq, fr, hb5⟩
      have nr : nl (a % b) ≤ nl b := nl_mono (Nat.le_of_lt (Nat.mod_lt _ (by omega)))
      go_wp2_with fail
      ((with_reducible refine (clone64_row (a % b) _ _ hr (by unfold LIM; omega)).mono ?_))
      rintro e w6 ⟨vc, rfl, hvc, hb6⟩
      have hb46 := hb5.trans (hb6.mono hb5.size)
      have hbr6 := hb4.trans (hb46.mono hb4.size)
      have hlt : b + a % b < a + b := by have := Nat.mod_lt a (show 0 < b by omega); omega
      go_wp2
      go_roundg (b + a % b)
      case measure => have := HK.out; omega
      case rel =>
       refine ⟨b, a % b, rfl, hvb.below hbr6, hvc.base (Nat.le_trans hbel.size (Nat.le_trans hb4.size hb5.size)), ?_, Nat.le_of_lt (Nat.mod_lt _ (by omega)), by omega, ?_, hbel.trans (hbr6.mono hbel.size)⟩
       ·intro g e1 e2
        have k1 : g = gb := by simpa [Value.ownBlock] using e1.symm
        have k2 := (hvc.lt g e2).1
        have k3 := hsb.lt
        have k4 := hb4.size
        have k5 := hb5.size
        omega
       ·unfold Hid; rw [← HGC.out, Nat.gcd_comm b, ← Nat.gcd_rec, Nat.gcd_comm]
     ·obtain ⟨na, nb, hL⟩ := HLEH.out.resolve_left hv0
      have HF := Lib.hid (leh_facts hL)
      clear hL HLEH
      have q0 : ((v0 : Int) == 0) = false := by simp; omega
      go_wp2_with fail
      have hb4 := hb3.alloc hb3.size (.cells #[.int .u64 u0, .int .u64 u1, .int .u64 v0, .int .u64 v1, .bool odd] 130)
      have hblk4 := Blk.new w3 [.int .u64 u0, .int .u64 u1, .int .u64 v0, .int .u64 v1, .bool odd] 130
      have hwr3 := hb3.size
      go_loopg [6] (nl a - nl b) (fun k q wi => ∃ j, Hid (nl b + j + k = nl a) ∧ OwnN wi w.heap.size q (dg b ++ List.replicate j 0) ∧ q.ownBlock ≠ some ga ∧ q.ownBlock ≠ some w3.heap.size ∧ OwnN wi w.heap.size (.slice (some ⟨ga, 0, none⟩) (nl a) capa) (dg a) ∧ Blk wi w3.heap.size [.int .u64 u0, .int .u64 u1, .int .u64 v0, .int .u64 v1, .bool odd] ∧ Below w.heap.size w wi)
      case atStart =>
       refine ⟨0, by unfold Hid; omega, ?_, ?_, ?_, hva.below hb4, hblk4, hbel.trans (hb4.mono hbel.size)⟩
       ·simpa using hvb.below hb4
       ·simp [Value.ownBlock]; omega
       ·have := hsb.lt; simp [Value.ownBlock]; omega
      case round =>
       obtain ⟨j, HJ, hq, hqa, hqs, hva', hblk, hbi⟩ := hrel
       clear hb4 hblk4
       obtain ⟨gq, capq, rfl, hgQ, hcq, hmq, hsq, hclq⟩ := hq.at_ (by rw [List.length_append, dg_len]; omega)
       have hll : (dg b ++ List.replicate j (0 : Int)).length = nl b + j := by rw [List.length_append, dg_len, List.length_replicate]
       rw [hll] at hcq
       simp only [hll]
       have HLL := Lib.hid hll
       clear hll
       cases gk with
       | zero =>
        have hja : nl b + j = nl a := by have := HJ.out; omega
        obtain ⟨g', c', e', -, -, -, hsa', hcla'⟩ := hva'.at_ (by rw [dg_len]; omega)
        simp only [Value.slice.injEq, Option.some.injEq, Addr.mk.injEq] at e'
        obtain ⟨⟨e1, -, -⟩, -, e2⟩ := e'
        subst e1 e2
        rw [hja] at hcq
        simp only [hja]
        have HLL2 : Hid ((dg b ++ List.replicate j (0 : Int)).length = nl a) := by unfold Hid; rw [HLL.out, hja]
        clear hja HLL HJ
        have hqne : ga ≠ gq := fun h => hqa (by rw [h]; rfl)
        have hvq : val B64 (dg b ++ List.replicate j (0 : Int)) = b := by rw [val_append, val_replicate, val_dg]; simp
        have hiq : InR B64 (dg b ++ List.replicate j (0 : Int)) := (inR_dg b).append (InR.replicate B64_pos _)
        have HVQ := Lib.hid hvq
        clear hvq
        generalize dg b ++ List.replicate j (0 : Int) = ys at *
        have c0 := hblk.cell (i := 0) rfl
        have c1 := hblk.cell (i := 1) rfl
        have c2 := hblk.cell (i := 2) rfl
        have c3 := hblk.cell (i := 3) rfl
        have c4 := hblk.cell (i := 4) rfl
        go_wp2_with fail
        ((with_reducible refine (apply_any w.heap.size ga gq (dg a) ys capa capq (nl a) u0 u1 v0 v1 odd na nb wr (dg_len a) HLL2.out hcla' hclq hsa'.soft hsq.soft hqne (by omega) (inR_dg a) hiq bu0 bu1 bv0 bv1 (by rw [HVQ.out, val_dg]; exact HF.out.2.2.2.2.2.2.1) (by rw [HVQ.out, val_dg]; exact HF.out.2.2.2.2.2.2.2) (by rw [← pow_cast]; exact Int.ofNat_lt.2 HF.out.1) (by rw [← pow_cast]; exact Int.ofNat_lt.2 HF.out.2.1) hbi.size hgA hgQ).mono ?_))
        rintro e w7 ⟨rfl, zs, ws, hzl, hwl, hzr, hwr, hvz, hvw, hcz, hcw, hsz, hsw, hb7, hshp⟩
        have hs1 := hshp _ _ _ hsa'
        have hs2 := hshp _ _ _ hsq
        have HZL := Lib.hid hzl; have HWL := Lib.hid hwl; have HVZ := Lib.hid hvz; have HVW := Lib.hid hvw
        clear hzl hwl hvz hvw hshp c0 c1 c2 c3 c4
        go_wp2_with fail
        ((with_reducible refine (trim_at _ zs (nl a) capa _ HZL.out (Rd.mk hs1.lt hcz) hca (by omega)).mono ?_))
        rintro e w8 ⟨rfl, rfl⟩
        go_wp2_with fail
        ((with_reducible refine (trim_at _ ws (nl a) capq _ HWL.out (Rd.mk hs2.lt hcw) hcq (by omega)).mono ?_))
        rintro e w8 ⟨rfl, rfl⟩
        have k1 := dg_trim hzr HVZ.out
        have k2 := dg_trim hwr HVW.out
        have t1 := (trimL_take zs).1
        have t2 := (trimL_take ws).1
        have r1 : Cells .u64 w7 ga 0 (dg na) := by rw [← k1, t1]; exact hcz.take _
        have r2 : Cells .u64 w7 gq 0 (dg nb) := by rw [← k2, t2]; exact hcw.take _
        have l1 : (dg na).length ≤ capa := by rw [← k1]; have := trimL_len zs; have := HZL.out; omega
        have l2 : (dg nb).length ≤ capq := by rw [← k2]; have := trimL_len ws; have := HWL.out; omega
        have o1 : OwnN w7 w.heap.size (.slice (some ⟨ga, 0, none⟩) (trimL zs).length capa) (dg na) := by rw [k1]; exact OwnN.of hs1 r1 hgA l1 hma
        have o2 : OwnN w7 w.heap.size (.slice (some ⟨gq, 0, none⟩) (trimL ws).length capq) (dg nb) := by rw [k2]; exact OwnN.of hs2 r2 hgQ l2 hmq
        clear k1 k2 t1 t2 r1 r2 l1 l2
        have hF := HF.out
        have hlt2 : na + nb < a + b := by omega
        have hna2 : nl na ≤ nl a := nl_mono (by omega)
        clear hF
        go_wp2
        go_roundg (na + nb)
        case measure => have := HK.out; omega
        case rel =>
         refine ⟨na, nb, rfl, o1, o2, ?_, HF.out.2.2.2.2.1, by omega, ?_, hbi.trans hb7⟩
         ·intro g e1 e2
          have k1 : ga = g := by simpa [Value.ownBlock] using e1
          have k2 : gq = g := by simpa [Value.ownBlock] using e2
          omega
         ·unfold Hid; rw [HF.out.2.2.2.2.2.1]; exact HGC.out
       | succ k =>
        have hja : nl b + j < nl a := by have := HJ.out; omega
        have hlt : ((nl b : Int) + j) < nl a := by omega
        have hq' : wr.ownsRow w.heap.size 105 1 (.slice (some ⟨gq, 0, none⟩) (nl b + j) capq) (nl b + j) ((dg b ++ List.replicate j (0 : Int)).map (Value.int .u64)) := by
         have := hq
         unfold OwnN at this
         rw [HLL.out] at this
         exact this
        have hga := (hva'.lt ga rfl).2
        have hsb3 := hblk.soft.lt
        have hwi := hbi.size
        have hsrc : Src (wr.alloc (.cells #[.int .u64 0] 105)) (some ⟨wr.heap.size, 0, none⟩) [Value.int .u64 0] := by
         refine .inr ⟨_, _, rfl, fun i v hv => ?_⟩
         match i, hv with
         | 0, hv => simp at hv; subst hv; simp [go_sem]
        go_wp2_with (at_builtin; refine wpList_append rfl rfl 105 _ 1 8 Tryz.underlying47 info64 rfl (by decide) w.heap.size (.slice (some ⟨gq, 0, none⟩) (nl b + j) capq) (nl b + j) _ rfl (hq'.alloc _) [Value.int .u64 0] rfl (by simp) hsrc (by simp [Value.oneCell']) (by omega) (by omega) (by simp; omega) ?_; intro q1 w1 ho1 hg1 hat1)
        go_wp2
        go_roundg k
        case measure => omega
        case rel =>
         have hne1 : ∀ g, g < wr.heap.size → (Value.slice (some ⟨gq, 0, none⟩) (nl b + j) capq).ownBlock ≠ some g → q1.ownBlock ≠ some g := by
          intro g hg hn e
          rcases hat1 with h | h
          ·rw [h] at e; exact hn e
          ·rw [h] at e; simp at e; omega
         refine ⟨j + 1, ?_, ?_, hne1 _ hga hqa, hne1 _ hsb3 hqs, ?_, ?_, ?_⟩
         ·have := HJ.out; unfold Hid; omega
         ·unfold OwnN
          have e : (dg b ++ List.replicate (j + 1) (0 : Int)).map (Value.int .u64) = (dg b ++ List.replicate j (0 : Int)).map (Value.int .u64) ++ [Value.int .u64 0] := by
           rw [List.replicate_succ', ← List.append_assoc, List.map_append]; rfl
          rw [e, List.length_append, dg_len, List.length_replicate, ← Nat.add_assoc]; exact ho1
         ·exact World.ownsRow.kept (World.ownsRow.alloc hva' _) hg1 (.inr (fun h => hqa h.symm))
         ·exact (hblk.alloc _).keep (hg1.block _ (by simp; omega) (fun h => hqs h.symm))
         ·exact (hbi.alloc hbi.size _).grown hg1 (by simp; omega) (fun g hg => by
           have : gq = g := by simpa [Value.ownBlock] using hg
           omega)
 ·have hcz : ¬ cmpI x y < 0 := by
   rcases cmpI_cases x y with h | h | h <;> omega
  generalize cmpI x y = cc at *
  go_enter Tryz.func73, Tryz.ntmps73
  go_wp2_with fail
  refine hcmp.mono ?_
  rintro e w0 ⟨rfl, hb0⟩
  have hx0 := hx.below hb0
  have hy0 := hy.below hb0
  by_cases hyz : y = 0
  ·subst hyz
   obtain ⟨B, d, rfl, hd, hry, hoy⟩ := id hy
   have q0 : ((nl 0 : Int) == 0) = true := by rw [nl_zero]; rfl
   go_wp2
   go_ret
   exact ⟨_, rfl, by rw [Nat.gcd_zero_right]; exact hx0, From.mem (by simp), hb0⟩
  ·have hn1 := nl_pos hyz
   obtain ⟨B, d, rfl, hd, hry, hoy⟩ := id hy
   have q0 : ((nl y : Int) == 0) = false := by simp; omega
   go_wp2_with fail
   ((with_reducible refine (clone64_row x _ _ hx0 (by unfold LIM; omega)).mono ?_))
   rintro e w1 ⟨va, rfl, hva, hb1⟩
   go_wp2_with fail
   ((with_reducible refine (clone64_row y _ _ (hy0.below hb1) (by unfold LIM; omega)).mono ?_))
   rintro e w2 ⟨vb, rfl, hvb, hb2⟩
   have hb02 := hb0.trans ((hb1.trans (hb2.mono hb1.size)).mono hb0.size)
   have HGe : Hid (Nat.gcd x y = Nat.gcd x y) := rfl
   have hrel0 : GcdRel w K (Nat.gcd x y) va vb x y w2 := by
    refine ⟨(hva.below hb2).base hb0.size, hvb.base (Nat.le_trans hb0.size hb1.size), ?_, hge, bx, HGe, hb02⟩
    intro g e1 e2
    have := (hva.lt g e1).2
    have := (hvb.lt g e2).1
    omega
   have HG0 := Lib.hid hG
   clear hva hvb hx hy hx0 hy0 hb0 hb1 hb2 hb02 hd hry hoy hyz hn1 hge hcmp hG HGe
   generalize hGG : Nat.gcd x y = G at *
   clear hGG
   generalize [vx, Value.slice B (nl y) d] = FS at *
   go_wp2_with fail
   go_loopg [5, 6] (x + y) (fun k p q wr => ∃ a b, Hid (a + b = k) ∧ GcdRel w K G p q a b wr)
   case atStart => exact ⟨x, y, rfl, hrel0⟩
   case round =>
    obtain ⟨a, b, HK, hva, hvb, hdis, hba, hna, HGC, hbel⟩ := hrel
    clear hrel0
    by_cases hb1 : nl b ≤ 1
    ·by_cases hb0 : b = 0
     ·subst hb0
      have hg0 := HGC.out
      rw [Nat.gcd_zero_right] at hg0
      have hN := hva.natAt
      have hf : From w FS u5 := by
       intro g hg hlt
       have := (hva.lt g hg).1
       omega
      subst hg0
      rcases hvb.2 with ⟨rfl, _⟩ | ⟨g, cap, cur, rfl, _⟩
      ·go_wp2_with fail
       go_ret
       exact ⟨_, rfl, hN, hf, hbel⟩
      ·rw [dg_len, nl_zero]
       go_wp2_with fail
       go_ret
       exact ⟨_, rfl, hN, hf, hbel⟩
     ·have hn1 : nl b = 1 := by have := nl_pos hb0; omega
      have hbB : b < BN := by have := lt_pow_nl b; rw [hn1, Nat.pow_one] at this; exact this
      have hNa : NatAt wr.drew u5 a := hva.natAt
      obtain ⟨gb, capb, rfl, hgB, hcb, hmb, hsb, hcl⟩ := hvb.at_ (by rw [dg_len]; omega)
      have g0 := hcl 0 (by rw [dg_len]; omega)
      rw [dg_one hb0 hbB] at g0
      simp only [Nat.zero_add, List.getD_cons_zero] at g0
      have hgl : gb < wr.drew.heap.size := hsb.lt
      rw [dg_len, hn1] at *
      obtain ⟨r, HR⟩ : ∃ r, Hid (a % b = r) := ⟨_, rfl⟩
      have hr : Hid (Nat.gcd b r = G) := by unfold Hid; rw [← HGC.out, ← HR.out, Nat.gcd_comm b, ← Nat.gcd_rec, Nat.gcd_comm]
      have hGr : Glob wr.drew := HG0.out.below (hbel.drew)
      have hrb : r < BN := by rw [← HR.out]; exact Nat.lt_trans (Nat.mod_lt _ (by omega)) hbB
      have hGB : Nat.gcd b r < BN := Nat.lt_of_le_of_lt (Nat.gcd_le_left _ (by omega)) hbB
      clear hcl hva hvb hsb hn1 hdis
      go_wp2_with fail
      go_region_held3 (fun w' => w'.cell? ⟨gb, 0, none⟩ = some (.int .u64 b)) (first | go_keep | (exact (hbf.cell (p := ⟨gb, 0, none⟩) (Nat.lt_of_lt_of_le hgl hbm.size)).trans ((hbm.cell (p := ⟨gb, 0, none⟩) hgl).trans g0)) | (exact (hbm.cell (p := ⟨gb, 0, none⟩) hgl).trans g0)) (first
       | (go_at_call 108; (with_reducible refine (remainderWord_any a b u5 _ hNa (by omega) hbB (by unfold LIM; omega)).mono ?_); rintro e' wm ⟨he, hbm⟩; rw [HR.out] at he; subst he)
       | (go_at_call 107; (with_reducible refine (gcdWord_any b r hbB hrb _ (hGr.below hbm)).mono ?_); rintro e' w' ⟨rfl, rfl⟩)
       | (go_at_call 74; (with_reducible refine (fromWord_any _ hGB _).mono ?_); rintro e' wf ⟨vf, rfl, hvf, hff, hbf⟩))
      go_wp2
      go_ret
      exact ⟨_, rfl, by rw [← hr.out]; exact hvf, hff.wk (Nat.le_trans hbel.size hbm.size), hbel.trans ((Below.trans (Below.trans (below_drewN (Below.refl _ _) 1) hbm) (hbf.mono hbm.size)).mono hbel.size)⟩
    ·have h2 : 2 ≤ nl b := by omega
     have hnab := nl_mono hba
     have hb0 : b ≠ 0 := by intro h; subst h; rw [nl_zero] at h2; omega
     have hNa := hva.natAt
     have hNb := hvb.natAt
     obtain ⟨gb, capb, rfl, hgB, hcb, hmb, hsb, hclb⟩ := hvb.at_ (by rw [dg_len]; omega)
     obtain ⟨ga, capa, rfl, hgA, hca, hma, hsa, hcla⟩ := hva.at_ (by rw [dg_len]; omega)
     have hne : ga ≠ gb := fun h => hdis ga rfl (by rw [h]; rfl)
     simp only [dg_len] at hcb hca hvb hva hNa hNb hdis ⊢
     go_wp2_with fail
     ((with_reducible refine (simulate_any a b _ _ _ hNa hNb hba h2 (by unfold LIM; omega)).mono ?_))
     rintro e w3 ⟨u0, u1, v0, v1, odd, rfl, bu0, bu1, bv0, bv1, hleh, hb3⟩
     have HLEH := Lib.hid hleh
     clear hleh hb1
     by_cases hv0 : v0 = 0
     ·subst hv0
      clear HLEH
      have hb4 := hb3.alloc hb3.size (.cells #[.int .u64 u0, .int .u64 u1, .int .u64 0, .int .u64 v1, .bool odd] 130)
      go_wp2_with fail
      ((with_reducible refine (divideWords_any a b _ _ _ (hNa.below hb4) (hNb.below hb4) hb0 (by unfold LIM; omega)).mono ?_))
      rintro e w5 ⟨vq, vr, rfl, hq, hr, fq, fr, hb5⟩
      have nr : nl (a % b) ≤ nl b := nl_mono (Nat.le_of_lt (Nat.mod_lt _ (by omega)))
      go_wp2_with fail
      ((with_reducible refine (clone64_row (a % b) _ _ hr (by unfold LIM; omega)).mono ?_))
      rintro e w6 ⟨vc, rfl, hvc, hb6⟩
      have hb46 := hb5.trans (hb6.mono hb5.size)
      have hbr6 := hb4.trans (hb46.mono hb4.size)
      have hlt : b + a % b < a + b := by have := Nat.mod_lt a (show 0 < b by omega); omega
      go_wp2
      go_roundg (b + a % b)
      case measure => have := HK.out; omega
      case rel =>
       refine ⟨b, a % b, rfl, hvb.below hbr6, hvc.base (Nat.le_trans hbel.size (Nat.le_trans hb4.size hb5.size)), ?_, Nat.le_of_lt (Nat.mod_lt _ (by omega)), by omega, ?_, hbel.trans (hbr6.mono hbel.size)⟩
       ·intro g e1 e2
        have k1 : g = gb := by simpa [Value.ownBlock] using e1.symm
        have k2 := (hvc.lt g e2).1
        have k3 := hsb.lt
        have k4 := hb4.size
        have k5 := hb5.size
        omega
       ·unfold Hid; rw [← HGC.out, Nat.gcd_comm b, ← Nat.gcd_rec, Nat.gcd_comm]
     ·obtain ⟨na, nb, hL⟩ := HLEH.out.resolve_left hv0
      have HF := Lib.hid (leh_facts hL)
      clear hL HLEH
      have q0 : ((v0 : Int) == 0) = false := by simp; omega
      go_wp2_with fail
      have hb4 := hb3.alloc hb3.size (.cells #[.int .u64 u0, .int .u64 u1, .int .u64 v0, .int .u64 v1, .bool odd] 130)
      have hblk4 := Blk.new w3 [.int .u64 u0, .int .u64 u1, .int .u64 v0, .int .u64 v1, .bool odd] 130
      have hwr3 := hb3.size
      go_loopg [6] (nl a - nl b) (fun k q wi => ∃ j, Hid (nl b + j + k = nl a) ∧ OwnN wi w.heap.size q (dg b ++ List.replicate j 0) ∧ q.ownBlock ≠ some ga ∧ q.ownBlock ≠ some w3.heap.size ∧ OwnN wi w.heap.size (.slice (some ⟨ga, 0, none⟩) (nl a) capa) (dg a) ∧ Blk wi w3.heap.size [.int .u64 u0, .int .u64 u1, .int .u64 v0, .int .u64 v1, .bool odd] ∧ Below w.heap.size w wi)
      case atStart =>
       refine ⟨0, by unfold Hid; omega, ?_, ?_, ?_, hva.below hb4, hblk4, hbel.trans (hb4.mono hbel.size)⟩
       ·simpa using hvb.below hb4
       ·simp [Value.ownBlock]; omega
       ·have := hsb.lt; simp [Value.ownBlock]; omega
      case round =>
       obtain ⟨j, HJ, hq, hqa, hqs, hva', hblk, hbi⟩ := hrel
       clear hb4 hblk4
       obtain ⟨gq, capq, rfl, hgQ, hcq, hmq, hsq, hclq⟩ := hq.at_ (by rw [List.length_append, dg_len]; omega)
       have hll : (dg b ++ List.replicate j (0 : Int)).length = nl b + j := by rw [List.length_append, dg_len, List.length_replicate]
       rw [hll] at hcq
       simp only [hll]
       have HLL := Lib.hid hll
       clear hll
       cases gk with
       | zero =>
        have hja : nl b + j = nl a := by have := HJ.out; omega
        obtain ⟨g', c', e', -, -, -, hsa', hcla'⟩ := hva'.at_ (by rw [dg_len]; omega)
        simp only [Value.slice.injEq, Option.some.injEq, Addr.mk.injEq] at e'
        obtain ⟨⟨e1, -, -⟩, -, e2⟩ := e'
        subst e1 e2
        rw [hja] at hcq
        simp only [hja]
        have HLL2 : Hid ((dg b ++ List.replicate j (0 : Int)).length = nl a) := by unfold Hid; rw [HLL.out, hja]
        clear hja HLL HJ
        have hqne : ga ≠ gq := fun h => hqa (by rw [h]; rfl)
        have hvq : val B64 (dg b ++ List.replicate j (0 : Int)) = b := by rw [val_append, val_replicate, val_dg]; simp
        have hiq : InR B64 (dg b ++ List.replicate j (0 : Int)) := (inR_dg b).append (InR.replicate B64_pos _)
        have HVQ := Lib.hid hvq
        clear hvq
        generalize dg b ++ List.replicate j (0 : Int) = ys at *
        have c0 := hblk.cell (i := 0) rfl
        have c1 := hblk.cell (i := 1) rfl
        have c2 := hblk.cell (i := 2) rfl
        have c3 := hblk.cell (i := 3) rfl
        have c4 := hblk.cell (i := 4) rfl
        go_wp2_with fail
        ((with_reducible refine (apply_any w.heap.size ga gq (dg a) ys capa capq (nl a) u0 u1 v0 v1 odd na nb wr (dg_len a) HLL2.out hcla' hclq hsa'.soft hsq.soft hqne (by omega) (inR_dg a) hiq bu0 bu1 bv0 bv1 (by rw [HVQ.out, val_dg]; exact HF.out.2.2.2.2.2.2.1) (by rw [HVQ.out, val_dg]; exact HF.out.2.2.2.2.2.2.2) (by rw [← pow_cast]; exact Int.ofNat_lt.2 HF.out.1) (by rw [← pow_cast]; exact Int.ofNat_lt.2 HF.out.2.1) hbi.size hgA hgQ).mono ?_))
        rintro e w7 ⟨rfl, zs, ws, hzl, hwl, hzr, hwr, hvz, hvw, hcz, hcw, hsz, hsw, hb7, hshp⟩
        have hs1 := hshp _ _ _ hsa'
        have hs2 := hshp _ _ _ hsq
        have HZL := Lib.hid hzl; have HWL := Lib.hid hwl; have HVZ := Lib.hid hvz; have HVW := Lib.hid hvw
        clear hzl hwl hvz hvw hshp c0 c1 c2 c3 c4
        go_wp2_with fail
        ((with_reducible refine (trim_at _ zs (nl a) capa _ HZL.out (Rd.mk hs1.lt hcz) hca (by omega)).mono ?_))
        rintro e w8 ⟨rfl, rfl⟩
        go_wp2_with fail
        ((with_reducible refine (trim_at _ ws (nl a) capq _ HWL.out (Rd.mk hs2.lt hcw) hcq (by omega)).mono ?_))
        rintro e w8 ⟨rfl, rfl⟩
        have k1 := dg_trim hzr HVZ.out
        have k2 := dg_trim hwr HVW.out
        have t1 := (trimL_take zs).1
        have t2 := (trimL_take ws).1
        have r1 : Cells .u64 w7 ga 0 (dg na) := by rw [← k1, t1]; exact hcz.take _
        have r2 : Cells .u64 w7 gq 0 (dg nb) := by rw [← k2, t2]; exact hcw.take _
        have l1 : (dg na).length ≤ capa := by rw [← k1]; have := trimL_len zs; have := HZL.out; omega
        have l2 : (dg nb).length ≤ capq := by rw [← k2]; have := trimL_len ws; have := HWL.out; omega
        have o1 : OwnN w7 w.heap.size (.slice (some ⟨ga, 0, none⟩) (trimL zs).length capa) (dg na) := by rw [k1]; exact OwnN.of hs1 r1 hgA l1 hma
        have o2 : OwnN w7 w.heap.size (.slice (some ⟨gq, 0, none⟩) (trimL ws).length capq) (dg nb) := by rw [k2]; exact OwnN.of hs2 r2 hgQ l2 hmq
        clear k1 k2 t1 t2 r1 r2 l1 l2
        have hF := HF.out
        have hlt2 : na + nb < a + b := by omega
        have hna2 : nl na ≤ nl a := nl_mono (by omega)
        clear hF
        go_wp2
        go_roundg (na + nb)
        case measure => have := HK.out; omega
        case rel =>
         refine ⟨na, nb, rfl, o1, o2, ?_, HF.out.2.2.2.2.1, by omega, ?_, hbi.trans hb7⟩
         ·intro g e1 e2
          have k1 : ga = g := by simpa [Value.ownBlock] using e1
          have k2 : gq = g := by simpa [Value.ownBlock] using e2
          omega
         ·unfold Hid; rw [HF.out.2.2.2.2.2.1]; exact HGC.out
       | succ k =>
        have hja : nl b + j < nl a := by have := HJ.out; omega
        have hlt : ((nl b : Int) + j) < nl a := by omega
        have hq' : wr.ownsRow w.heap.size 105 1 (.slice (some ⟨gq, 0, none⟩) (nl b + j) capq) (nl b + j) ((dg b ++ List.replicate j (0 : Int)).map (Value.int .u64)) := by
         have := hq
         unfold OwnN at this
         rw [HLL.out] at this
         exact this
        have hga := (hva'.lt ga rfl).2
        have hsb3 := hblk.soft.lt
        have hwi := hbi.size
        have hsrc : Src (wr.alloc (.cells #[.int .u64 0] 105)) (some ⟨wr.heap.size, 0, none⟩) [Value.int .u64 0] := by
         refine .inr ⟨_, _, rfl, fun i v hv => ?_⟩
         match i, hv with
         | 0, hv => simp at hv; subst hv; simp [go_sem]
        go_wp2_with (at_builtin; refine wpList_append rfl rfl 105 _ 1 8 Tryz.underlying47 info64 rfl (by decide) w.heap.size (.slice (some ⟨gq, 0, none⟩) (nl b + j) capq) (nl b + j) _ rfl (hq'.alloc _) [Value.int .u64 0] rfl (by simp) hsrc (by simp [Value.oneCell']) (by omega) (by omega) (by simp; omega) ?_; intro q1 w1 ho1 hg1 hat1)
        go_wp2
        go_roundg k
        case measure => omega
        case rel =>
         have hne1 : ∀ g, g < wr.heap.size → (Value.slice (some ⟨gq, 0, none⟩) (nl b + j) capq).ownBlock ≠ some g → q1.ownBlock ≠ some g := by
          intro g hg hn e
          rcases hat1 with h | h
          ·rw [h] at e; exact hn e
          ·rw [h] at e; simp at e; omega
         refine ⟨j + 1, ?_, ?_, hne1 _ hga hqa, hne1 _ hsb3 hqs, ?_, ?_, ?_⟩
         ·have := HJ.out; unfold Hid; omega
         ·unfold OwnN
          have e : (dg b ++ List.replicate (j + 1) (0 : Int)).map (Value.int .u64) = (dg b ++ List.replicate j (0 : Int)).map (Value.int .u64) ++ [Value.int .u64 0] := by
           rw [List.replicate_succ', ← List.append_assoc, List.map_append]; rfl
          rw [e, List.length_append, dg_len, List.length_replicate, ← Nat.add_assoc]; exact ho1
         ·exact World.ownsRow.kept (World.ownsRow.alloc hva' _) hg1 (.inr (fun h => hqa h.symm))
         ·exact (hblk.alloc _).keep (hg1.block _ (by simp; omega) (fun h => hqs h.symm))
         ·exact (hbi.alloc hbi.size _).grown hg1 (by simp; omega) (fun g hg => by
           have : gq = g := by simpa [Value.ownBlock] using hg
           omega)
theorem OwnN.slice {w : World} {B : Nat} {v : Value} {zs : List Int} (h : OwnN w B v zs) : ∃ A c, v = .slice A zs.length c := by
 rcases h.2 with ⟨rfl, e⟩ | ⟨g, cap, cur, rfl, _⟩
 ·exact ⟨none, 0, by rw [e]⟩
 ·exact ⟨_, cap, rfl⟩
theorem OwnN.parts {w : World} {B n c : Nat} {A : Option Addr} {zs : List Int} (h : OwnN w B (.slice A n c) zs) (h0 : 0 < zs.length) :
  ∃ g, A = some ⟨g, 0, none⟩ ∧ B ≤ g ∧ n ≤ c ∧ c ≤ maxLen ∧ Shape w g 105 c ∧ Cells .u64 w g 0 zs := by
 obtain ⟨g, cap, e, h1, h2, h3, h4, h5⟩ := h.at_ h0
 simp only [Value.slice.injEq] at e
 obtain ⟨e1, e2, e3⟩ := e
 subst e3
 exact ⟨g, e1, h1, by omega, h3, h4, h5⟩
theorem OwnN.set {w : World} {B g n c : Nat} {zs : List Int} (h : OwnN w B (.slice (some ⟨g, 0, none⟩) n c) zs) {k : Nat} (hk : k < zs.length) (d : Int) : OwnN (w.setCell ⟨g, k, none⟩ (.int .u64 d)) B (.slice (some ⟨g, 0, none⟩) n c) (zs.set k d) := by
 obtain ⟨g', c', e, h1, h2, h3, h4, h5⟩ := h.at_ (by omega)
 simp only [Value.slice.injEq, Option.some.injEq, Addr.mk.injEq] at e
 obtain ⟨⟨e1, -, -⟩, e2, e3⟩ := e
 subst e1 e3
 have := OwnN.of (h4.set ⟨g, k, none⟩ (.int .u64 d)) (by have := h5.set hk d; rw [Nat.zero_add] at this; exact this) h1 (by simpa using h2) h3
 rw [List.length_set, ← e2] at this
 exact this
theorem NatAt.grown {w w' : World} {v : Value} {n : Nat} {row : Option Nat} (h : NatAt w v n) (hg : w.grownBy w' row) (hne : ∀ g, row = some g → v.ownBlock ≠ some g) : NatAt w' v n := by
 obtain ⟨A, c, rfl, hc, hr, ho⟩ := h
 refine ⟨A, c, rfl, hc, hr.grown hg (.inr ?_), ho.mono hg.size⟩
 rintro b off rfl e
 exact hne b e.symm rfl
theorem NatAt.block {w : World} {v : Value} {n : Nat} (h : NatAt w v n) {g : Nat} (e : v.ownBlock = some g) : g < w.heap.size := by
 obtain ⟨A, c, rfl, hc, hr, ho⟩ := h
 cases A with
 | none => simp [Value.ownBlock] at e
 | some a => have := ho a rfl; simp [Value.ownBlock] at e; omega
theorem src_one (w : World) (u : Value) (t : TypeId) : Src (w.alloc (.cells #[u] t)) (some ⟨w.heap.size, 0, none⟩) [u] := by
 refine .inr ⟨_, _, rfl, fun i v hv => ?_⟩
 match i, hv with
 | 0, hv => simp at hv; subst hv; simp [go_sem]
theorem src_one' (w : World) (u : Value) (t : TypeId) (g : Nat) (hg : w.heap.size = g) : Src (w.alloc (.cells #[u] t)) (some ⟨g, 0, none⟩) [u] := by subst hg; exact src_one w u t
def TxtTo (w : World) (tv : Value) (w' : World) (v : Value) : Prop := w.grownBy w' tv.ownBlock ∧ ∀ g, v.ownBlock = some g → tv.ownBlock = some g ∨ w.heap.size ≤ g
def Apart (a b : Value) : Prop := ∀ g, a.ownBlock = some g → b.ownBlock ≠ some g
theorem TxtTo.refl (w : World) (v : Value) : TxtTo w v w v := ⟨World.grownBy.refl w _, fun _ h => .inl h⟩
theorem TxtTo.trans {w w1 w2 : World} {a b c : Value} (h : TxtTo w a w1 b) (k : TxtTo w1 b w2 c) : TxtTo w a w2 c := by
 refine ⟨⟨k.1.os.trans h.1.os, k.1.tape.trans h.1.tape, k.1.output.trans h.1.output, Nat.le_trans h.1.size k.1.size, fun i hi hne => ?_⟩, fun g hg => ?_⟩
 ·refine (k.1.block i (Nat.lt_of_lt_of_le hi h.1.size) (fun e => ?_)).trans (h.1.block i hi hne)
  rcases h.2 i e.symm with h' | h'
  ·exact hne h'.symm
  ·omega
 ·rcases k.2 g hg with h' | h'
  ·exact h.2 g h'
  ·exact .inr (Nat.le_trans h.1.size h')
theorem TxtTo.below {w w1 : World} {a : Value} (hb : Below w.heap.size w w1) : TxtTo w a w1 a := ⟨grownBy_of_below hb _, fun _ h => .inl h⟩
theorem TxtTo.belowB {w w' : World} {B : Nat} {a b : Value} (h : TxtTo w a w' b) (hB : B ≤ w.heap.size) (ha : ∀ g, a.ownBlock = some g → B ≤ g) : Below B w w' :=
 ⟨h.1.os, h.1.tape, h.1.output, h.1.size, fun k hk => h.1.block k (by omega) (fun e => by have := ha k e.symm; omega)⟩
theorem NatAt.txt {w w' : World} {v a b : Value} {n : Nat} (h : NatAt w v n) (ht : TxtTo w a w' b) (hne : Apart a v) : NatAt w' v n := h.grown ht.1 hne
theorem TxtTo.apart {w w' : World} {a b v : Value} (h : TxtTo w a w' b) (hne : Apart a v) (hv : ∀ g, v.ownBlock = some g → g < w.heap.size) : Apart b v := by
 intro g hg e
 rcases h.2 g hg with h' | h'
 ·exact hne g h' e
 ·have := hv g e; omega
theorem TxtTo.step {w w1 w2 : World} {a b : Value} {g : Nat} (h : TxtTo w a w1 b) (hg : w1.grownBy w2 (some g)) (hl : w.heap.size ≤ g) : TxtTo w a w2 b :=
 ⟨⟨hg.os.trans h.1.os, hg.tape.trans h.1.tape, hg.output.trans h.1.output, Nat.le_trans h.1.size hg.size, fun i hi hne => (hg.block i (Nat.lt_of_lt_of_le hi h.1.size) (fun e => by injection e; omega)).trans (h.1.block i hi hne)⟩, h.2⟩
theorem Shape.grown {w w' : World} {g n : Nat} {t : TypeId} {row : Option Nat} (h : Shape w g t n) (hg : w.grownBy w' row) (hne : row ≠ some g) : Shape w' g t n := h.keep (hg.block g h.lt (fun e => hne e.symm))
theorem VC.grown {w w' : World} {g off : Nat} {cs : List Value} {row : Option Nat} (h : VC w g off cs) (hg : w.grownBy w' row) (hlt : g < w.heap.size) (hne : row ≠ some g) : VC w' g off cs := h.keep (hg.block g hlt (fun e => hne e.symm))
theorem OwnN.grown {w w' : World} {B : Nat} {v : Value} {zs : List Int} {row : Option Nat} (h : OwnN w B v zs) (hg : w.grownBy w' row) (hne : ∀ g, row = some g → v.ownBlock ≠ some g) : OwnN w' B v zs := by
 refine World.ownsRow.kept h hg ?_
 cases hv : v.ownBlock with
 | none => exact .inl rfl
 | some a => exact .inr (fun e => hne a e.symm hv)
def IntAt (w : World) (v : Value) (n : Int) : Prop := ∃ u, v = .agg #[.bool (decide (n < 0)), u] ∧ NatAt w u n.natAbs
def RetInt (w : World) (n : Int) (e : Ending) (w' : World) : Prop := ∃ v, e = .returned v ∧ IntAt w' v n ∧ Below w.heap.size w w'
theorem IntAt.below {w w' : World} {v : Value} {n : Int} (h : IntAt w v n) (hb : Below w.heap.size w w') : IntAt w' v n := by
 obtain ⟨u, hv, hu⟩ := h
 exact ⟨u, hv, hu.below hb⟩
theorem signed_any (neg : Bool) (u : Value) (m : Nat) (n : Int) (w : World) (hu : NatAt w u m) (hm : nl m ≤ 17592186044416) (hn : n = if neg then -(m : Int) else m) :
  Calls Tryz.prog 59 #[.bool neg, u] w fun e w' => e = .returned (.agg #[.bool (decide (n < 0)), u]) ∧ Below w.heap.size w w' := by
 obtain ⟨A, c, rfl, hc, hr, ho⟩ := hu
 cases neg with
 | false =>
  have hd : decide (n < 0) = false := by simp at hn; simp; omega
  rw [hd]
  clear hd hn
  go_enter Tryz.func59, Tryz.ntmps59
  go_wp2
  exact bodyPost_ret (v := .agg #[.bool false, .slice A (nl m) c]) (by simp [results, Tryz.results59, go_sem]) rfl ⟨rfl, (Below.refl _ _).alloc (Nat.le_refl _) _⟩
 | true =>
  by_cases h0 : m = 0
  ·have hd : decide (n < 0) = false := by subst h0; simp at hn; simp; omega
   have hq : ¬ 0 < nl m := by rw [h0, nl_zero]; omega
   have hq2 : ¬ (0 : Int) < (nl m : Int) := by omega
   rw [hd]
   clear hd hn h0
   go_enter Tryz.func59, Tryz.ntmps59
   go_wp2
   exact bodyPost_ret (v := .agg #[.bool false, .slice A (nl m) c]) (by simp [results, Tryz.results59, go_sem, hq]) rfl ⟨rfl, (Below.refl _ _).alloc (Nat.le_refl _) _⟩
  ·have hd : decide (n < 0) = true := by simp at hn; simp; omega
   have hq : 0 < nl m := nl_pos h0
   have hq2 : (0 : Int) < (nl m : Int) := by omega
   rw [hd]
   clear hd hn h0
   go_enter Tryz.func59, Tryz.ntmps59
   go_wp2
   exact bodyPost_ret (v := .agg #[.bool true, .slice A (nl m) c]) (by simp [results, Tryz.results59, go_sem, hq]) rfl ⟨rfl, (Below.refl _ _).alloc (Nat.le_refl _) _⟩
theorem isZero_any (n : Int) (v : Value) (w : World) (hv : IntAt w v n) (hm : nl n.natAbs ≤ 17592186044416) :
  Calls Tryz.prog 63 #[v] w fun e w' => e = .returned (.bool (decide (n = 0))) ∧ Below w.heap.size w w' := by
 obtain ⟨u, rfl, A, c, rfl, hc, hr, ho⟩ := hv
 by_cases h0 : n = 0
 ·have q0 : ((nl n.natAbs : Int) == 0) = true := by rw [h0, show (0 : Int).natAbs = 0 from rfl, nl_zero]; rfl
  have hd : decide (n = 0) = true := by simpa using h0
  rw [hd]
  clear hd h0
  go_enter Tryz.func63, Tryz.ntmps63
  go_wp2
  go_ret
  exact ⟨rfl, (Below.refl _ _).alloc (Nat.le_refl _) _⟩
 ·have h1 := nl_pos (show n.natAbs ≠ 0 by omega)
  have q0 : ((nl n.natAbs : Int) == 0) = false := by simp; omega
  have hd : decide (n = 0) = false := by simpa using h0
  rw [hd]
  clear hd h0
  go_enter Tryz.func63, Tryz.ntmps63
  go_wp2
  go_ret
  exact ⟨rfl, (Below.refl _ _).alloc (Nat.le_refl _) _⟩
theorem cell_far (w : World) (b o' : Nat) (v : Value) (g o : Nat) (h : b ≠ g) : (w.setCell ⟨b, o', none⟩ v).cell? ⟨g, o, none⟩ = w.cell? ⟨g, o, none⟩ :=
 World.cell?_of_block (a := ⟨g, o, none⟩) (Below.heap_setCell w ⟨b, o', none⟩ v g (fun e => h e.symm))
theorem NatAt.set {w : World} {u : Value} {n b o : Nat} (h : NatAt w u n) (v : Value) (hne : u.ownBlock ≠ some b) : NatAt (w.setCell ⟨b, o, none⟩ v) u n :=
 h.grown (grownBy_setCell (w := w) ⟨b, o, none⟩ v) (fun g e => by injection e with e; subst e; exact hne)
theorem NatAt.ne {w : World} {u : Value} {n b : Nat} (h : NatAt w u n) (hb : w.heap.size ≤ b) : u.ownBlock ≠ some b := fun e => by
 have := h.block e
 omega
theorem stored2 {w : World} {b : Nat} {a c p q : Value} (h0 : w.cell? ⟨b, 0, none⟩ = some a) (h1 : w.cell? ⟨b, 1, none⟩ = some c) :
  ((w.setCell ⟨b, 0, none⟩ p).setCell ⟨b, 1, none⟩ q).cell? ⟨b, 0, none⟩ = some p ∧ ((w.setCell ⟨b, 0, none⟩ p).setCell ⟨b, 1, none⟩ q).cell? ⟨b, 1, none⟩ = some q := by
 constructor
 ·rw [World.cell?_setCell_other _ _ _ _ (by simp), World.cell?_setCell_same _ _ _ h0]
 ·exact World.cell?_setCell_same _ _ _ ((World.cell?_setCell_other _ _ _ _ (by simp)).trans h1)
theorem box_facts (w : World) (a b c d : Value) (t : TypeId) : let W := ((w.alloc (.cells #[a, b] t)).alloc (.cells #[c, d] t)).alloc (.cells #[.bool false, .slice none 0 0] t)
  W.cell? ⟨w.heap.size, 0, none⟩ = some a ∧ W.cell? ⟨w.heap.size, 1, none⟩ = some b ∧ W.cell? ⟨w.heap.size + 1, 0, none⟩ = some c ∧ W.cell? ⟨w.heap.size + 1, 1, none⟩ = some d ∧
  W.cell? ⟨w.heap.size + 1 + 1, 0, none⟩ = some (.bool false) ∧ W.cell? ⟨w.heap.size + 1 + 1, 1, none⟩ = some (.slice none 0 0) ∧ (∀ j, W.frozen? ⟨w.heap.size + 1 + 1, j, none⟩ = false) ∧ W.heap.size = w.heap.size + 3 ∧ Below w.heap.size w W := by
 refine ⟨by simp [go_sem], by simp [go_sem], by simp [go_sem], by simp [go_sem], by simp [go_sem], by simp [go_sem], fun j => by simp [go_sem], by simp, ?_⟩
 exact (((Below.refl _ _).alloc (Nat.le_refl _) _).alloc (by simp) _).alloc (by simp; omega) _
theorem natAbs_add_same {x y : Int} (h : decide (x < 0) = decide (y < 0)) : x + y = if decide (x < 0) then -((x.natAbs + y.natAbs : Nat) : Int) else ((x.natAbs + y.natAbs : Nat) : Int) := by
 by_cases hx : x < 0
 ·have hy : y < 0 := by simpa [hx] using h
  simp [hx]; omega
 ·have hy : ¬ y < 0 := by simpa [hx] using h
  simp [hx]; omega
set_option maxRecDepth 100000 in
theorem add_any (x y : Int) (vx vy : Value) (w : World) (hx : IntAt w vx x) (hy : IntAt w vy y) (bx : nl x.natAbs ≤ 17592186044414) (bY : nl y.natAbs ≤ 17592186044414) :
  Calls Tryz.prog 64 #[vx, vy] w (RetInt w (x + y)) := by
 obtain ⟨ux, rfl, hux⟩ := hx
 obtain ⟨uy, rfl, huy⟩ := hy
 obtain ⟨c0, c1, d0, d1, r0, r1, hfr, hsz, hb⟩ := box_facts w (.bool (decide (x < 0))) ux (.bool (decide (y < 0))) uy 49
 by_cases hs : decide (x < 0) = decide (y < 0)
 ·have hsum := natAbs_add_same hs
  have hsb : (decide (x < 0) == decide (y < 0)) = true := by simpa using hs
  have hnl := nl_add x.natAbs y.natAbs
  have hux1 := hux.below hb
  have huy1 := huy.below hb
  have HS := Lib.hid hsum
  generalize decide (x < 0) = sx at *
  generalize decide (y < 0) = sy at *
  have HSZ := Lib.hid hsz
  clear hsum hs hsz
  go_enter Tryz.func64, Tryz.ntmps64
  go_wp2_with fail
  generalize ((w.alloc (.cells #[.bool sx, ux] 49)).alloc (.cells #[.bool sy, uy] 49)).alloc (.cells #[.bool false, .slice none 0 0] 49) = W at *
  have l0 : w.heap.size < W.drew.heap.size := by have := HSZ.out; show w.heap.size < W.heap.size; omega
  have l1 : w.heap.size + 1 < W.drew.heap.size := by have := HSZ.out; show w.heap.size + 1 < W.heap.size; omega
  have l2 : w.heap.size + 1 + 1 < W.drew.heap.size := by have := HSZ.out; show w.heap.size + 1 + 1 < W.heap.size; omega
  go_region_held3 (fun w' => w'.cell? ⟨w.heap.size, 0, none⟩ = some (.bool sx) ∧ w'.cell? ⟨w.heap.size, 1, none⟩ = some ux ∧ w'.cell? ⟨w.heap.size + 1, 1, none⟩ = some uy)
   (first | (exact ⟨c0, c1, d1⟩)
          | (exact ⟨(hb4.cell (p := ⟨w.heap.size, 0, none⟩) l0).trans c0, (hb4.cell (p := ⟨w.heap.size, 1, none⟩) l0).trans c1, (hb4.cell (p := ⟨w.heap.size + 1, 1, none⟩) l1).trans d1⟩)
          | (exact ⟨(hb45.cell (p := ⟨w.heap.size, 0, none⟩) l0).trans c0, (hb45.cell (p := ⟨w.heap.size, 1, none⟩) l0).trans c1, (hb45.cell (p := ⟨w.heap.size + 1, 1, none⟩) l1).trans d1⟩)
          | ((exact ⟨(cell_far _ _ _ _ _ _ (show w.heap.size + 1 + 1 ≠ w.heap.size by omega)).trans ((cell_far _ _ _ _ _ _ (show w.heap.size + 1 + 1 ≠ w.heap.size by omega)).trans ((hb45.cell (p := ⟨w.heap.size, 0, none⟩) l0).trans c0)), (cell_far _ _ _ _ _ _ (show w.heap.size + 1 + 1 ≠ w.heap.size by omega)).trans ((cell_far _ _ _ _ _ _ (show w.heap.size + 1 + 1 ≠ w.heap.size by omega)).trans ((hb45.cell (p := ⟨w.heap.size, 1, none⟩) l0).trans c1)), (cell_far _ _ _ _ _ _ (show w.heap.size + 1 + 1 ≠ w.heap.size + 1 by omega)).trans ((cell_far _ _ _ _ _ _ (show w.heap.size + 1 + 1 ≠ w.heap.size + 1 by omega)).trans ((hb45.cell (p := ⟨w.heap.size + 1, 1, none⟩) l1).trans d1))⟩)))
   (first
    | (go_at_call 96; (with_reducible refine (addWords_any _ _ ux uy _ hux1.drew huy1.drew (by omega) (by omega)).mono ?_); rintro e4 w4 ⟨v4, rfl, hv4, hf4, hb4⟩; obtain ⟨A4, c4, rfl, hc4, hr4, ho4⟩ := id hv4)
    | (go_at_call 59; (with_reducible refine (signed_any sx _ _ (x + y) _ hv4 (by omega) HS.out).mono ?_); rintro e5 w5 ⟨rfl, hb5⟩; have hb45 := hb4.trans (hb5.mono hb4.size); have r0' := (hb45.cell (p := ⟨w.heap.size + 1 + 1, 0, none⟩) l2).trans r0; have r1' := (hb45.cell (p := ⟨w.heap.size + 1 + 1, 1, none⟩) l2).trans r1; have f0' := (hb45.frozen (p := ⟨w.heap.size + 1 + 1, 0, none⟩) l2).trans (hfr 0); have f1' := (hb45.frozen (p := ⟨w.heap.size + 1 + 1, 1, none⟩) l2).trans (hfr 1)))
  go_wp2_with fail
  have hst := stored2 (p := .bool (decide (x + y < 0))) (q := .slice A4 (nl (x.natAbs + y.natAbs)) c4) r0' r1'
  have hbw : Below w.heap.size w w5 := hb.drew.trans (hb45.mono hb.size)
  have hbz := (hbw.setCell (p := ⟨w.heap.size + 1 + 1, 0, none⟩) (by simp; omega) (.bool (decide (x + y < 0)))).setCell (p := ⟨w.heap.size + 1 + 1, 1, none⟩) (by simp; omega) (.slice A4 (nl (x.natAbs + y.natAbs)) c4)
  obtain ⟨z0, z1⟩ := hst
  have hna : (x + y).natAbs = x.natAbs + y.natAbs := by
   have := HS.out
   cases sx <;> simp at this <;> omega
  have hv6 : NatAt ((w5.setCell ⟨w.heap.size + 1 + 1, 0, none⟩ (.bool (decide (x + y < 0)))).setCell ⟨w.heap.size + 1 + 1, 1, none⟩ (.slice A4 (nl (x.natAbs + y.natAbs)) c4)) (.slice A4 (nl (x.natAbs + y.natAbs)) c4) (x.natAbs + y.natAbs) := by
   have hn4 := hf4.ne2 l2 (hux.ne (by omega)) (huy.ne (by omega))
   exact ((hv4.below hb5).set _ hn4).set _ hn4
  generalize (w5.setCell ⟨w.heap.size + 1 + 1, 0, none⟩ (.bool (decide (x + y < 0)))).setCell ⟨w.heap.size + 1 + 1, 1, none⟩ (.slice A4 (nl (x.natAbs + y.natAbs)) c4) = W6 at *
  exact bodyPost_ret (v := .agg #[.bool (decide (x + y < 0)), .slice A4 (nl (x.natAbs + y.natAbs)) c4]) (by simp [results, Tryz.results64, go_sem, z0, z1]) rfl ⟨_, rfl, ⟨_, rfl, by rw [hna]; exact hv6⟩, hbz⟩
 ·have hsb : (decide (x < 0) == decide (y < 0)) = false := by simpa using hs
  have hux1 := hux.below hb
  have huy1 := huy.below hb
  have hs2 : (x < 0 ∧ ¬ y < 0) ∨ (¬ x < 0 ∧ y < 0) := by
   by_cases h1 : x < 0 <;> by_cases h2 : y < 0 <;> simp [h1, h2] at hs ⊢
  have hcmp := fun W (h1 : NatAt W ux x.natAbs) (h2 : NatAt W uy y.natAbs) => compareWords_any x.natAbs y.natAbs ux uy W h1 h2 (by omega) (by omega)
  have hcc := cmpI_cases (x.natAbs : Int) (y.natAbs : Int)
  have hsx : (x + y = if decide (x < 0) then -((x.natAbs - y.natAbs : Nat) : Int) else ((x.natAbs - y.natAbs : Nat) : Int)) ∨ x.natAbs < y.natAbs := by
   by_cases h : x.natAbs < y.natAbs
   ·exact .inr h
   ·left; rcases hs2 with ⟨h1, h2⟩ | ⟨h1, h2⟩ <;> simp [h1] <;> omega
  have hsy : (x + y = if decide (y < 0) then -((y.natAbs - x.natAbs : Nat) : Int) else ((y.natAbs - x.natAbs : Nat) : Int)) ∨ y.natAbs ≤ x.natAbs := by
   by_cases h : y.natAbs ≤ x.natAbs
   ·exact .inr h
   ·left; rcases hs2 with ⟨h1, h2⟩ | ⟨h1, h2⟩ <;> simp [h2] <;> omega
  have HSX := Lib.hid hsx
  have HSY := Lib.hid hsy
  have HS2 := Lib.hid hs2
  have HSZ := Lib.hid hsz
  clear hsx hsy hs2 hs hsz
  by_cases hge : y.natAbs ≤ x.natAbs
  ·have hna : (x + y).natAbs = x.natAbs - y.natAbs := by rcases HS2.out with ⟨h1, h2⟩ | ⟨h1, h2⟩ <;> omega
   have HS := Lib.hid (HSX.out.resolve_right (by omega))
   have hc0 : 0 ≤ cmpI (x.natAbs : Int) (y.natAbs : Int) := by omega
   have hnl : nl (x.natAbs - y.natAbs) ≤ nl x.natAbs := nl_mono (Nat.sub_le _ _)
   generalize cmpI (x.natAbs : Int) (y.natAbs : Int) = cc at *
   generalize decide (x < 0) = sx at *
   generalize decide (y < 0) = sy at *
   clear hcc HSX HSY
   go_enter Tryz.func64, Tryz.ntmps64
   go_wp2_with fail
   generalize ((w.alloc (.cells #[.bool sx, ux] 49)).alloc (.cells #[.bool sy, uy] 49)).alloc (.cells #[.bool false, .slice none 0 0] 49) = W at *
   ((with_reducible refine (hcmp W hux1 huy1).mono ?_))
   rintro e w3 ⟨rfl, hb3⟩
   have hW := HSZ.out
   have c0 := (hb3.cell (p := ⟨w.heap.size, 0, none⟩) (by show w.heap.size < _; omega)).trans c0
   have c1 := (hb3.cell (p := ⟨w.heap.size, 1, none⟩) (by show w.heap.size < _; omega)).trans c1
   have d0 := (hb3.cell (p := ⟨w.heap.size + 1, 0, none⟩) (by show w.heap.size + 1 < _; omega)).trans d0
   have d1 := (hb3.cell (p := ⟨w.heap.size + 1, 1, none⟩) (by show w.heap.size + 1 < _; omega)).trans d1
   have r0 := (hb3.cell (p := ⟨w.heap.size + 1 + 1, 0, none⟩) (by show w.heap.size + 1 + 1 < _; omega)).trans r0
   have r1 := (hb3.cell (p := ⟨w.heap.size + 1 + 1, 1, none⟩) (by show w.heap.size + 1 + 1 < _; omega)).trans r1
   have hfr := fun j => (hb3.frozen (p := ⟨w.heap.size + 1 + 1, j, none⟩) (by show w.heap.size + 1 + 1 < _; omega)).trans (hfr j)
   have hux1 := hux1.below hb3
   have huy1 := huy1.below hb3
   have hb := hb.trans (hb3.mono hb.size)
   clear hW
   go_wp2_with fail
   have l0 : w.heap.size < w3.drew.heap.size := by have := HSZ.out; have := hb3.size; show w.heap.size < w3.heap.size; omega
   have l1 : w.heap.size + 1 < w3.drew.heap.size := by have := HSZ.out; have := hb3.size; show w.heap.size + 1 < w3.heap.size; omega
   have l2 : w.heap.size + 1 + 1 < w3.drew.heap.size := by have := HSZ.out; have := hb3.size; show w.heap.size + 1 + 1 < w3.heap.size; omega
   go_region_held3 (fun w' => w'.cell? ⟨w.heap.size, 0, none⟩ = some (.bool sx) ∧ w'.cell? ⟨w.heap.size, 1, none⟩ = some (ux) ∧ w'.cell? ⟨w.heap.size + 1, 1, none⟩ = some (uy))
    (first | (exact ⟨c0, c1, d1⟩)
           | (exact ⟨(hb4.cell (p := ⟨w.heap.size, 0, none⟩) l0).trans c0, (hb4.cell (p := ⟨w.heap.size, 1, none⟩) l0).trans c1, (hb4.cell (p := ⟨w.heap.size + 1, 1, none⟩) l1).trans d1⟩)
           | (exact ⟨(hb45.cell (p := ⟨w.heap.size, 0, none⟩) l0).trans c0, (hb45.cell (p := ⟨w.heap.size, 1, none⟩) l0).trans c1, (hb45.cell (p := ⟨w.heap.size + 1, 1, none⟩) l1).trans d1⟩)
           | (exact ⟨(cell_far _ _ _ _ _ _ (show w.heap.size + 1 + 1 ≠ w.heap.size by omega)).trans ((cell_far _ _ _ _ _ _ (show w.heap.size + 1 + 1 ≠ w.heap.size by omega)).trans ((hb45.cell (p := ⟨w.heap.size, 0, none⟩) l0).trans c0)), (cell_far _ _ _ _ _ _ (show w.heap.size + 1 + 1 ≠ w.heap.size by omega)).trans ((cell_far _ _ _ _ _ _ (show w.heap.size + 1 + 1 ≠ w.heap.size by omega)).trans ((hb45.cell (p := ⟨w.heap.size, 1, none⟩) l0).trans c1)), (cell_far _ _ _ _ _ _ (show w.heap.size + 1 + 1 ≠ w.heap.size + 1 by omega)).trans ((cell_far _ _ _ _ _ _ (show w.heap.size + 1 + 1 ≠ w.heap.size + 1 by omega)).trans ((hb45.cell (p := ⟨w.heap.size + 1, 1, none⟩) l1).trans d1))⟩))
    (first
     | (go_at_call 97; (with_reducible refine (subtractWords_any _ _ ux uy _ hux1.drew huy1.drew (by omega) hge).mono ?_); rintro e4 w4 ⟨v4, rfl, hv4, hf4, hb4⟩; obtain ⟨A4, c4, rfl, hc4, hr4, ho4⟩ := id hv4)
     | (go_at_call 59; (with_reducible refine (signed_any sx _ _ (x + y) _ hv4 (by omega) HS.out).mono ?_); rintro e5 w5 ⟨rfl, hb5⟩; have hb45 := hb4.trans (hb5.mono hb4.size); have r0' := (hb45.cell (p := ⟨w.heap.size + 1 + 1, 0, none⟩) l2).trans r0; have r1' := (hb45.cell (p := ⟨w.heap.size + 1 + 1, 1, none⟩) l2).trans r1; have f0' := (hb45.frozen (p := ⟨w.heap.size + 1 + 1, 0, none⟩) l2).trans (hfr 0); have f1' := (hb45.frozen (p := ⟨w.heap.size + 1 + 1, 1, none⟩) l2).trans (hfr 1)))
   go_wp2_with fail
   have hst := stored2 (p := .bool (decide (x + y < 0))) (q := .slice A4 (nl (x.natAbs - y.natAbs)) c4) r0' r1'
   have hbw : Below w.heap.size w w5 := hb.drew.trans (hb45.mono hb.size)
   have hbz := (hbw.setCell (p := ⟨w.heap.size + 1 + 1, 0, none⟩) (by simp; omega) (.bool (decide (x + y < 0)))).setCell (p := ⟨w.heap.size + 1 + 1, 1, none⟩) (by simp; omega) (.slice A4 (nl (x.natAbs - y.natAbs)) c4)
   obtain ⟨z0, z1⟩ := hst
   have hv6 : NatAt ((w5.setCell ⟨w.heap.size + 1 + 1, 0, none⟩ (.bool (decide (x + y < 0)))).setCell ⟨w.heap.size + 1 + 1, 1, none⟩ (.slice A4 (nl (x.natAbs - y.natAbs)) c4)) (.slice A4 (nl (x.natAbs - y.natAbs)) c4) (x.natAbs - y.natAbs) := by
    have hn4 := hf4.ne2 l2 (hux.ne (by omega)) (huy.ne (by omega))
    exact ((hv4.below hb5).set _ hn4).set _ hn4
   generalize (w5.setCell ⟨w.heap.size + 1 + 1, 0, none⟩ (.bool (decide (x + y < 0)))).setCell ⟨w.heap.size + 1 + 1, 1, none⟩ (.slice A4 (nl (x.natAbs - y.natAbs)) c4) = W6 at *
   exact bodyPost_ret (v := .agg #[.bool (decide (x + y < 0)), .slice A4 (nl (x.natAbs - y.natAbs)) c4]) (by simp [results, Tryz.results64, go_sem, z0, z1]) rfl ⟨_, rfl, ⟨_, rfl, by rw [hna]; exact hv6⟩, hbz⟩
  ·have hna : (x + y).natAbs = y.natAbs - x.natAbs := by rcases HS2.out with ⟨h1, h2⟩ | ⟨h1, h2⟩ <;> omega
   have HS := Lib.hid (HSY.out.resolve_right hge)
   have hc0 : ¬ 0 ≤ cmpI (x.natAbs : Int) (y.natAbs : Int) := by omega
   have hnl : nl (y.natAbs - x.natAbs) ≤ nl y.natAbs := nl_mono (Nat.sub_le _ _)
   generalize cmpI (x.natAbs : Int) (y.natAbs : Int) = cc at *
   generalize decide (x < 0) = sx at *
   generalize decide (y < 0) = sy at *
   clear hcc HSX HSY
   go_enter Tryz.func64, Tryz.ntmps64
   go_wp2_with fail
   generalize ((w.alloc (.cells #[.bool sx, ux] 49)).alloc (.cells #[.bool sy, uy] 49)).alloc (.cells #[.bool false, .slice none 0 0] 49) = W at *
   ((with_reducible refine (hcmp W hux1 huy1).mono ?_))
   rintro e w3 ⟨rfl, hb3⟩
   have hW := HSZ.out
   have c0 := (hb3.cell (p := ⟨w.heap.size, 0, none⟩) (by show w.heap.size < _; omega)).trans c0
   have c1 := (hb3.cell (p := ⟨w.heap.size, 1, none⟩) (by show w.heap.size < _; omega)).trans c1
   have d0 := (hb3.cell (p := ⟨w.heap.size + 1, 0, none⟩) (by show w.heap.size + 1 < _; omega)).trans d0
   have d1 := (hb3.cell (p := ⟨w.heap.size + 1, 1, none⟩) (by show w.heap.size + 1 < _; omega)).trans d1
   have r0 := (hb3.cell (p := ⟨w.heap.size + 1 + 1, 0, none⟩) (by show w.heap.size + 1 + 1 < _; omega)).trans r0
   have r1 := (hb3.cell (p := ⟨w.heap.size + 1 + 1, 1, none⟩) (by show w.heap.size + 1 + 1 < _; omega)).trans r1
   have hfr := fun j => (hb3.frozen (p := ⟨w.heap.size + 1 + 1, j, none⟩) (by show w.heap.size + 1 + 1 < _; omega)).trans (hfr j)
   have hux1 := hux1.below hb3
   have huy1 := huy1.below hb3
   have hb := hb.trans (hb3.mono hb.size)
   clear hW
   go_wp2_with fail
   have l0 : w.heap.size < w3.drew.heap.size := by have := HSZ.out; have := hb3.size; show w.heap.size < w3.heap.size; omega
   have l1 : w.heap.size + 1 < w3.drew.heap.size := by have := HSZ.out; have := hb3.size; show w.heap.size + 1 < w3.heap.size; omega
   have l2 : w.heap.size + 1 + 1 < w3.drew.heap.size := by have := HSZ.out; have := hb3.size; show w.heap.size + 1 + 1 < w3.heap.size; omega
   go_region_held3 (fun w' => w'.cell? ⟨w.heap.size + 1, 0, none⟩ = some (.bool sy) ∧ w'.cell? ⟨w.heap.size, 1, none⟩ = some (ux) ∧ w'.cell? ⟨w.heap.size + 1, 1, none⟩ = some (uy))
    (first | (exact ⟨d0, c1, d1⟩)
           | (exact ⟨(hb4.cell (p := ⟨w.heap.size + 1, 0, none⟩) l1).trans d0, (hb4.cell (p := ⟨w.heap.size, 1, none⟩) l0).trans c1, (hb4.cell (p := ⟨w.heap.size + 1, 1, none⟩) l1).trans d1⟩)
           | (exact ⟨(hb45.cell (p := ⟨w.heap.size + 1, 0, none⟩) l1).trans d0, (hb45.cell (p := ⟨w.heap.size, 1, none⟩) l0).trans c1, (hb45.cell (p := ⟨w.heap.size + 1, 1, none⟩) l1).trans d1⟩)
           | (exact ⟨(cell_far _ _ _ _ _ _ (show w.heap.size + 1 + 1 ≠ w.heap.size + 1 by omega)).trans ((cell_far _ _ _ _ _ _ (show w.heap.size + 1 + 1 ≠ w.heap.size + 1 by omega)).trans ((hb45.cell (p := ⟨w.heap.size + 1, 0, none⟩) l1).trans d0)), (cell_far _ _ _ _ _ _ (show w.heap.size + 1 + 1 ≠ w.heap.size by omega)).trans ((cell_far _ _ _ _ _ _ (show w.heap.size + 1 + 1 ≠ w.heap.size by omega)).trans ((hb45.cell (p := ⟨w.heap.size, 1, none⟩) l0).trans c1)), (cell_far _ _ _ _ _ _ (show w.heap.size + 1 + 1 ≠ w.heap.size + 1 by omega)).trans ((cell_far _ _ _ _ _ _ (show w.heap.size + 1 + 1 ≠ w.heap.size + 1 by omega)).trans ((hb45.cell (p := ⟨w.heap.size + 1, 1, none⟩) l1).trans d1))⟩))
    (first
     | (go_at_call 97; (with_reducible refine (subtractWords_any _ _ uy ux _ huy1.drew hux1.drew (by omega) (by omega)).mono ?_); rintro e4 w4 ⟨v4, rfl, hv4, hf4, hb4⟩; obtain ⟨A4, c4, rfl, hc4, hr4, ho4⟩ := id hv4)
     | (go_at_call 59; (with_reducible refine (signed_any sy _ _ (x + y) _ hv4 (by omega) HS.out).mono ?_); rintro e5 w5 ⟨rfl, hb5⟩; have hb45 := hb4.trans (hb5.mono hb4.size); have r0' := (hb45.cell (p := ⟨w.heap.size + 1 + 1, 0, none⟩) l2).trans r0; have r1' := (hb45.cell (p := ⟨w.heap.size + 1 + 1, 1, none⟩) l2).trans r1; have f0' := (hb45.frozen (p := ⟨w.heap.size + 1 + 1, 0, none⟩) l2).trans (hfr 0); have f1' := (hb45.frozen (p := ⟨w.heap.size + 1 + 1, 1, none⟩) l2).trans (hfr 1)))
   go_wp2_with fail
   have hst := stored2 (p := .bool (decide (x + y < 0))) (q := .slice A4 (nl (y.natAbs - x.natAbs)) c4) r0' r1'
   have hbw : Below w.heap.size w w5 := hb.drew.trans (hb45.mono hb.size)
   have hbz := (hbw.setCell (p := ⟨w.heap.size + 1 + 1, 0, none⟩) (by simp; omega) (.bool (decide (x + y < 0)))).setCell (p := ⟨w.heap.size + 1 + 1, 1, none⟩) (by simp; omega) (.slice A4 (nl (y.natAbs - x.natAbs)) c4)
   obtain ⟨z0, z1⟩ := hst
   have hv6 : NatAt ((w5.setCell ⟨w.heap.size + 1 + 1, 0, none⟩ (.bool (decide (x + y < 0)))).setCell ⟨w.heap.size + 1 + 1, 1, none⟩ (.slice A4 (nl (y.natAbs - x.natAbs)) c4)) (.slice A4 (nl (y.natAbs - x.natAbs)) c4) (y.natAbs - x.natAbs) := by
    have hn4 := hf4.ne2 l2 (huy.ne (by omega)) (hux.ne (by omega))
    exact ((hv4.below hb5).set _ hn4).set _ hn4
   generalize (w5.setCell ⟨w.heap.size + 1 + 1, 0, none⟩ (.bool (decide (x + y < 0)))).setCell ⟨w.heap.size + 1 + 1, 1, none⟩ (.slice A4 (nl (y.natAbs - x.natAbs)) c4) = W6 at *
   exact bodyPost_ret (v := .agg #[.bool (decide (x + y < 0)), .slice A4 (nl (y.natAbs - x.natAbs)) c4]) (by simp [results, Tryz.results64, go_sem, z0, z1]) rfl ⟨_, rfl, ⟨_, rfl, by rw [hna]; exact hv6⟩, hbz⟩
theorem mul_sign (x y : Int) : x * y = if (!(decide (x < 0) == decide (y < 0))) then -((x.natAbs * y.natAbs : Nat) : Int) else ((x.natAbs * y.natAbs : Nat) : Int) := by
 have h := Int.natAbs_mul x y
 rw [← h]
 by_cases h1 : x < 0 <;> by_cases h2 : y < 0
 ·have := Int.mul_nonneg_of_nonpos_of_nonpos (Int.le_of_lt h1) (Int.le_of_lt h2)
  simp [h1, h2]; omega
 ·have := Int.mul_nonpos_of_nonpos_of_nonneg (Int.le_of_lt h1) (Int.not_lt.1 h2)
  simp [h1, h2]; omega
 ·have := Int.mul_nonpos_of_nonneg_of_nonpos (Int.not_lt.1 h1) (Int.le_of_lt h2)
  simp [h1, h2]; omega
 ·have := Int.mul_nonneg (Int.not_lt.1 h1) (Int.not_lt.1 h2)
  simp [h1, h2]; omega
set_option maxRecDepth 100000 in
theorem mul_any (x y : Int) (vx vy : Value) (w : World) (hx : IntAt w vx x) (hy : IntAt w vy y) (hl : nl x.natAbs + nl y.natAbs ≤ 17592186044416) :
  Calls Tryz.prog 27 #[vx, vy] w (RetInt w (x * y)) := by
 obtain ⟨ux, rfl, hux⟩ := hx
 obtain ⟨uy, rfl, huy⟩ := hy
 obtain ⟨c0, c1, d0, d1, r0, r1, hfr, hsz, hb⟩ := box_facts w (.bool (decide (x < 0))) ux (.bool (decide (y < 0))) uy 49
 have hsum := mul_sign x y
 have hna := Int.natAbs_mul x y
 have hnl := nl_mul x.natAbs y.natAbs
 have hux1 := hux.below hb
 have huy1 := huy.below hb
 have HS := Lib.hid hsum
 have HNA := Lib.hid hna
 generalize decide (x < 0) = sx at *
 generalize decide (y < 0) = sy at *
 have HSZ := Lib.hid hsz
 clear hsum hsz hna
 go_enter Tryz.func27, Tryz.ntmps27
 go_wp2_with fail
 generalize ((w.alloc (.cells #[.bool sx, ux] 49)).alloc (.cells #[.bool sy, uy] 49)).alloc (.cells #[.bool false, .slice none 0 0] 49) = W at *
 have l0 : w.heap.size < W.drew.heap.size := by have := HSZ.out; show w.heap.size < W.heap.size; omega
 have l1 : w.heap.size + 1 < W.drew.heap.size := by have := HSZ.out; show w.heap.size + 1 < W.heap.size; omega
 have l2 : w.heap.size + 1 + 1 < W.drew.heap.size := by have := HSZ.out; show w.heap.size + 1 + 1 < W.heap.size; omega
 go_region_held3 (fun w' => w'.cell? ⟨w.heap.size, 0, none⟩ = some (.bool sx) ∧ w'.cell? ⟨w.heap.size + 1, 0, none⟩ = some (.bool sy) ∧ w'.cell? ⟨w.heap.size, 1, none⟩ = some (ux) ∧ w'.cell? ⟨w.heap.size + 1, 1, none⟩ = some (uy))
  (first | (exact ⟨c0, d0, c1, d1⟩)
         | (exact ⟨(hb4.cell (p := ⟨w.heap.size, 0, none⟩) l0).trans c0, (hb4.cell (p := ⟨w.heap.size + 1, 0, none⟩) l1).trans d0, (hb4.cell (p := ⟨w.heap.size, 1, none⟩) l0).trans c1, (hb4.cell (p := ⟨w.heap.size + 1, 1, none⟩) l1).trans d1⟩)
         | (exact ⟨(hb45.cell (p := ⟨w.heap.size, 0, none⟩) l0).trans c0, (hb45.cell (p := ⟨w.heap.size + 1, 0, none⟩) l1).trans d0, (hb45.cell (p := ⟨w.heap.size, 1, none⟩) l0).trans c1, (hb45.cell (p := ⟨w.heap.size + 1, 1, none⟩) l1).trans d1⟩)
         | (exact ⟨(cell_far _ _ _ _ _ _ (show w.heap.size + 1 + 1 ≠ w.heap.size by omega)).trans ((cell_far _ _ _ _ _ _ (show w.heap.size + 1 + 1 ≠ w.heap.size by omega)).trans ((hb45.cell (p := ⟨w.heap.size, 0, none⟩) l0).trans c0)), (cell_far _ _ _ _ _ _ (show w.heap.size + 1 + 1 ≠ w.heap.size + 1 by omega)).trans ((cell_far _ _ _ _ _ _ (show w.heap.size + 1 + 1 ≠ w.heap.size + 1 by omega)).trans ((hb45.cell (p := ⟨w.heap.size + 1, 0, none⟩) l1).trans d0)), (cell_far _ _ _ _ _ _ (show w.heap.size + 1 + 1 ≠ w.heap.size by omega)).trans ((cell_far _ _ _ _ _ _ (show w.heap.size + 1 + 1 ≠ w.heap.size by omega)).trans ((hb45.cell (p := ⟨w.heap.size, 1, none⟩) l0).trans c1)), (cell_far _ _ _ _ _ _ (show w.heap.size + 1 + 1 ≠ w.heap.size + 1 by omega)).trans ((cell_far _ _ _ _ _ _ (show w.heap.size + 1 + 1 ≠ w.heap.size + 1 by omega)).trans ((hb45.cell (p := ⟨w.heap.size + 1, 1, none⟩) l1).trans d1))⟩))
  (first
   | (go_at_call 60; (with_reducible refine (multiplyWords_any _ _ ux uy _ hux1.drew huy1.drew (by unfold LIM; omega)).mono ?_); rintro e4 w4 ⟨v4, rfl, hv4, hf4, hb4⟩; obtain ⟨A4, c4, rfl, hc4, hr4, ho4⟩ := id hv4)
   | (go_at_call 59; (with_reducible refine (signed_any (!(sx == sy)) _ _ (x * y) _ hv4 (by omega) HS.out).mono ?_); rintro e5 w5 ⟨rfl, hb5⟩; have hb45 := hb4.trans (hb5.mono hb4.size); have r0' := (hb45.cell (p := ⟨w.heap.size + 1 + 1, 0, none⟩) l2).trans r0; have r1' := (hb45.cell (p := ⟨w.heap.size + 1 + 1, 1, none⟩) l2).trans r1; have f0' := (hb45.frozen (p := ⟨w.heap.size + 1 + 1, 0, none⟩) l2).trans (hfr 0); have f1' := (hb45.frozen (p := ⟨w.heap.size + 1 + 1, 1, none⟩) l2).trans (hfr 1)))
 go_wp2_with fail
 have hst := stored2 (p := .bool (decide (x * y < 0))) (q := .slice A4 (nl (x.natAbs * y.natAbs)) c4) r0' r1'
 have hbw : Below w.heap.size w w5 := hb.drew.trans (hb45.mono hb.size)
 have hbz := (hbw.setCell (p := ⟨w.heap.size + 1 + 1, 0, none⟩) (by simp; omega) (.bool (decide (x * y < 0)))).setCell (p := ⟨w.heap.size + 1 + 1, 1, none⟩) (by simp; omega) (.slice A4 (nl (x.natAbs * y.natAbs)) c4)
 obtain ⟨z0, z1⟩ := hst
 have hv6 : NatAt ((w5.setCell ⟨w.heap.size + 1 + 1, 0, none⟩ (.bool (decide (x * y < 0)))).setCell ⟨w.heap.size + 1 + 1, 1, none⟩ (.slice A4 (nl (x.natAbs * y.natAbs)) c4)) (.slice A4 (nl (x.natAbs * y.natAbs)) c4) (x.natAbs * y.natAbs) := by
  have hn4 := hf4.ne2 l2 (hux.ne (by omega)) (huy.ne (by omega))
  exact ((hv4.below hb5).set _ hn4).set _ hn4
 generalize (w5.setCell ⟨w.heap.size + 1 + 1, 0, none⟩ (.bool (decide (x * y < 0)))).setCell ⟨w.heap.size + 1 + 1, 1, none⟩ (.slice A4 (nl (x.natAbs * y.natAbs)) c4) = W6 at *
 exact bodyPost_ret (v := .agg #[.bool (decide (x * y < 0)), .slice A4 (nl (x.natAbs * y.natAbs)) c4]) (by simp [results, Tryz.results27, go_sem, z0, z1]) rfl ⟨_, rfl, ⟨_, rfl, by rw [HNA.out]; exact hv6⟩, hbz⟩
theorem box1_facts (w : World) (a b : Value) (t : TypeId) : let W := (w.alloc (.cells #[a, b] t)).alloc (.cells #[.bool false, .slice none 0 0] t)
  W.cell? ⟨w.heap.size, 0, none⟩ = some a ∧ W.cell? ⟨w.heap.size, 1, none⟩ = some b ∧
  W.cell? ⟨w.heap.size + 1, 0, none⟩ = some (.bool false) ∧ W.cell? ⟨w.heap.size + 1, 1, none⟩ = some (.slice none 0 0) ∧ (∀ j, W.frozen? ⟨w.heap.size + 1, j, none⟩ = false) ∧ W.heap.size = w.heap.size + 2 ∧ Below w.heap.size w W := by
 refine ⟨by simp [go_sem], by simp [go_sem], by simp [go_sem], by simp [go_sem], fun j => by simp [go_sem], by simp, ?_⟩
 exact ((Below.refl _ _).alloc (Nat.le_refl _) _).alloc (by simp) _
theorem neg_any (x : Int) (vx : Value) (w : World) (hx : IntAt w vx x) (hl : nl x.natAbs ≤ 17592186044416) :
  Calls Tryz.prog 93 #[vx] w (RetInt w (-x)) := by
 obtain ⟨ux, rfl, hux⟩ := hx
 obtain ⟨c0, c1, r0, r1, hfr, hsz, hb⟩ := box1_facts w (.bool (decide (x < 0))) ux 49
 have hsum : -x = if (!(decide (x < 0))) then -((x.natAbs : Nat) : Int) else ((x.natAbs : Nat) : Int) := by
  by_cases h : x < 0 <;> simp [h] <;> omega
 have hna : (-x).natAbs = x.natAbs := Int.natAbs_neg x
 have hux1 := hux.below hb
 have HS := Lib.hid hsum
 have HNA := Lib.hid hna
 have HSZ := Lib.hid hsz
 obtain ⟨sn, HSN⟩ : ∃ sn, Hid (decide (-x < 0) = sn) := ⟨_, rfl⟩
 generalize decide (x < 0) = sx at *
 obtain ⟨A4, c4, rfl, hc4, hr4, ho4⟩ := id hux
 clear hsum hna hsz
 go_enter Tryz.func93, Tryz.ntmps93
 go_wp2_with fail
 generalize (w.alloc (.cells #[.bool sx, .slice A4 (nl x.natAbs) c4] 49)).alloc (.cells #[.bool false, .slice none 0 0] 49) = W at *
 ((with_reducible refine (signed_any (!sx) _ _ (-x) _ hux1 (by omega) HS.out).mono ?_))
 rintro e5 w5 ⟨he, hb5⟩
 rw [HSN.out] at he
 subst he
 have l2 : w.heap.size + 1 < W.heap.size := by have := HSZ.out; omega
 have r0' := (hb5.cell (p := ⟨w.heap.size + 1, 0, none⟩) l2).trans r0
 have r1' := (hb5.cell (p := ⟨w.heap.size + 1, 1, none⟩) l2).trans r1
 have f0' := (hb5.frozen (p := ⟨w.heap.size + 1, 0, none⟩) l2).trans (hfr 0)
 have f1' := (hb5.frozen (p := ⟨w.heap.size + 1, 1, none⟩) l2).trans (hfr 1)
 go_wp2_with fail
 have hst := stored2 (p := .bool sn) (q := .slice A4 (nl x.natAbs) c4) r0' r1'
 have hbw : Below w.heap.size w w5 := hb.trans (hb5.mono hb.size)
 have hbz := (hbw.setCell (p := ⟨w.heap.size + 1, 0, none⟩) (by simp) (.bool sn)).setCell (p := ⟨w.heap.size + 1, 1, none⟩) (by simp) (.slice A4 (nl x.natAbs) c4)
 obtain ⟨z0, z1⟩ := hst
 have hv6 := hux.below hbz
 generalize (w5.setCell ⟨w.heap.size + 1, 0, none⟩ (.bool sn)).setCell ⟨w.heap.size + 1, 1, none⟩ (.slice A4 (nl x.natAbs) c4) = W6 at *
 exact bodyPost_ret (v := .agg #[.bool sn, .slice A4 (nl x.natAbs) c4]) (by simp [results, Tryz.results93, go_sem, z0, z1]) rfl ⟨_, rfl, ⟨_, by rw [HSN.out], by rw [HNA.out]; exact hv6⟩, hbz⟩
theorem gcd_any (x y : Int) (vx vy : Value) (w : World) (hG : Glob w) (hx : IntAt w vx x) (hy : IntAt w vy y) (K : Nat) (bx : nl x.natAbs ≤ K) (bY : nl y.natAbs ≤ K) (hK : 5 * K + 4 ≤ LIM) :
  Calls Tryz.prog 41 #[vx, vy] w (RetInt w ((Nat.gcd x.natAbs y.natAbs : Nat) : Int)) := by
 obtain ⟨ux, rfl, hux⟩ := hx
 obtain ⟨uy, rfl, huy⟩ := hy
 obtain ⟨c0, c1, d0, d1, r0, r1, hfr, hsz, hb⟩ := box_facts w (.bool (decide (x < 0))) ux (.bool (decide (y < 0))) uy 49
 have hux1 := hux.below hb
 have huy1 := huy.below hb
 have hG1 := hG.below hb
 have HSZ := Lib.hid hsz
 generalize decide (x < 0) = sx at *
 generalize decide (y < 0) = sy at *
 clear hsz
 go_enter Tryz.func41, Tryz.ntmps41
 go_wp2_with fail
 generalize ((w.alloc (.cells #[.bool sx, ux] 49)).alloc (.cells #[.bool sy, uy] 49)).alloc (.cells #[.bool false, .slice none 0 0] 49) = W at *
 ((with_reducible refine (gcdWords_any _ _ K _ _ _ hG1 hux1 huy1 bx bY hK).mono ?_))
 rintro e4 w4 ⟨v4, rfl, hv4, hf4, hb4⟩
 obtain ⟨A4, c4, rfl, hc4, hr4, ho4⟩ := id hv4
 have l2 : w.heap.size + 1 + 1 < W.heap.size := by have := HSZ.out; omega
 have r0' := (hb4.cell (p := ⟨w.heap.size + 1 + 1, 0, none⟩) l2).trans r0
 have r1' := (hb4.cell (p := ⟨w.heap.size + 1 + 1, 1, none⟩) l2).trans r1
 have f0' := (hb4.frozen (p := ⟨w.heap.size + 1 + 1, 0, none⟩) l2).trans (hfr 0)
 have f1' := (hb4.frozen (p := ⟨w.heap.size + 1 + 1, 1, none⟩) l2).trans (hfr 1)
 generalize Nat.gcd x.natAbs y.natAbs = d at *
 go_wp2_with fail
 have hst := stored2 (p := .bool false) (q := .slice A4 (nl d) c4) r0' r1'
 have hbw : Below w.heap.size w w4 := hb.trans (hb4.mono hb.size)
 have hbz := (hbw.setCell (p := ⟨w.heap.size + 1 + 1, 0, none⟩) (by simp; omega) (.bool false)).setCell (p := ⟨w.heap.size + 1 + 1, 1, none⟩) (by simp; omega) (.slice A4 (nl d) c4)
 obtain ⟨z0, z1⟩ := hst
 have hn4 := hf4.ne2 l2 (hux.ne (by omega)) (huy.ne (by omega))
 have hv6 : NatAt ((w4.setCell ⟨w.heap.size + 1 + 1, 0, none⟩ (.bool false)).setCell ⟨w.heap.size + 1 + 1, 1, none⟩ (.slice A4 (nl d) c4)) (.slice A4 (nl d) c4) d := (hv4.set _ hn4).set _ hn4
 generalize (w4.setCell ⟨w.heap.size + 1 + 1, 0, none⟩ (.bool false)).setCell ⟨w.heap.size + 1 + 1, 1, none⟩ (.slice A4 (nl d) c4) = W6 at *
 have hd : decide ((d : Int) < 0) = false := by simp
 exact bodyPost_ret (v := .agg #[.bool false, .slice A4 (nl d) c4]) (by simp [results, Tryz.results41, go_sem, z0, z1]) rfl ⟨_, rfl, ⟨_, by rw [hd], hv6⟩, hbz⟩
theorem sign_any (x : Int) (vx : Value) (w : World) (hx : IntAt w vx x) (hl : nl x.natAbs ≤ 17592186044416) :
  Calls Tryz.prog 92 #[vx] w fun e w' => e = .returned (.int .i64 x.sign) ∧ Below w.heap.size w w' := by
 obtain ⟨ux, rfl, A, c, rfl, hc, hr, ho⟩ := hx
 by_cases h0 : x = 0
 ·have q0 : ((nl x.natAbs : Int) == 0) = true := by rw [h0, show (0 : Int).natAbs = 0 from rfl, nl_zero]; rfl
  have hs : x.sign = 0 := by rw [h0]; rfl
  rw [hs]
  clear hs h0
  generalize decide (x < 0) = sx at *
  go_enter Tryz.func92, Tryz.ntmps92
  go_wp2
  go_ret
  exact ⟨rfl, (Below.refl _ _).alloc (Nat.le_refl _) _⟩
 ·have h1 := nl_pos (show x.natAbs ≠ 0 by omega)
  have q0 : ((nl x.natAbs : Int) == 0) = false := by simp; omega
  by_cases hneg : x < 0
  ·have hs : x.sign = -1 := Int.sign_eq_neg_one_of_neg hneg
   have hd : decide (x < 0) = true := by simpa using hneg
   rw [hs, hd]
   clear hs h0 hneg hd
   go_enter Tryz.func92, Tryz.ntmps92
   go_wp2
   go_ret
   exact ⟨rfl, (Below.refl _ _).alloc (Nat.le_refl _) _⟩
  ·have hs : x.sign = 1 := Int.sign_eq_one_of_pos (by omega)
   have hd : decide (x < 0) = false := by simpa using hneg
   rw [hs, hd]
   clear hs h0 hneg hd
   go_enter Tryz.func92, Tryz.ntmps92
   go_wp2
   go_ret
   exact ⟨rfl, (Below.refl _ _).alloc (Nat.le_refl _) _⟩
theorem isOne_any (x : Int) (vx : Value) (w : World) (hx : IntAt w vx x) (hl : nl x.natAbs ≤ 17592186044416) :
  Calls Tryz.prog 42 #[vx] w fun e w' => e = .returned (.bool (decide (x = 1))) ∧ Below w.heap.size w w' := by
 obtain ⟨ux, rfl, A, c, rfl, hc, hr, ho⟩ := hx
 by_cases hneg : x < 0
 ·have hd : decide (x < 0) = true := by simpa using hneg
  have hd1 : decide (x = 1) = false := by simp; omega
  rw [hd, hd1]
  clear hd hd1 hneg
  go_enter Tryz.func42, Tryz.ntmps42
  go_wp2
  go_ret
  exact ⟨rfl, (Below.refl _ _).alloc (Nat.le_refl _) _⟩
 ·have hd : decide (x < 0) = false := by simpa using hneg
  rw [hd]
  clear hd
  by_cases h1 : nl x.natAbs = 1
  ·have q1 : ((nl x.natAbs : Int) == 1) = true := by simp; omega
   have hx0 : x.natAbs ≠ 0 := by intro h; rw [h, nl_zero] at h1; omega
   have hxB : x.natAbs < BN := by have := lt_pow_nl x.natAbs; rw [h1, Nat.pow_one] at this; exact this
   obtain ⟨b, off, rfl, hb, hcx⟩ := hr.at_ (by rw [dg_len]; omega)
   have g0 := hcx 0 (by rw [dg_len]; omega)
   rw [dg_one hx0 hxB] at g0
   simp only [Nat.add_zero, List.getD_cons_zero] at g0
   have i0 : (0 : Int) < (nl x.natAbs : Int) := by omega
   have hg1 : (w.alloc (.cells #[.bool false, .slice (some ⟨b, off, none⟩) (nl x.natAbs) c] 49)).cell? ⟨b, off, none⟩ = some (.int .u64 (x.natAbs : Int)) := (((Below.refl _ _).alloc (Nat.le_refl _) _).cell (p := ⟨b, off, none⟩) hb).trans g0
   have hdd : decide (x = 1) = ((x.natAbs : Int) == 1) := by rw [Bool.eq_iff_iff]; simp; omega
   rw [hdd]
   clear hcx hneg hx0 hxB h1 hdd
   generalize (x.natAbs : Int) = xv at *
   go_enter Tryz.func42, Tryz.ntmps42
   go_wp2
   go_ret
   exact ⟨rfl, (Below.refl _ _).alloc (Nat.le_refl _) _⟩
  ·have q1 : ((nl x.natAbs : Int) == 1) = false := by simp; omega
   have hd1 : decide (x = 1) = false := by
    simp; intro h; apply h1; rw [h]; exact nl_one (by decide) (by decide)
   rw [hd1]
   clear hd1 h1 hneg
   go_enter Tryz.func42, Tryz.ntmps42
   go_wp2
   go_ret
   exact ⟨rfl, (Below.refl _ _).alloc (Nat.le_refl _) _⟩
theorem new_any (n : Int) (w : World) (h0 : -9223372036854775808 ≤ n) (h1 : n ≤ 9223372036854775807) :
  Calls Tryz.prog 44 #[.int .i64 n] w (RetInt w n) := by
 have r0 : (w.alloc (.cells #[.bool false, .slice none 0 0] 49)).cell? ⟨w.heap.size, 0, none⟩ = some (.bool false) := by simp [go_sem]
 have r1 : (w.alloc (.cells #[.bool false, .slice none 0 0] 49)).cell? ⟨w.heap.size, 1, none⟩ = some (.slice none 0 0) := by simp [go_sem]
 have hfr : ∀ j, (w.alloc (.cells #[.bool false, .slice none 0 0] 49)).frozen? ⟨w.heap.size, j, none⟩ = false := fun j => by simp [go_sem]
 have l2 : w.heap.size < (w.alloc (.cells #[.bool false, .slice none 0 0] 49)).heap.size := by simp
 have hb : Below w.heap.size w (w.alloc (.cells #[.bool false, .slice none 0 0] 49)) := (Below.refl _ _).alloc (Nat.le_refl _) _
 obtain ⟨m, HM, hmB⟩ : ∃ m, Hid (n.natAbs = m) ∧ m < BN := ⟨_, rfl, by unfold BN; omega⟩
 by_cases hn : n < 0
 ·have hwr : IntKind.u64.wrap (-IntKind.u64.wrap n) = (m : Int) := by
   have := HM.out
   rw [IntKind.wrap_u64, IntKind.wrap_u64]; omega
  have hd : decide (n < 0) = true := by simpa using hn
  have HD := Lib.hid hd
  clear hd
  go_enter Tryz.func44, Tryz.ntmps44
  go_wp2_with fail
  ((with_reducible refine (fromWord_any m hmB _).mono ?_))
  rintro e4 w4 ⟨v4, rfl, hv4, hf4, hb4⟩
  obtain ⟨A4, c4, rfl, hc4, hr4, ho4⟩ := id hv4
  have r0' := (hb4.cell (p := ⟨w.heap.size, 0, none⟩) l2).trans r0
  have r1' := (hb4.cell (p := ⟨w.heap.size, 1, none⟩) l2).trans r1
  have f0' := (hb4.frozen (p := ⟨w.heap.size, 0, none⟩) l2).trans (hfr 0)
  have f1' := (hb4.frozen (p := ⟨w.heap.size, 1, none⟩) l2).trans (hfr 1)
  have hn4 : (Value.slice A4 (nl m) c4).ownBlock ≠ some w.heap.size := hf4.ne l2 (fun u hu => by cases hu)
  have hbw : Below w.heap.size w w4 := hb.trans (hb4.mono hb.size)
  clear r0 r1 hfr hwr
  go_wp2_with fail
  have hst := stored2 (p := .bool true) (q := .slice A4 (nl m) c4) r0' r1'
  have hbz := (hbw.setCell (p := ⟨w.heap.size, 0, none⟩) (by simp) (.bool true)).setCell (p := ⟨w.heap.size, 1, none⟩) (by simp) (.slice A4 (nl m) c4)
  obtain ⟨z0, z1⟩ := hst
  have hv6 : NatAt ((w4.setCell ⟨w.heap.size, 0, none⟩ (.bool true)).setCell ⟨w.heap.size, 1, none⟩ (.slice A4 (nl m) c4)) (.slice A4 (nl m) c4) m := (hv4.set _ hn4).set _ hn4
  generalize (w4.setCell ⟨w.heap.size, 0, none⟩ (.bool true)).setCell ⟨w.heap.size, 1, none⟩ (.slice A4 (nl m) c4) = W6 at *
  exact bodyPost_ret (v := .agg #[.bool true, .slice A4 (nl m) c4]) (by simp [results, Tryz.results44, go_sem, z0, z1]) rfl ⟨_, rfl, ⟨_, by rw [HD.out], by rw [HM.out]; exact hv6⟩, hbz⟩
 ·have hwr : IntKind.u64.wrap n = (m : Int) := by
   have := HM.out
   rw [IntKind.wrap_u64]; omega
  have hd : decide (n < 0) = false := by simpa using hn
  have HD := Lib.hid hd
  clear hd
  go_enter Tryz.func44, Tryz.ntmps44
  go_wp2_with fail
  ((with_reducible refine (fromWord_any m hmB _).mono ?_))
  rintro e4 w4 ⟨v4, rfl, hv4, hf4, hb4⟩
  obtain ⟨A4, c4, rfl, hc4, hr4, ho4⟩ := id hv4
  have r0' := (hb4.cell (p := ⟨w.heap.size, 0, none⟩) l2).trans r0
  have r1' := (hb4.cell (p := ⟨w.heap.size, 1, none⟩) l2).trans r1
  have f0' := (hb4.frozen (p := ⟨w.heap.size, 0, none⟩) l2).trans (hfr 0)
  have f1' := (hb4.frozen (p := ⟨w.heap.size, 1, none⟩) l2).trans (hfr 1)
  have hn4 : (Value.slice A4 (nl m) c4).ownBlock ≠ some w.heap.size := hf4.ne l2 (fun u hu => by cases hu)
  have hbw : Below w.heap.size w w4 := hb.trans (hb4.mono hb.size)
  clear r0 r1 hfr hwr
  go_wp2_with fail
  have hst := stored2 (p := .bool false) (q := .slice A4 (nl m) c4) r0' r1'
  have hbz := (hbw.setCell (p := ⟨w.heap.size, 0, none⟩) (by simp) (.bool false)).setCell (p := ⟨w.heap.size, 1, none⟩) (by simp) (.slice A4 (nl m) c4)
  obtain ⟨z0, z1⟩ := hst
  have hv6 : NatAt ((w4.setCell ⟨w.heap.size, 0, none⟩ (.bool false)).setCell ⟨w.heap.size, 1, none⟩ (.slice A4 (nl m) c4)) (.slice A4 (nl m) c4) m := (hv4.set _ hn4).set _ hn4
  generalize (w4.setCell ⟨w.heap.size, 0, none⟩ (.bool false)).setCell ⟨w.heap.size, 1, none⟩ (.slice A4 (nl m) c4) = W6 at *
  exact bodyPost_ret (v := .agg #[.bool false, .slice A4 (nl m) c4]) (by simp [results, Tryz.results44, go_sem, z0, z1]) rfl ⟨_, rfl, ⟨_, by rw [HD.out], by rw [HM.out]; exact hv6⟩, hbz⟩
theorem copyDifference_any (x y : Nat) (vx vy : Value) (w : World) (hx : NatAt w vx x) (hy : NatAt w vy y) (bx : nl x ≤ 17592186044415) (hle : y ≤ x) :
  Calls Tryz.prog 91 #[vx, vy] w (RetNat w [] (x - y)) := by
 obtain ⟨A, c, rfl, hc, hrx, hox⟩ := hx
 obtain ⟨B, d, rfl, hd, hry, hoy⟩ := hy
 have hm := nl_mono hle
 go_enter Tryz.func91, Tryz.ntmps91
 go_wp2_with (first
  | (at_make; refine wpList_make_ints rfl rfl .u64 105 8 Tryz.underlying47 info64 (nl x) rfl rfl rfl rfl (by omega) (by omega) ?_; intro w1 hz1 hs1 hc1 hb1)
  | (with_reducible refine wpList_copy_ints rfl rfl .u64 105 Tryz.underlying47 size64 rfl rfl w.heap.size 0 (List.replicate (nl x) 0) (dg x) (by simp) rfl (fun _ => rfl) hc1 hs1 (hrx.below hb1) ?_; intro w2 hc2 ho2))
 rw [List.length_replicate] at ho2
 have hb2 : Below w.heap.size w w2 := ho2.belowOf hb1 (Nat.le_refl _)
 refine (subtractFrom_at w.heap.size 0 (nl x) _ (nl x) B (nl y) (dg y) d w2 (by rw [length_over]; simp) rfl hc2 (ho2.soft hs1) (Nat.le_refl _) (by omega) (hry.below hb2) ?hn hm (inR_over (InR.replicate B64_pos _) (inR_dg x)) (inR_dg y) ?hv).mono ?_
 case hn =>
  rintro b o rfl h
  obtain ⟨b', o', e, hb', _⟩ := hry.at_ h
  injection e with e; injection e; omega
 case hv => rw [over_zeros _ _ (by rw [dg_len]; exact Nat.le_refl _), val_dg, val_dg]; omega
 rintro e w3 ⟨rfl, zs, hzl, hz, hv, hc3, ho3⟩
 rw [over_zeros _ _ (by rw [dg_len]; exact Nat.le_refl _), val_dg, val_dg] at hv
 have HV := Lib.hid hv
 have HL := Lib.hid hzl
 clear hv hzl
 have hlt3 : w.heap.size < w3.heap.size := Nat.lt_of_lt_of_le hz1 (Nat.le_trans ho2.grown.size ho3.grown.size)
 go_wp2_with fail
 refine (trim_at _ zs (nl x) (nl x) w3 HL.out (Rd.mk hlt3 hc3) (Nat.le_refl _) (by omega)).mono ?_
 rintro e w4 ⟨rfl, rfl⟩
 go_wp2
 go_ret
 exact ⟨_, rfl, NatAt.trim (Rd.mk hlt3 hc3) hz (by rw [HV.out]; omega) (by rw [HL.out]; exact Nat.le_refl _) (Old.mk hlt3), From.new (Nat.le_refl _), ho3.belowOf hb2 (Nat.le_refl _)⟩
theorem acc_step {zs : List Int} {k : Nat} {c s c' T : Int} (hk : k < zs.length) (hs : Split (zs.getD k 0 + c) s c') (h : val B64 zs + c * B64 ^ k = T) : val B64 (zs.set k s) + c' * B64 ^ (k + 1) = T := by
 have e := hs.1
 rw [val_set _ _ _ _ hk, ← h, Int.pow_succ]
 generalize zs.getD k 0 = z at *
 generalize B64 ^ k = p at *
 generalize val B64 zs = v at *
 generalize B64 = b at *
 have e2 : s = z + c - b * c' := by omega
 rw [e2]; grind
theorem OwnN.more {w w' : World} {B : Nat} {v v' : Value} {zs l : List Int} {o : Obj} (ho : w'.ownsRow B 105 1 v' (zs.length + l.length) (zs.map (Value.int .u64) ++ l.map (Value.int .u64))) (hg : (w.alloc o).grownBy w' v.ownBlock) (hat : v'.ownBlock = v.ownBlock ∨ v'.ownBlock = some (w.alloc o).heap.size) :
  OwnN w' B v' (zs ++ l) ∧ TxtTo w v w' v' := by
 refine ⟨by unfold OwnN; rw [List.map_append, List.length_append]; exact ho, ⟨hg.os, hg.tape, hg.output, Nat.le_trans (by simp) hg.size, fun i hi hne => (hg.block i (by simp; omega) hne).trans (Below.heap_alloc w o i hi)⟩, fun g e => ?_⟩
 rcases hat with h | h
 ·left; rw [← h]; exact e
 ·right; rw [h] at e; simp at e; omega
theorem acc_lt {us : List Int} {c T : Int} {n L : Nat} (hu : InR B64 us) (hc : 1 ≤ c) (hn : us.length = n) (h : val B64 us + c * B64 ^ n = T) (hT : T < B64 ^ L) : n < L := by
 rcases Nat.lt_or_ge n L with h1 | h1
 ·exact h1
 ·exfalso
  have h2 := val_nonneg B64_pos hu
  have h3 : B64 ^ L ≤ B64 ^ n := ipow_mono (by decide) h1
  have h4 : 1 * B64 ^ n ≤ c * B64 ^ n := Int.mul_le_mul_of_nonneg_right hc (Int.le_of_lt (pow_pos' B64_pos n))
  omega
def AccIn (w0 : World) (tv : Value) (x y L : Nat) (a b : Value) (wx : World) : Prop := ∃ X Y, NatAt wx a X ∧ NatAt wx b Y ∧ Hid (X * Y = x * y) ∧ X ≠ 0 ∧ Y ≠ 0 ∧ nl X + nl Y ≤ L ∧ Apart tv a ∧ Apart tv b ∧ Below w0.heap.size w0 wx
set_option maxRecDepth 100000 in
theorem accumulate_any (B : Nat) (tv : Value) (zs : List Int) (x y L : Nat) (vx vy : Value) (w : World) (hB : B ≤ w.heap.size) (ht : OwnN w B tv zs) (hz : InR B64 zs) (hx : NatAt w vx x) (hy : NatAt w vy y) (hx0 : x ≠ 0) (hy0 : y ≠ 0)
  (hax : Apart tv vx) (hay : Apart tv vy) (hLz : zs.length ≤ L) (hLx : nl x + nl y + 1 ≤ L) (hL : L + 2 ≤ LIM) (hval : val B64 zs + (x * y : Nat) < B64 ^ L) :
  Calls Tryz.prog 88 #[tv, vx, vy] w fun e w' => ∃ v ws, e = .returned v ∧ OwnN w' B v ws ∧ InR B64 ws ∧ val B64 ws = val B64 zs + (x * y : Nat) ∧ ws.length ≤ L ∧ TxtTo w tv w' v := by
 unfold LIM at hL
 have HVAL := Lib.hid hval
 have htl := ht.lt
 clear hval
 obtain ⟨Ax, cx, hxe, _, _, _⟩ := id hx
 obtain ⟨Ay, cy, hye, _, _, _⟩ := id hy
 subst hxe hye
 go_enter Tryz.func88, Tryz.ntmps88
 go_upto_if 15 with fail
 go_cut [1, 2] (fun a b wx => AccIn w tv x y (L - 1) a b wx)
 case first =>
  by_cases hlt : nl x < nl y
  ·go_wp2_with fail
   go_meet
   exact ⟨y, x, hy, hx, Nat.mul_comm _ _, hy0, hx0, by omega, hay, hax, Below.refl _ _⟩
  ·go_wp2_with fail
   go_meet
   exact ⟨x, y, hx, hy, rfl, hx0, hy0, by omega, hax, hay, Below.refl _ _⟩
 case rest =>
  obtain ⟨X, Y, hX, hY, HXY, hX0, hY0, hl, haX, haY, hb⟩ := hcut
  clear hx hy hax hay hx0 hy0
  obtain ⟨Bx, dx, hxe, _, _, _⟩ := id hX
  obtain ⟨By, dy, hye, _, _, _⟩ := id hY
  subst hxe hye
  go_upto_if 20 with fail
  go_cut [1, 2] (fun a b wx => AccIn w tv x y L a b wx)
  case first =>
   by_cases h40 : 40 ≤ nl Y
   ·have h40' : (40 : Int) ≤ (nl Y : Int) := by omega
    go_wp2_with fail
    ((with_reducible refine (multiplyWords_any X Y _ _ _ hX hY (by unfold LIM; omega)).mono ?_))
    rintro e w2 ⟨v2, rfl, hv2, hf2, hb2⟩
    have hb02 := hb.trans (hb2.mono hb.size)
    have hm := nl_mul X Y
    have h1 : nl 1 = 1 := nl_one (by decide) (by decide)
    have H1 := Lib.hid h1
    clear h1
    go_wp2_with fail
    go_meet
    refine ⟨X * Y, 1, hv2.below (below_built _ _), natAt_built w2 1 (by decide) (by decide) 105, by unfold Hid; rw [Nat.mul_one]; exact HXY.out, Nat.mul_ne_zero hX0 hY0, by decide, by rw [H1.out]; omega, ?_, ?_, hb02.trans ((below_built w2 _).mono hb02.size)⟩
    ·exact fun g hg => hf2.ne2 (Nat.lt_of_lt_of_le (htl g hg).2 hb.size) (haX g hg) (haY g hg)
    ·intro g hg e
     have k1 := (htl g hg).2
     have k2 := hb02.size
     simp [Value.ownBlock] at e
     omega
   ·have h40' : ¬ (40 : Int) ≤ (nl Y : Int) := by omega
    go_wp2_with fail
    go_meet
    exact ⟨X, Y, hX, hY, HXY, hX0, hY0, by omega, haX, haY, hb⟩
  case rest =>
   clear hX hY HXY hX0 hY0 hl haX haY hb
   obtain ⟨X, Y, hX, hY, HXY, hX0, hY0, hl, haX, haY, hb⟩ := hcut
   obtain ⟨Ax, cx, hxe, hcx, hrX, hoX⟩ := id hX
   obtain ⟨Ay, cy, hye, hcy, hrY, hoY⟩ := id hY
   subst hxe hye
   have ht1 := ht.below hb
   have hB1 : B ≤ wc.heap.size := Nat.le_trans hB hb.size
   have hto0 : TxtTo w tv wc tv := TxtTo.below hb
   go_wp2_with fail
   go_loopg [0] (max zs.length (nl X + nl Y) - zs.length) (fun k q wr => ∃ j, Hid (zs.length + j + k = max zs.length (nl X + nl Y)) ∧ OwnN wr B q (zs ++ List.replicate j 0) ∧ TxtTo wc tv wr q)
   case atStart => exact ⟨0, by unfold Hid; omega, by simpa using ht1, TxtTo.refl _ _⟩
   case round =>
    obtain ⟨j, HJ, hq, hto⟩ := hrel
    have hll : (zs ++ List.replicate j (0 : Int)).length = zs.length + j := by rw [List.length_append, List.length_replicate]
    obtain ⟨Aq, cq, hqe⟩ := hq.slice
    rw [hll] at hqe
    subst hqe
    have hB2 : B ≤ wr.heap.size := Nat.le_trans hB1 hto.1.size
    have HLL := Lib.hid hll
    clear hll
    cases gk with
    | succ k =>
     have hlt : (zs.length : Int) + j < (nl X : Int) + nl Y := by have := HJ.out; omega
     have hq' : wr.ownsRow B 105 1 (.slice Aq (zs.length + j) cq) (zs.length + j) ((zs ++ List.replicate j (0 : Int)).map (Value.int .u64)) := by
      have := hq
      unfold OwnN at this
      rw [HLL.out] at this
      exact this
     go_wp2_with (at_builtin; refine wpList_append rfl rfl 105 _ 1 8 Tryz.underlying47 info64 rfl (by decide) B (.slice Aq (zs.length + j) cq) (zs.length + j) _ rfl (hq'.alloc _) [Value.int .u64 0] rfl (by simp) (src_one _ _ _) (by simp [Value.oneCell']) (by omega) (by omega) (by simp; omega) ?_; intro q1 w1 ho1 hg1 hat1)
     have hm := OwnN.more (zs := zs ++ List.replicate j 0) (l := [0]) (by rw [HLL.out]; exact ho1) hg1 hat1
     go_wp2_with fail
     go_roundg k
     case measure => omega
     case rel =>
      refine ⟨j + 1, by have := HJ.out; unfold Hid; omega, ?_, hto.trans hm.2⟩
      rw [List.replicate_succ', ← List.append_assoc]; exact hm.1
    | zero =>
     have hlt : ¬ (zs.length : Int) + j < (nl X : Int) + nl Y := by have := HJ.out; omega
     have hlen1 : nl X + nl Y ≤ zs.length + j := by omega
     have hlen2 : zs.length + j ≤ L := by have := HJ.out; omega
     have hv0 : val B64 (zs ++ List.replicate j (0 : Int)) = val B64 zs := by rw [val_append, val_replicate]; simp
     have hz0 : InR B64 (zs ++ List.replicate j (0 : Int)) := hz.append (InR.replicate B64_pos _)
     have HV0 := Lib.hid hv0
     clear hv0 HJ
     have hXw := hX
     go_wp2_with fail
     go_loopg [0, 38] (nl Y) (fun k q i wr => ∃ (m : Nat) (ws : List Int), Hid (m + k = nl Y) ∧ i = .int .i64 m ∧ OwnN wr B q ws ∧ InR B64 ws ∧ Hid (val B64 ws = val B64 zs + X * val B64 ((dg Y).take m)) ∧ nl X + nl Y ≤ ws.length ∧ ws.length ≤ L ∧ TxtTo wc tv wr q)
     case atStart => exact ⟨0, _, by unfold Hid; omega, rfl, hq, hz0, by unfold Hid; rw [HV0.out]; simp, by rw [HLL.out]; exact hlen1, by rw [HLL.out]; exact hlen2, hto⟩
     case round =>
      clear hq hto hB2 hlen1 hlen2 hz0
      obtain ⟨m, ws, HM, rfl, hq, hw, HV, hl1, hl2, hto⟩ := hrel
      have hnX := nl_pos hX0
      cases gk with
      | zero =>
       obtain rfl : m = nl Y := by have := HM.out; omega
       have hv := HV.out
       rw [List.take_of_length_le (by rw [dg_len]; exact Nat.le_refl _), val_dg] at hv
       have hv2 : val B64 ws = val B64 zs + ((x * y : Nat) : Int) := by rw [hv, ← HXY.out]; push_cast; rfl
       have HV2 := Lib.hid hv2
       clear hv hv2
       go_wp2_with fail
       go_ret
       exact ⟨_, ws, rfl, hq, hw, HV2.out, hl2, hto0.trans hto⟩
      | succ k =>
       have hm : m < nl Y := by have := HM.out; omega
       obtain ⟨g, cap, rfl, hgB, hcap, hcm, hsh, hcl⟩ := hq.at_ (by omega)
       have hrY' : Rd .u64 wr Ay (dg Y) := hrY.grown hto.1 (.inr (fun b off e he => haY b he.symm (by rw [e]; rfl)))
       have hrX' : Rd .u64 wr Ax (dg X) := hrX.grown hto.1 (.inr (fun b off e he => haX b he.symm (by rw [e]; rfl)))
       have haXq := hto.apart haX (fun g e => hX.block e)
       obtain ⟨by_, oy, rfl, hbyl, hcY⟩ := hrY'.at_ (by rw [dg_len]; omega)
       have g1 := hcY m (by rw [dg_len]; exact hm)
       have hyb := (inR_dg Y).getD B64_pos m
       have hts := val_take_succ B64 (dg Y) m (by rw [dg_len]; exact hm)
       generalize hye : (dg Y).getD m 0 = yv at *
       have hseg : ((ws.drop m).take (nl X)).length = nl X := by rw [List.length_take, List.length_drop]; omega
       have hcell1 : Cells .u64 wr g m ((ws.drop m).take (nl X)) := by have := (hcl.drop m).take (nl X); rwa [Nat.zero_add] at this
       have HSEG := Lib.hid hseg
       have HTS := Lib.hid hts
       have HYE := Lib.hid hye
       have HCL := Lib.hid hcl
       have hneX : ∀ b o, Ax = some ⟨b, o, none⟩ → 0 < nl X → b ≠ g := fun b o e _ he => haXq g rfl (by rw [e, he]; rfl)
       have i1 : (0 : Int) ≤ (m : Int) := by omega
       have i2 : (m : Int) ≤ (m : Int) + (nl X : Int) := by omega
       have i3 : (m : Int) + (nl X : Int) ≤ (cap : Int) := by omega
       have i5 : ¬ cap = m := by omega
       have i7 : m ≤ cap := by omega
       have i8 : m + nl X ≤ cap := by omega
       clear hseg hts hye hcY hcl
       go_wp2_with fail
       ((with_reducible refine (addProduct_any g m ((ws.drop m).take (nl X)) (cap - m) Ax (dg X) cx (nl X) yv wr HSEG.out (dg_len X) hcell1 hsh.soft (by omega) hrX' hneX ((hw.drop m).take _) (inR_dg X) hyb).mono ?_))
       rintro e w3 ⟨ts, c, rfl, hc0, hc1, htl, hti, htv, hct, hon⟩
       have hpc := hon.patch HCL.out htl hct (by omega)
       have hps : (patch ws ts m).length = ws.length := length_patch (by omega)
       have hpi := inR_patch hw hti m
       have hpo : OwnN w3 B (.slice (some ⟨g, 0, none⟩) (patch ws ts m).length cap) (patch ws ts m) := OwnN.of (hon.shape _ _ hsh) hpc hgB (by omega) hcm
       rw [hps] at hpo
       have hto3 : TxtTo wc tv w3 (.slice (some ⟨g, 0, none⟩) ws.length cap) := hto.trans ⟨hon.grown, fun _ h => .inl h⟩
       obtain ⟨T, HT⟩ : ∃ T : Int, Hid (T = val B64 zs + X * val B64 ((dg Y).take (m + 1))) := ⟨_, rfl⟩
       have hpv : val B64 (patch ws ts m) + c * B64 ^ (m + nl X) = T := by
        rw [val_patch (by omega), htl, HT.out, HTS.out, HV.out, Int.pow_add]
        have e1 := htv
        rw [val_dg] at e1
        generalize val B64 ((ws.drop m).take (nl X)) = sg at *
        generalize val B64 ts = tt at *
        generalize val B64 ((dg Y).take m) = yt at *
        generalize B64 ^ m = bm at *
        generalize B64 ^ nl X = bx at *
        have e2 : tt = sg + X * yv - c * bx := by omega
        rw [e2]; grind
       have hTL : T < B64 ^ L := by
        have h1 := HVAL.out
        have h2 : val B64 ((dg Y).take (m + 1)) ≤ Y := by
         rw [val_take_dg]
         exact Int.ofNat_le.2 (Nat.mod_le _ _)
        have h3 : (X : Int) * val B64 ((dg Y).take (m + 1)) ≤ X * Y := Int.mul_le_mul_of_nonneg_left h2 (by omega)
        have h4 : ((x * y : Nat) : Int) = X * Y := by rw [← HXY.out]; push_cast; rfl
        rw [HT.out]; omega
       have HPV := Lib.hid hpv
       have HTL := Lib.hid hTL
       have HPS := Lib.hid hps
       clear hpv hTL hps htv hpc hct HCL hq hsh hcell1 g1 hrX' hrY' htl HV hto
       generalize patch ws ts m = us0 at *
       go_wp2_with fail
       go_loopg [0, 9, 10] (ws.length - (m + nl X) + (if c = 0 then 0 else 1)) (fun k' q cc i wx => ∃ (n : Nat) (us : List Int) (c : Int), Hid (us.length - n + (if c = 0 then 0 else 1) = k') ∧ i = .int .i64 n ∧ cc = .int .u64 c ∧ (0 ≤ c ∧ c < B64) ∧ n ≤ us.length ∧ InR B64 us ∧ Hid (val B64 us + c * B64 ^ n = T) ∧ OwnN wx B q us ∧ ws.length ≤ us.length ∧ us.length ≤ L ∧ TxtTo wc tv wx q)
       case atStart => exact ⟨m + nl X, us0, c, by unfold Hid; rw [HPS.out], by go_num, rfl, ⟨hc0, hc1⟩, by rw [HPS.out]; omega, hpi, HPV, by rw [← HPS.out] at hpo ⊢; exact hpo, by rw [HPS.out]; exact Nat.le_refl _, by rw [HPS.out]; exact hl2, hto3⟩
       case round =>
        clear hpo hpi hto3 HPV hc0 hc1
        obtain ⟨n, us, c, HK, rfl, rfl, hcb, hnu, hui, HVU, hqo, hlu1, hlu2, hto⟩ := hrel
        by_cases hc0 : c = 0
        ·subst hc0
         have hv := HVU.out
         rw [Int.zero_mul, Int.add_zero] at hv
         have HVV : Hid (val B64 us = val B64 zs + X * val B64 ((dg Y).take (m + 1))) := by unfold Hid; rw [hv]; exact HT.out
         clear hv HVU
         go_wp2_with fail
         go_roundg k
         case measure => omega
         case rel => exact ⟨m + 1, us, by have := HM.out; unfold Hid; omega, by go_num, hqo, hui, HVV, by omega, hlu2, hto⟩
        ·have hcz : (c != 0) = true := by simpa using hc0
         have hnL := hlu1
         obtain ⟨g', cap', rfl, hgB', hcap', hcm', hsh', hcl'⟩ := hqo.at_ (by omega)
         have hKd : us.length - n + 1 = us.length - n + (if c = 0 then 0 else 1) := by rw [if_neg hc0]
         have HKD := Lib.hid hKd
         clear hKd
         by_cases hnl : n < us.length
         ·have hne : ((n : Int) == (us.length : Int)) = false := by simp; omega
          have g1 := hcl' n hnl
          rw [Nat.zero_add] at g1
          have f1 := hsh'.soft.free n
          have ub := hui.getD B64_pos n
          obtain ⟨sm, c', hs⟩ := split_of (us.getD n 0 + c)
          have hst := acc_step hnl hs HVU.out
          have hcb' := hs.hi_bd (by omega) (m := 2) (by omega)
          have hsb := hs.2
          generalize hue : us.getD n 0 = uv at *
          have HST := Lib.hid hst
          have HSS := Lib.hid hs
          have HUE := Lib.hid hue
          have HQO := Lib.hid hqo
          clear hst hs hue hqo hcl'
          go_wp2_with (simp only [add64_s0 uv c sm c' ub hcb HSS.out])
          go_roundg (us.length - (n + 1) + (if c' = 0 then 0 else 1))
          case measure =>
           have h1 := HK.out
           have h2 := HKD.out
           split <;> omega
          case rel =>
           refine ⟨n + 1, us.set n sm, c', by unfold Hid; rw [List.length_set], by go_num, rfl, ⟨hcb'.1, ?_⟩, by rw [List.length_set]; omega, hui.set hsb.1 hsb.2 n, HST, HQO.out.set hnl sm, by rw [List.length_set]; exact hlu1, by rw [List.length_set]; exact hlu2, ?_⟩
           ·have : (2 : Int) ≤ B64 := by decide
            omega
           ·exact hto.trans ⟨grownBy_setCell (w := wr) ⟨g', n, none⟩ _, fun _ h => .inl h⟩
         ·obtain rfl : n = us.length := by omega
          have hne : ((us.length : Int) == (us.length : Int)) = true := by simp
          have hLL : us.length < L := acc_lt hui (by omega) rfl HVU.out HTL.out
          have hB2 : B ≤ wr.heap.size := Nat.le_trans hB1 hto.1.size
          have HQO := Lib.hid hqo
          have hqo' : wr.ownsRow B 105 1 (.slice (some ⟨g', 0, none⟩) us.length cap') us.length (us.map (Value.int .u64)) := hqo
          have hs0 : Split (0 + c) c 0 := ⟨by omega, hcb.1, hcb.2⟩
          have z0 : (0 : Int) ≤ 0 ∧ (0 : Int) < B64 := ⟨by decide, by decide⟩
          clear hqo hcl'
          go_wp2_with (first
           | (at_builtin; refine wpList_append rfl rfl 105 _ 1 8 Tryz.underlying47 info64 rfl (by decide) B (.slice (some ⟨g', 0, none⟩) us.length cap') us.length _ rfl (hqo'.alloc _) [Value.int .u64 0] rfl (by simp) (src_one _ _ _) (by simp [Value.oneCell']) (by omega) (by omega) (by simp; omega) ?_; intro q1 w1 ho1 hg1 hat1; have hm := OwnN.more (zs := us) (l := [0]) ho1 hg1 hat1; obtain ⟨g1, cap1, rfl, hgB1, hcap1, hcm1, hsh1, hcl1⟩ := hm.1.at_ (by simp); have gg := hcl1 us.length (by simp); rw [Nat.zero_add] at gg; simp only [List.getD_eq_getElem?_getD, List.getElem?_append_right (Nat.le_refl _), Nat.sub_self, List.getElem?_cons_zero, Option.getD_some] at gg; have ff := hsh1.soft.free us.length; simp only [List.length_append, List.length_singleton] at hm ⊢)
           | simp only [add64_s0 0 c c 0 z0 hcb hs0])
          go_roundg 0
          case measure =>
           have h1 := HK.out
           have h2 := HKD.out
           omega
          case rel =>
           have hst := acc_step (zs := us ++ [0]) (k := us.length) (c := c) (s := c) (c' := 0) (T := T) (by simp) (by simpa [List.getElem?_append_right] using hs0) (by have := HVU.out; rw [val_append, val_one]; simpa using this)
           refine ⟨us.length + 1, (us ++ [0]).set us.length c, 0, by unfold Hid; simp, by go_num, rfl, ⟨by decide, by decide⟩, by simp, (hui.append (InR.cons (by decide) (by decide) InR.nil)).set hcb.1 hcb.2 us.length, (by unfold Hid; exact hst), hm.1.set (by simp) c, by simp; omega, by simp; omega, ?_⟩
           exact (hto.trans hm.2).trans ⟨grownBy_setCell (w := w1) ⟨g1, us.length, none⟩ _, fun _ h => .inl h⟩
end Go.Proofs.YtoimnlnaaklinaaGreatDoor
