/-
  Contracts of functions that the statement reaches, and plain laws: LawE.
-/
import Derived.Test.YtoimnlnaaklinaaGreatDoorE33
import Derived.Test.YtoimnlnaaklinaaGreatDoorE35
import Derived.Test.YtoimnlnaaklinaaGreatDoorE36
set_option linter.unusedVariables false
set_option linter.unusedSimpArgs false
set_option maxHeartbeats 8000000
namespace Go.Proofs.YtoimnlnaaklinaaGreatDoor
open Go.RowKit Sos
theorem OwnS.step {w w' : World} {b g : Nat} {ls : List (List UInt8)} (h : OwnS w b ls) (hs : StepAt g w w') (hne : b ≠ g) : OwnS w' b ls := by
 obtain ⟨cs, h1, h2, h3⟩ := h
 exact ⟨cs, (hs.2.1 b hne).trans h1, h2, h3⟩
theorem mkS (n : Nat) (hn : n ≤ 64) : ∃ o : Obj, (∀ W : World, (Instr.makeSlice 22 (.int .i64 ((n : Int) + 1)) (.int .i64 ((n : Int) + 1))).run Tryz.prog W = .ok (.slice (some ⟨W.heap.size, 0, none⟩) (n + 1) (n + 1)) (W.alloc o)) ∧
  ∀ (W : World) (g : Nat), W.heap.size = g → OwnS (W.alloc o) g (List.replicate (n + 1) []) := by
 obtain ⟨i, hi0, hz, hs, hby⟩ := info_parts infoStr
 refine ⟨.cells (madeCells (Value.string ⟨#[]⟩).cells ((n + 1) * i.size)) 9, fun W => ?_, fun W g hg => ?_⟩
 ·have hr := run_make (P := Tryz.prog) W 22 9 i _ Tryz.underlying22 hi0 hz .i64 .i64 ((n : Int) + 1) ((n : Int) + 1) (by omega) (by omega) (by rw [hby]; omega) (by omega)
  rw [hr]
  rfl
 ·subst hg
  refine OwnS.made ⟨?_, fun r hr => by rw [List.eq_of_mem_replicate hr]; rfl⟩
  have := heap_alloc_new W (.cells (madeCells (Value.string ⟨#[]⟩).cells ((n + 1) * i.size)) 9)
  have hf := made_flat (Value.string ⟨#[]⟩).cells (n + 1) (by decide)
  unfold Bx
  rw [this, hs]
  exact congrArg (fun c => some (Obj.cells c 9 (0, 0))) (Array.toList_inj.1 hf)
theorem rep_set {α : Type} (a z : α) (j k : Nat) : (List.replicate j a ++ List.replicate (k + 1) z).set j a = List.replicate (j + 1) a ++ List.replicate k z := by
 rw [List.set_append_right _ _ (by rw [List.length_replicate]; exact Nat.le_refl _), List.length_replicate, Nat.sub_self, List.replicate_succ (n := k), List.set_cons_zero, List.replicate_succ', List.append_assoc]; rfl
theorem rep_last {α : Type} (a b : α) (n : Nat) : (List.replicate (n + 1) a).set n b = List.replicate n a ++ [b] := by
 rw [List.replicate_succ', List.set_append_right _ _ (by rw [List.length_replicate]; exact Nat.le_refl _), List.length_replicate, Nat.sub_self]; rfl
theorem rep_at {α : Type} (a z : α) (j k : Nat) : (List.replicate j a ++ List.replicate (k + 1) z)[j]? = some z := by
 rw [List.getElem?_append_right (by rw [List.length_replicate]; exact Nat.le_refl _), List.length_replicate, Nat.sub_self]; rfl
theorem rep_len {α : Type} (a z : α) (j k : Nat) : (List.replicate j a ++ List.replicate k z).length = j + k := by
 rw [List.length_append, List.length_replicate, List.length_replicate]
set_option maxRecDepth 100000 in
theorem degrees_any (n m : Int) (c : List UInt8) (w : World) (hG : Glob w) (hn0 : -9223372036854775808 ≤ n) (hn1 : n ≤ 9223372036854775807) (hm0 : -9223372036854775808 ≤ m) (hm1 : m ≤ 9223372036854775807) :
  Calls Tryz.prog 5 #[.int .i64 n, .int .i64 m, .string ⟨c.toArray⟩] w fun e w' => e = .returned (.bool true) ∧ Below w.heap.size w w' := by
 have hsz : (⟨c.toArray⟩ : ByteArray).size = c.length := by simp [ByteArray.size]
 go_enter Tryz.func5, Tryz.ntmps5
 go_wp2_with fail
 ((with_reducible refine (keepMod_any n _ hn0 hn1).mono ?_))
 rintro e1 w1 ⟨N, hN, rfl, rfl⟩
 go_wp2_with fail
 ((with_reducible refine (keepMod_any m _ hm0 hm1).mono ?_))
 rintro e2 w2 ⟨M, hM, rfl, rfl⟩
 clear hn0 hn1 hm0 hm1
 by_cases h4 : c.length ≤ 4
 ·have h4i : ¬ (4 : Int) < (c.length : Int) := by omega
  go_wp2_with fail
  ((with_reducible refine (ratValid_any c _ hG (by omega)).mono ?_))
  rintro e3 w3 ⟨rfl, hb⟩
  unfold rd
  cases hr : readL c with
  | none =>
   clear hr
   go_wp2_with fail
   ((with_reducible refine (awake_any _ (hG.below hb)).mono ?_))
   rintro e9 w9 ⟨rfl, hb9⟩
   go_wp2_with fail
   go_ret
   exact ⟨rfl, hb.trans (hb9.mono hb.size)⟩
  | some q =>
   have HR := Lib.hid hr
   clear hr
   by_cases h48 : c = [48]
   ·subst h48
    clear HR
    go_wp2_with fail
    ((with_reducible refine (awake_any _ (hG.below hb)).mono ?_))
    rintro e9 w9 ⟨rfl, hb9⟩
    go_wp2_with fail
    go_ret
    exact ⟨rfl, hb.trans (hb9.mono hb.size)⟩
   ·have hne : (c == [48]) = false := beq_eq_false_iff_ne.2 h48
    have hq0 : q ≠ 0 := fun e => h48 (by have := txt_read HR.out; rw [e] at this; rw [← this]; exact txt_read rd_zero)
    go_wp2_with fail
    clear hne h48 hsz h4i
    obtain ⟨oa, ma, na⟩ := mkS N hN
    obtain ⟨ob, mb, nb⟩ := mkS M hM
    go_cut [7, 8] (fun s t W => ∃ x y, s = .slice (some ⟨x, 0, none⟩) (N + 1) (N + 1) ∧ t = .slice (some ⟨y, 0, none⟩) (M + 1) (M + 1) ∧ w.heap.size ≤ x ∧ w.heap.size ≤ y ∧ x ≠ y ∧ OwnS W x (List.replicate (N + 1) []) ∧ OwnS W y (List.replicate (M + 1) []) ∧ Below w.heap.size w W)
    case first =>
     go_region
     all_goals (
      go_wp2_with fail
      go_meet
      have hs3 := hb.size
      first
      | exact ⟨_, _, rfl, rfl, by omega, by omega, by omega, (na w3 _ rfl).below (((Below.refl _ _).alloc (Nat.le_refl _) _).drew), (nb _ _ (World.size_alloc _ _)).below (Below.refl _ _).drew, ((hb.alloc hb.size _).alloc (hb.alloc hb.size _).size _).drew⟩
      | exact ⟨_, _, rfl, rfl, by omega, by omega, by omega, (na _ _ (World.size_alloc _ _)).below (Below.refl _ _).drew, (nb w3 _ rfl).below (((Below.refl _ _).alloc (Nat.le_refl _) _).drew), ((hb.alloc hb.size _).alloc (hb.alloc hb.size _).size _).drew⟩)
    clear hb ma mb na nb
    obtain ⟨x, y, rfl, rfl, hx, hy, hxy, RX, RY, hb⟩ := hcut
    go_wp2_with fail
    go_loopg [9] (N + 1) (fun k i wr => ∃ j, Hid (j + k = N + 1) ∧ i = .int .i64 j ∧ OwnS wr x (List.replicate j [48] ++ List.replicate k []) ∧ OwnS wr y (List.replicate (M + 1) []) ∧ Below w.heap.size w wr)
    case atStart => exact ⟨0, by unfold Hid; omega, rfl, RX, RY, hb⟩
    case round =>
     clear RX RY hb
     obtain ⟨j, HJ, rfl, RX, RY, hb⟩ := hrel
     generalize wr = wx at *
     have hj0 : (0 : Int) ≤ (j : Int) := by omega
     cases gk with
     | zero =>
      have hj : j = N + 1 := HJ.out
      have hj1 : ¬ (j : Int) ≤ (N : Int) := by omega
      rw [List.replicate_zero, List.append_nil, hj] at RX
      clear HJ hj
      go_wp2_with fail
      go_loopg [10] (M + 1) (fun k i wr => ∃ j, Hid (j + k = M + 1) ∧ i = .int .i64 j ∧ OwnS wr x (List.replicate (N + 1) [48]) ∧ OwnS wr y (List.replicate j [48] ++ List.replicate k []) ∧ Below w.heap.size w wr)
      case atStart => exact ⟨0, by unfold Hid; omega, rfl, RX, RY, hb⟩
      case round =>
       clear RX RY hb hj0 hj1
       obtain ⟨j, HJ, rfl, RX, RY, hb⟩ := hrel
       generalize wr = wx at *
       have hj0 : (0 : Int) ≤ (j : Int) := by omega
       cases gk with
       | zero =>
        have hj : j = M + 1 := HJ.out
        have hj1 : ¬ (j : Int) ≤ (M : Int) := by omega
        rw [List.replicate_zero, List.append_nil, hj] at RY
        clear HJ hj
        have qx := RX.at_ (i := N) (l := [48]) (by rw [List.getElem?_replicate, if_pos (by omega)])
        have qy := RY.at_ (i := M) (l := [48]) (by rw [List.getElem?_replicate, if_pos (by omega)])
        have fx := RX.free N
        have fy := RY.free M
        have n1 := cell_far wx x N (.string ⟨#[49]⟩) y M hxy
        have n2 : (wx.setCell ⟨x, N, none⟩ (.string ⟨#[49]⟩)).frozen? ⟨y, M, none⟩ = false := by
         obtain ⟨hp, hst⟩ := RX.stored (i := N) (by rw [List.length_replicate]; omega) [49]
         exact (RY.step hst (fun e => hxy e.symm)).free M
        rw [qy] at n1
        go_wp2_with fail
        obtain ⟨px, sx⟩ := RX.stored (i := N) (by rw [List.length_replicate]; omega) [49]
        obtain ⟨py, sy⟩ := (RY.step sx (fun e => hxy e.symm)).stored (i := M) (by rw [List.length_replicate]; omega) c
        rw [rep_last] at px py
        have hA := (px.step sy hxy).strs (N + 1) (by rw [List.length_append, List.length_replicate]; exact Nat.le_refl _)
        have hB := py.strs (M + 1) (by rw [List.length_append, List.length_replicate]; exact Nat.le_refl _)
        replace hb := below_step (below_step hb sx hx) sy hy
        rw [List.length_append, List.length_replicate, List.length_singleton] at hA hB
        clear px py sx sy RX RY qx qy fx fy n1 n2 hj1 hj0
        generalize (wx.setCell ⟨x, N, none⟩ (.string ⟨#[49]⟩)).setCell ⟨y, M, none⟩ (.string ⟨c.toArray⟩) = W at *
        ((with_reducible refine (mul_mono N M c q _ _ W (hG.below hb) hN hM h4 HR.out hq0 hA hB).mono ?_))
        rintro e5 w5 ⟨v5, T, k5, rfl, h5, hT, hb5⟩
        replace hA := hA.below hb5
        replace hB := hB.below hb5
        replace hb := hb.trans (hb5.mono hb.size)
        obtain ⟨A5, c5, rfl, -⟩ := h5.form
        go_wp2_with fail
        ((with_reducible refine (cmp_mono N M c q _ _ w5 (hG.below hb) hN hM h4 HR.out hq0 hA hB).mono ?_))
        rintro e6 w6 ⟨v6, U, k6, rfl, h6, hU, hb6⟩
        replace h5 := h5.below hb6
        replace hb := hb.trans (hb6.mono hb.size)
        obtain ⟨A6, c6, rfl, -⟩ := h6.form
        clear hA hB h6 hb5 hb6 HR hq0
        have hNM : (N : Int) * (M : Int) = ((N * M : Nat) : Int) := (Int.natCast_mul N M).symm
        have hP : N * M ≤ 4096 := Nat.le_trans (Nat.mul_le_mul hN hM) (by decide)
        generalize N * M = P at *
        have hi0 : (0 : Int) ≤ (P : Int) := by omega
        have hi1 : (P : Int) ≤ 4096 := by omega
        rcases hT with ⟨hs, rfl, lT, gT⟩ | ⟨hs, rfl⟩
        ·have lTi : (T.length : Int) = (N : Int) + (M : Int) + 1 := by omega
         have hsi : (N : Int) + (M : Int) ≤ 64 := by omega
         obtain ⟨b5, o5, rfl, l5, q5⟩ := h5.at_ gT
         clear gT h5
         rcases hU with ⟨hp, rfl, lU⟩ | ⟨hp, rfl⟩
         ·have lUi : (U.length : Int) = (P : Int) + 1 := by omega
          have hpi : (P : Int) ≤ 64 := by omega
          go_wp2_with fail
          ((with_reducible refine (awake_any _ (hG.below hb)).mono ?_))
          rintro e9 w9 ⟨rfl, hb9⟩
          go_wp2_with fail
          go_ret
          exact ⟨rfl, hb.trans (hb9.mono hb.size)⟩
         ·have hpi : ¬ (P : Int) ≤ 64 := by omega
          go_wp2_with fail
          ((with_reducible refine (awake_any _ (hG.below hb)).mono ?_))
          rintro e9 w9 ⟨rfl, hb9⟩
          go_wp2_with fail
          go_ret
          exact ⟨rfl, hb.trans (hb9.mono hb.size)⟩
        ·have hsi : ¬ (N : Int) + (M : Int) ≤ 64 := by omega
         rcases hU with ⟨hp, rfl, lU⟩ | ⟨hp, rfl⟩
         ·have lUi : (U.length : Int) = (P : Int) + 1 := by omega
          have hpi : (P : Int) ≤ 64 := by omega
          go_wp2_with fail
          ((with_reducible refine (awake_any _ (hG.below hb)).mono ?_))
          rintro e9 w9 ⟨rfl, hb9⟩
          go_wp2_with fail
          go_ret
          exact ⟨rfl, hb.trans (hb9.mono hb.size)⟩
         ·have hpi : ¬ (P : Int) ≤ 64 := by omega
          go_wp2_with fail
          ((with_reducible refine (awake_any _ (hG.below hb)).mono ?_))
          rintro e9 w9 ⟨rfl, hb9⟩
          go_wp2_with fail
          go_ret
          exact ⟨rfl, hb.trans (hb9.mono hb.size)⟩
       | succ k =>
        have hj1 : (j : Int) ≤ (M : Int) := by have := HJ.out; omega
        have q0 := RY.at_ (rep_at _ _ j k)
        have f0 := RY.free j
        go_wp2_with fail
        obtain ⟨hp, hst⟩ := RY.stored (i := j) (by rw [rep_len]; omega) [48]
        rw [rep_set] at hp
        have hx' := RX.step hst hxy
        have hb' := below_step hb hst hy
        go_roundg k
        case rel => exact ⟨j + 1, by have := HJ.out; unfold Hid; omega, by go_num, hx', hp, hb'⟩
        case measure => omega
     | succ k =>
      have hj1 : (j : Int) ≤ (N : Int) := by have := HJ.out; omega
      have q0 := RX.at_ (rep_at _ _ j k)
      have f0 := RX.free j
      go_wp2_with fail
      obtain ⟨hp, hst⟩ := RX.stored (i := j) (by rw [rep_len]; omega) [48]
      rw [rep_set] at hp
      have hy' := RY.step hst (fun e => hxy e.symm)
      have hb' := below_step hb hst hx
      go_roundg k
      case rel => exact ⟨j + 1, by have := HJ.out; unfold Hid; omega, by go_num, hp, hy', hb'⟩
      case measure => omega
 ·have h4i : (4 : Int) < (c.length : Int) := by omega
  go_wp2_with fail
  have hb := Below.refl w.heap.size w
  ((with_reducible refine (awake_any _ (hG.below hb)).mono ?_))
  rintro e9 w9 ⟨rfl, hb9⟩
  go_wp2_with fail
  go_ret
  exact ⟨rfl, hb.trans (hb9.mono hb.size)⟩
end Go.Proofs.YtoimnlnaaklinaaGreatDoor
