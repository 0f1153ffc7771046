/-
  Contracts of functions that the statement reaches, and plain laws: RatV.
-/
import Derived.Test.YtoimnlnaaklinaaGreatDoorA20
set_option linter.unusedVariables false
set_option linter.unusedSimpArgs false
set_option maxHeartbeats 8000000
namespace Go.Proofs.YtoimnlnaaklinaaGreatDoor
open Go.RowKit Sos
def rd' (l : List UInt8) : Bool := (readL l).isSome
theorem decVal_cap {l : List UInt8} (h : Digs l) (hl : l.length ≤ 9) : decVal l < 1000000000 := by
 have h1 := decVal_lt h
 have h2 : 10 ^ l.length ≤ 10 ^ 9 := Nat.pow_le_pow_right (by decide) hl
 have h3 : 10 ^ 9 = 1000000000 := rfl
 omega
theorem digs_take {l : List UInt8} (h : Digs l) (k : Nat) : Digs (l.take k) := fun c hc => h c (List.mem_of_mem_take hc)
theorem digitsValue_at (s : ByteArray) (w : World) (hd : Digs s.data.toList) (hl : s.size ≤ 9) :
  Calls Tryz.prog 68 #[.string s] w fun e w' => e = .returned (.int .i64 (decVal s.data.toList : Nat)) ∧ w = w' := by
 have hls : s.data.toList.length = s.size := by simp
 go_enter Tryz.func68, Tryz.ntmps68
 go_wp2_with fail
 go_loop [3, 7] (fun v i => ∃ k : Nat, k ≤ s.size ∧ i = .int .i64 k ∧ v = .int .i64 (decVal (s.data.toList.take k) : Nat)) (fun _ i => s.size - (intOf i).toNat)
 case atStart => exact ⟨0, by omega, rfl, rfl⟩
 case round =>
  obtain ⟨k, hk, rfl, rfl⟩ := hrel
  have h0 : (0 : Int) ≤ (k : Int) := by omega
  have hcap := decVal_cap (digs_take hd k) (by rw [List.length_take]; omega)
  by_cases hlt : k < s.size
  ·have hlt' : (k : Int) < (s.size : Int) := by omega
   have hg : s.data.toList[k]? = some s[k] := by rw [List.getElem?_eq_getElem (by simpa using hlt)]; rfl
   obtain ⟨d1, d2⟩ := hd s[k] (List.mem_of_getElem? hg)
   have e1 : (48 : Int) ≤ (s[k].toNat : Int) := by omega
   have e2 : (s[k].toNat : Int) ≤ 57 := by omega
   have hst : decVal (s.data.toList.take (k + 1)) = 10 * decVal (s.data.toList.take k) + (s[k].toNat - 48) := by
    rw [List.take_add_one, hg, Option.toList_some, decVal_snoc]
   have HST := Lib.hid hst
   clear hg hst
   generalize decVal (s.data.toList.take k) = V at *
   go_wp2_with fail
   go_round
   case rel => exact ⟨k + 1, by omega, by simp, by rw [HST.out]; congr 1; omega⟩
   case measure => simp [intOf]; omega
  ·have hk' : k = s.size := by omega
   have hlt' : ¬ (k : Int) < (s.size : Int) := by omega
   have HT : Hid (s.data.toList.take k = s.data.toList) := by unfold Hid; rw [hk']; exact List.take_of_length_le (by omega)
   clear hk'
   go_wp2_with fail
   go_ret
   rw [HT.out]
   exact ⟨rfl, rfl⟩
theorem digitsValue_any (l : List UInt8) (w : World) (hd : Digs l) (hl : l.length ≤ 9) : Calls Tryz.prog 68 #[.string ⟨l.toArray⟩] w fun e w' => e = .returned (.int .i64 (decVal l : Nat)) ∧ w = w' :=
 digitsValue_at ⟨l.toArray⟩ w hd (by simpa [ByteArray.size] using hl)
theorem gcd64_any (a b : Nat) (w : World) (ha : a < 1000000000) (hb : b < 1000000000) :
  Calls Tryz.prog 69 #[.int .i64 a, .int .i64 b] w fun e w' => e = .returned (.int .i64 (Nat.gcd a b : Nat)) ∧ Below w.heap.size w w' := by
 go_enter Tryz.func69, Tryz.ntmps69
 go_wp2_with fail
 go_loopw [0, 1] (fun u v wr => ∃ x y : Nat, u = .int .i64 x ∧ v = .int .i64 y ∧ x < 1000000000 ∧ y < 1000000000 ∧ Hid (Nat.gcd x y = Nat.gcd a b) ∧ Below w.heap.size w wr) (fun _ v _ => (intOf v).toNat)
 case atStart => exact ⟨a, b, rfl, rfl, ha, hb, rfl, Below.refl _ _⟩
 case round =>
  obtain ⟨x, y, rfl, rfl, hx, hy, HG, hbw⟩ := hrel
  by_cases h0 : y = 0
  ·have h0' : ((y : Int) == 0) = true := by rw [h0]; rfl
   have HX : Hid (x = Nat.gcd a b) := by have := HG.out; rw [h0, Nat.gcd_zero_right] at this; exact this
   have h0i : (y : Int) = 0 := by omega
   clear h0'
   obtain rfl : y = 0 := h0
   go_wp2_with fail
   go_ret
   rw [← HX.out]
   exact ⟨rfl, hbw⟩
  ·have hy0 : (0 : Int) < (y : Int) := by omega
   have hx0 : (0 : Int) ≤ (x : Int) := by omega
   have hne : ((y : Int) == 0) = false := by simp; exact h0
   have hm : (x : Int) % (y : Int) = ((x % y : Nat) : Int) := by omega
   have HM := Lib.hid hm
   have hml : x % y < y := Nat.mod_lt _ (by omega)
   have HG2 : Hid (Nat.gcd y (x % y) = Nat.gcd a b) := by unfold Hid; rw [← HG.out, Nat.gcd_comm x y, Nat.gcd_rec y x, Nat.gcd_comm]
   have hbd := hbw.drew
   clear hm
   go_wp2_with fail
   go_region
   all_goals (
    go_wp2_with fail
    go_roundw
    case rel => exact ⟨y, x % y, rfl, by rw [← HM.out], by omega, by omega, HG2, hbd⟩
    case measure => simp [intOf]; omega)
theorem rd_whole {l n : List UInt8} {neg : Bool} (h : splitL l = some (neg, n, [])) : rd' l = true := by unfold rd'; rw [readL_whole h]; rfl
theorem rd_frac {l n d : List UInt8} {neg : Bool} (h : splitL l = some (neg, n, d)) (hd : d ≠ []) : rd' l = decide (Nat.gcd (decVal n) (decVal d) = 1) := by
 unfold rd'; rw [readL_frac h hd]
 by_cases hg : Nat.gcd (decVal n) (decVal d) = 1
 ·rw [if_pos hg, decide_eq_true hg]; rfl
 ·rw [if_neg hg, decide_eq_false hg]; rfl
set_option maxRecDepth 100000 in
theorem readShort_any (l : List UInt8) (w : World) (hl : l.length ≤ 1099511627776) :
  Calls Tryz.prog 38 #[.string ⟨l.toArray⟩] w fun e w' => ∃ n d ok, e = .returned (.tuple #[.agg #[.int .i64 n, .int .i64 d], .bool ok]) ∧ (ok = true → rd' l = true) ∧ Below w.heap.size w w' := by
 have hsz : (⟨l.toArray⟩ : ByteArray).size = l.length := by simp [ByteArray.size]
 have hsp := fun W => split_any l W hl
 go_enter Tryz.func38, Tryz.ntmps38
 by_cases h20 : l.length ≤ 20
 ·have h20' : ¬ (20 : Int) < (l.length : Int) := by omega
  go_wp2_with fail
  have R := Bx.new w [.int .i64 0, .int .i64 0] 73
  have hb : Below w.heap.size w (w.alloc (.cells #[.int .i64 0, .int .i64 0] 73)) := (Below.refl _ _).alloc (Nat.le_refl _) _
  generalize w.alloc (.cells #[.int .i64 0, .int .i64 0] 73) = w0 at *
  have R_l := R.lt
  ((with_reducible refine (hsp w0).mono ?_))
  rintro e1 w1 ⟨neg, n, d, ok, rfl, hok, hno, hb1⟩
  clear hsp
  replace R := R.below hb1
  replace hb := hb.trans (hb1.mono hb.size)
  have R_l1 := R.lt
  have R_0 := R.cell 0 rfl
  have R_1 := R.cell 1 rfl
  have R_f0 := R.free 0
  have R_f1 := R.free 1
  have hsn : (⟨n.toArray⟩ : ByteArray).size = n.length := by simp [ByteArray.size]
  have hsd : (⟨d.toArray⟩ : ByteArray).size = d.length := by simp [ByteArray.size]
  cases ok with
  | false =>
   clear hok hno
   go_wp2_with fail
   have R' := (R.set 0 (.int .i64 0)).set 1 (.int .i64 0)
   replace R' := R'.alloc (.cells #[.bool neg, .string ⟨n.toArray⟩, .string ⟨d.toArray⟩] 77)
   have R'_0 := R'.cell 0 rfl
   have R'_1 := R'.cell 1 rfl
   have hb' := (hb.setCell (p := ⟨w.heap.size, 0, none⟩) (Nat.le_refl _) (.int .i64 0)).setCell (p := ⟨w.heap.size, 1, none⟩) (Nat.le_refl _) (.int .i64 0)
   replace hb' := hb'.alloc hb'.size (.cells #[.bool neg, .string ⟨n.toArray⟩, .string ⟨d.toArray⟩] 77)
   exact bodyPost_ret (v := .tuple #[.agg #[.int .i64 0, .int .i64 0], .bool false]) (by simp [results, Tryz.results38, go_sem, R'_0, R'_1]) rfl ⟨_, _, false, rfl, (fun h => by cases h), hb'⟩
  | true =>
   have hs := hok rfl
   obtain ⟨hp, hj⟩ := split_parts hs
   have hnd := hp.n_digs
   have hdd := hp.d_digs
   have HS := Lib.hid hs
   clear hok hno hs hp hj
   by_cases hn9 : n.length ≤ 9
   ·by_cases hd9 : d.length ≤ 9
    ·have hdv := fun W => digitsValue_any n W hnd hn9
     have cV := decVal_cap hnd hn9
     have cV0 : (0 : Int) ≤ (decVal n : Nat) := by omega
     have hn9' : ¬ (9 : Int) < (n.length : Int) := by omega
     have hd9' : ¬ (9 : Int) < (d.length : Int) := by omega
     cases d with
     | nil =>
      have HRD : Hid (rd' l = true) := rd_whole HS.out
      generalize decVal n = V at *
      cases neg with
      | false =>
       go_wp2_with (go_at_call 68; (with_reducible refine (hdv _).mono ?_); rintro e2 w2 ⟨rfl, rfl⟩)
       have R' := (R.set 0 (.int .i64 V)).set 1 (.int .i64 1)
       replace R' := R'.alloc (.cells #[.bool false, .string ⟨n.toArray⟩, .string ⟨#[]⟩] 77)
       replace R' := R'.alloc (.cells #[.int .i64 V, .int .i64 1] 73)
       have R'_0 := R'.cell 0 rfl
       have R'_1 := R'.cell 1 rfl
       have hb' := (hb.setCell (p := ⟨w.heap.size, 0, none⟩) (Nat.le_refl _) (.int .i64 V)).setCell (p := ⟨w.heap.size, 1, none⟩) (Nat.le_refl _) (.int .i64 1)
       replace hb' := hb'.alloc hb'.size (.cells #[.bool false, .string ⟨n.toArray⟩, .string ⟨#[]⟩] 77)
       replace hb' := hb'.alloc hb'.size (.cells #[.int .i64 V, .int .i64 1] 73)
       exact bodyPost_ret (v := .tuple #[.agg #[.int .i64 V, .int .i64 1], .bool true]) (by simp [results, Tryz.results38, go_sem, R'_0, R'_1]) rfl ⟨_, _, true, rfl, (fun _ => HRD.out), hb'⟩
      | true =>
       go_wp2_with (go_at_call 68; (with_reducible refine (hdv _).mono ?_); rintro e2 w2 ⟨rfl, rfl⟩)
       have R' := (R.set 0 (.int .i64 (-V))).set 1 (.int .i64 1)
       replace R' := R'.alloc (.cells #[.bool true, .string ⟨n.toArray⟩, .string ⟨#[]⟩] 77)
       replace R' := R'.alloc (.cells #[.int .i64 (-V), .int .i64 1] 73)
       have R'_0 := R'.cell 0 rfl
       have R'_1 := R'.cell 1 rfl
       have hb' := (hb.setCell (p := ⟨w.heap.size, 0, none⟩) (Nat.le_refl _) (.int .i64 (-V))).setCell (p := ⟨w.heap.size, 1, none⟩) (Nat.le_refl _) (.int .i64 1)
       replace hb' := hb'.alloc hb'.size (.cells #[.bool true, .string ⟨n.toArray⟩, .string ⟨#[]⟩] 77)
       replace hb' := hb'.alloc hb'.size (.cells #[.int .i64 (-V), .int .i64 1] 73)
       exact bodyPost_ret (v := .tuple #[.agg #[.int .i64 (-V), .int .i64 1], .bool true]) (by simp [results, Tryz.results38, go_sem, R'_0, R'_1]) rfl ⟨_, _, true, rfl, (fun _ => HRD.out), hb'⟩
     | cons c0 d0 =>
      have hdw := fun W => digitsValue_any (c0 :: d0) W hdd hd9
      have cD := decVal_cap hdd hd9
      have HRD : Hid (rd' l = decide (Nat.gcd (decVal n) (decVal (c0 :: d0)) = 1)) := rd_frac HS.out (by simp)
      have hd9'' : ¬ (9 : Int) < (d0.length : Int) + 1 := by have := hd9; rw [List.length_cons] at this; omega
      have hne : (⟨(c0 :: d0).toArray⟩ : ByteArray) ≠ ⟨#[]⟩ := fun h => by injection h with h; simp at h
      generalize decVal n = V at *
      generalize decVal (c0 :: d0) = D at *
      go_wp2_with (first | (go_at_call 68; (with_reducible refine (hdv _).mono ?_); rintro e2 w2 ⟨rfl, rfl⟩) | (go_at_call 68; (with_reducible refine (hdw _).mono ?_); rintro e2 w2 ⟨rfl, rfl⟩))
      have R3 := (R.alloc (.cells #[.bool neg, .string ⟨n.toArray⟩, .string ⟨(c0 :: d0).toArray⟩] 77)).alloc (.cells #[.int .i64 V, .int .i64 D] 73)
      have F3 := (Bx.new w1 [.bool neg, .string ⟨n.toArray⟩, .string ⟨(c0 :: d0).toArray⟩] 77).alloc (.cells #[.int .i64 V, .int .i64 D] 73)
      have X3 := Bx.newAt (w1.alloc (.cells #[.bool neg, .string ⟨n.toArray⟩, .string ⟨(c0 :: d0).toArray⟩] 77)) [.int .i64 V, .int .i64 D] 73 (w1.heap.size + 1) (World.size_alloc _ _)
      replace hb := (hb.alloc hb.size (.cells #[.bool neg, .string ⟨n.toArray⟩, .string ⟨(c0 :: d0).toArray⟩] 77))
      replace hb := hb.alloc hb.size (.cells #[.int .i64 V, .int .i64 D] 73)
      ((with_reducible refine (gcd64_any V D _ cV cD).mono ?_))
      rintro e3 w3 ⟨rfl, hb3⟩
      replace R := R3.below hb3
      replace F3 := F3.below hb3
      replace X3 := X3.below hb3
      replace hb := hb.trans (hb3.mono hb.size)
      replace R_0 := R.cell 0 rfl
      replace R_1 := R.cell 1 rfl
      replace R_f0 := R.free 0
      replace R_f1 := R.free 1
      have F_0 := F3.cell 0 rfl
      have X_0 := X3.cell 0 rfl
      have X_1 := X3.cell 1 rfl
      have X_f0 := X3.free 0
      have nXR : w1.heap.size + 1 ≠ w.heap.size := by omega
      by_cases hg : Nat.gcd V D = 1
      ·have hg' : (((Nat.gcd V D : Nat) : Int) == 1) = true := by rw [hg]; rfl
       have HR2 : Hid (rd' l = true) := by unfold Hid; rw [HRD.out]; exact decide_eq_true hg
       have hgi : ((Nat.gcd V D : Nat) : Int) = 1 := by omega
       rw [hgi]
       clear hg hg' hgi
       cases neg with
       | false =>
        go_wp2_with fail
        have R' := (R.set 0 (.int .i64 V)).set 1 (.int .i64 D)
        have R'_0 := R'.cell 0 rfl
        have R'_1 := R'.cell 1 rfl
        have hb' := (hb.setCell (p := ⟨w.heap.size, 0, none⟩) (Nat.le_refl _) (.int .i64 V)).setCell (p := ⟨w.heap.size, 1, none⟩) (Nat.le_refl _) (.int .i64 D)
        exact bodyPost_ret (v := .tuple #[.agg #[.int .i64 V, .int .i64 D], .bool true]) (by simp [results, Tryz.results38, go_sem, R'_0, R'_1]) rfl ⟨_, _, true, rfl, (fun _ => HR2.out), hb'⟩
       | true =>
        go_wp2_with fail
        replace R := R.far 0 (.int .i64 (-V)) nXR
        replace hb := hb.setCell (p := ⟨w1.heap.size + 1, 0, none⟩) (show w.heap.size ≤ w1.heap.size + 1 by omega) (.int .i64 (-V))
        have R' := (R.set 0 (.int .i64 (-V))).set 1 (.int .i64 D)
        have R'_0 := R'.cell 0 rfl
        have R'_1 := R'.cell 1 rfl
        have hb' := (hb.setCell (p := ⟨w.heap.size, 0, none⟩) (Nat.le_refl _) (.int .i64 (-V))).setCell (p := ⟨w.heap.size, 1, none⟩) (Nat.le_refl _) (.int .i64 D)
        exact bodyPost_ret (v := .tuple #[.agg #[.int .i64 (-V), .int .i64 D], .bool true]) (by simp [results, Tryz.results38, go_sem, R'_0, R'_1]) rfl ⟨_, _, true, rfl, (fun _ => HR2.out), hb'⟩
      ·have hg' : (((Nat.gcd V D : Nat) : Int) == 1) = false := by rw [beq_eq_false_iff_ne]; omega
       generalize ((Nat.gcd V D : Nat) : Int) = gg at *
       go_wp2_with fail
       have R' := (R.set 0 (.int .i64 0)).set 1 (.int .i64 0)
       have R'_0 := R'.cell 0 rfl
       have R'_1 := R'.cell 1 rfl
       have hb' := (hb.setCell (p := ⟨w.heap.size, 0, none⟩) (Nat.le_refl _) (.int .i64 0)).setCell (p := ⟨w.heap.size, 1, none⟩) (Nat.le_refl _) (.int .i64 0)
       exact bodyPost_ret (v := .tuple #[.agg #[.int .i64 0, .int .i64 0], .bool false]) (by simp [results, Tryz.results38, go_sem, R'_0, R'_1]) rfl ⟨_, _, false, rfl, (fun h => by cases h), hb'⟩
    ·have hn9' : ¬ (9 : Int) < (n.length : Int) := by omega
     have hd9' : (9 : Int) < (d.length : Int) := by omega
     go_wp2_with fail
     have R' := (R.set 0 (.int .i64 0)).set 1 (.int .i64 0)
     replace R' := R'.alloc (.cells #[.bool neg, .string ⟨n.toArray⟩, .string ⟨d.toArray⟩] 77)
     have R'_0 := R'.cell 0 rfl
     have R'_1 := R'.cell 1 rfl
     have hb' := (hb.setCell (p := ⟨w.heap.size, 0, none⟩) (Nat.le_refl _) (.int .i64 0)).setCell (p := ⟨w.heap.size, 1, none⟩) (Nat.le_refl _) (.int .i64 0)
     replace hb' := hb'.alloc hb'.size (.cells #[.bool neg, .string ⟨n.toArray⟩, .string ⟨d.toArray⟩] 77)
     exact bodyPost_ret (v := .tuple #[.agg #[.int .i64 0, .int .i64 0], .bool false]) (by simp [results, Tryz.results38, go_sem, R'_0, R'_1]) rfl ⟨_, _, false, rfl, (fun h => by cases h), hb'⟩
   ·have hn9' : (9 : Int) < (n.length : Int) := by omega
    go_wp2_with fail
    have R' := (R.set 0 (.int .i64 0)).set 1 (.int .i64 0)
    replace R' := R'.alloc (.cells #[.bool neg, .string ⟨n.toArray⟩, .string ⟨d.toArray⟩] 77)
    have R'_0 := R'.cell 0 rfl
    have R'_1 := R'.cell 1 rfl
    have hb' := (hb.setCell (p := ⟨w.heap.size, 0, none⟩) (Nat.le_refl _) (.int .i64 0)).setCell (p := ⟨w.heap.size, 1, none⟩) (Nat.le_refl _) (.int .i64 0)
    replace hb' := hb'.alloc hb'.size (.cells #[.bool neg, .string ⟨n.toArray⟩, .string ⟨d.toArray⟩] 77)
    exact bodyPost_ret (v := .tuple #[.agg #[.int .i64 0, .int .i64 0], .bool false]) (by simp [results, Tryz.results38, go_sem, R'_0, R'_1]) rfl ⟨_, _, false, rfl, (fun h => by cases h), hb'⟩
 ·have h20' : (20 : Int) < (l.length : Int) := by omega
  clear hsp
  go_wp2_with fail
  have R := Bx.new w [.int .i64 0, .int .i64 0] 73
  have R_0 := R.cell 0 rfl
  have R_1 := R.cell 1 rfl
  have hb : Below w.heap.size w (w.alloc (.cells #[.int .i64 0, .int .i64 0] 73)) := (Below.refl _ _).alloc (Nat.le_refl _) _
  exact bodyPost_ret (v := .tuple #[.agg #[.int .i64 0, .int .i64 0], .bool false]) (by simp [results, Tryz.results38, go_sem, R_0, R_1]) rfl ⟨_, _, false, rfl, (fun h => by cases h), hb⟩
end Go.Proofs.YtoimnlnaaklinaaGreatDoor
