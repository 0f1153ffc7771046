/-
  Contracts of functions that the statement reaches, and plain laws: RatW.
-/
import Derived.Test.YtoimnlnaaklinaaGreatDoorA20
import Derived.Test.YtoimnlnaaklinaaGreatDoorA25
import Derived.Test.YtoimnlnaaklinaaGreatDoorA26
import Derived.Test.YtoimnlnaaklinaaGreatDoorE34
set_option linter.unusedVariables false
set_option linter.unusedSimpArgs false
set_option maxHeartbeats 8000000
namespace Go.Proofs.YtoimnlnaaklinaaGreatDoor
open Go.RowKit Sos
theorem nl_dec {n : List UInt8} (h : Digs n) : nl (decVal n) ≤ n.length := by
 refine nl_le (Nat.lt_of_lt_of_le (decVal_lt h) (Nat.pow_le_pow_left (by decide) _))
set_option maxRecDepth 100000 in
theorem ratValid_any (l : List UInt8) (w : World) (hG : Glob w) (hl : l.length ≤ 1073741824) :
  Calls Tryz.prog 18 #[.string ⟨l.toArray⟩] w fun e w' => e = .returned (.bool (rd l)) ∧ Below w.heap.size w w' := by
 go_enter Tryz.func18, Tryz.ntmps18
 go_wp2_with fail
 ((with_reducible refine (readShort_any l w (by omega)).mono ?_))
 rintro e1 w1 ⟨x, y, ok, rfl, hok, hb⟩
 cases ok with
 | true =>
  have HR : Hid (rd l = true) := hok rfl
  clear hok
  go_wp2_with fail
  go_ret
  rw [HR.out]
  exact ⟨rfl, hb.alloc hb.size _⟩
 | false =>
  clear hok
  go_wp2_with fail
  replace hb := hb.alloc hb.size (.cells #[.int .i64 x, .int .i64 y] 73)
  generalize w1.alloc (.cells #[.int .i64 x, .int .i64 y] 73) = w2 at *
  ((with_reducible refine (split_any l w2 (by omega)).mono ?_))
  rintro e3 w3 ⟨neg, n, d, ok, rfl, hok, hno, hb3⟩
  replace hb := hb.trans (hb3.mono hb.size)
  cases ok with
  | false =>
   have HR : Hid (rd l = false) := by unfold Hid rd; rw [readL_none (hno rfl)]; rfl
   clear hok hno
   go_wp2_with fail
   go_ret
   rw [HR.out]
   exact ⟨rfl, hb.alloc hb.size _⟩
  | true =>
   have hs := hok rfl
   obtain ⟨hp, hj⟩ := split_parts hs
   have hnd := hp.n_digs
   have hdd := hp.d_digs
   obtain ⟨ln, ld⟩ := decVal_len hj
   clear hok hno hp hj
   cases d with
   | nil =>
    have HR : Hid (rd l = true) := rd_whole hs
    clear hs
    go_wp2_with fail
    go_ret
    rw [HR.out]
    exact ⟨rfl, hb.alloc hb.size _⟩
   | cons c0 d0 =>
    have HR : Hid (rd l = decide (Nat.gcd (decVal n) (decVal (c0 :: d0)) = 1)) := rd_frac hs (by simp)
    have hne : (⟨(c0 :: d0).toArray⟩ : ByteArray) ≠ ⟨#[]⟩ := fun h => by injection h with h; simp at h
    have bn := Nat.le_trans (nl_dec hnd) ln
    have bd := Nat.le_trans (nl_dec hdd) ld
    have hp1 := fun W => parse_any ⟨n.toArray⟩ W (by simpa using hnd) (by simp [ByteArray.size]; omega)
    have hp2 := fun W => parse_any ⟨(c0 :: d0).toArray⟩ W (by simpa using hdd) (by show (c0 :: d0).toArray.size ≤ _; rw [List.size_toArray]; omega)
    have hgc := fun W v u hG h1 h2 => gcd_any ((decVal n : Nat) : Int) ((decVal (c0 :: d0) : Nat) : Int) v u W hG h1 h2 1073741824 (by rw [Int.natAbs_natCast]; omega) (by rw [Int.natAbs_natCast]; omega) (by unfold LIM; omega)
    simp only [Int.natAbs_natCast] at hgc
    have bg : nl (Nat.gcd (decVal n) (decVal (c0 :: d0))) ≤ 17592186044416 := by
     rcases Nat.eq_zero_or_pos (decVal n) with h0 | h0
     ·rw [h0, Nat.gcd_zero_left]; omega
     ·exact Nat.le_trans (nl_gcd_left _ _ _ (by omega) bn) (by omega)
    have hio := fun W v h => isOne_any ((Nat.gcd (decVal n) (decVal (c0 :: d0)) : Nat) : Int) v W h (by rw [Int.natAbs_natCast]; exact bg)
    have hde : decide (((Nat.gcd (decVal n) (decVal (c0 :: d0)) : Nat) : Int) = 1) = rd l := by rw [HR.out]; exact decide_eq_decide.2 ⟨fun h => by omega, fun h => by omega⟩
    rw [hde] at hio
    have e1 : (⟨n.toArray⟩ : ByteArray).data.toList = n := rfl
    have e2 : (⟨(c0 :: d0).toArray⟩ : ByteArray).data.toList = c0 :: d0 := rfl
    rw [e1] at hp1
    rw [e2] at hp2
    obtain ⟨gg, hgg⟩ : ∃ gg, gg = Nat.gcd (decVal n) (decVal (c0 :: d0)) := ⟨_, rfl⟩
    rw [← hgg] at hgc hio
    clear hs hnd hdd ln ld bn bd e1 e2 hde HR bg hgg
    go_wp2_with fail
    have F := Bx.new w3 [.bool neg, .string ⟨n.toArray⟩, .string ⟨(c0 :: d0).toArray⟩] 77
    replace hb := hb.alloc hb.size (.cells #[.bool neg, .string ⟨n.toArray⟩, .string ⟨(c0 :: d0).toArray⟩] 77)
    have hG4 := hG.below hb
    generalize hf : w3.heap.size = f at *
    generalize w3.alloc (.cells #[.bool neg, .string ⟨n.toArray⟩, .string ⟨(c0 :: d0).toArray⟩] 77) = w4 at *
    clear hf
    have F_1 := F.cell 1 rfl
    have F_2 := F.cell 2 rfl
    have F_ltw4 := F.lt
    have KS := Lib.hid (show ∀ w', Below w4.heap.size w4 w' → (w'.cell? ⟨f, 1, none⟩ = some (.string ⟨n.toArray⟩) ∧ w'.cell? ⟨f, 2, none⟩ = some (.string ⟨(c0 :: d0).toArray⟩)) from fun w' hU => ⟨(hU.cell (p := ⟨f, 1, none⟩) F_ltw4).trans (F.cell 1 rfl), (hU.cell (p := ⟨f, 2, none⟩) F_ltw4).trans (F.cell 2 rfl)⟩)
    go_region_held3 (fun w' => w'.cell? ⟨f, 1, none⟩ = some (.string ⟨n.toArray⟩) ∧ w'.cell? ⟨f, 2, none⟩ = some (.string ⟨(c0 :: d0).toArray⟩))
     (exact KS.out _ (by with_reducible (repeat (first | exact Below.refl _ _ | refine ua ?_ | refine ud ?_ | refine ut ?_ hb5 | refine ut ?_ hb6 | refine ut ?_ hb7 | refine ut ?_ hb8 | refine us ?_ (by omega)))))
     (first
      | (go_at_call 40; (with_reducible refine (hp1 _).mono ?_); rintro e5 w5 ⟨v5, rfl, h5, hb5⟩; have l5 := hb5.size; (try simp at l5); have TT5 : Below w4.heap.size w4 w5 := (by with_reducible (repeat (first | exact Below.refl _ _ | refine ua ?_ | refine ud ?_ | refine ut ?_ hb5 | refine ut ?_ hb6 | refine ut ?_ hb7 | refine ut ?_ hb8 | refine us ?_ (by omega)))); have ll5 := TT5.size; obtain ⟨s5, A5, k5, c5, rfl⟩ := h5.form)
      | (go_at_call 40; (with_reducible refine (hp2 _).mono ?_); rintro e6 w6 ⟨v6, rfl, h6, hb6⟩; have l6 := hb6.size; (try simp at l6); have TT6 : Below w4.heap.size w4 w6 := (by with_reducible (repeat (first | exact Below.refl _ _ | refine ua ?_ | refine ud ?_ | refine ut ?_ hb5 | refine ut ?_ hb6 | refine ut ?_ hb7 | refine ut ?_ hb8 | refine us ?_ (by omega)))); have ll6 := TT6.size; obtain ⟨s6, A6, k6, c6, rfl⟩ := h6.form)
      | (go_at_call 41; (with_reducible refine (hgc _ _ _ (hG4.below (by with_reducible (repeat (first | exact Below.refl _ _ | refine ua ?_ | refine ud ?_ | refine ut ?_ hb5 | refine ut ?_ hb6 | refine ut ?_ hb7 | refine ut ?_ hb8 | refine us ?_ (by omega))))) (h5.below (by with_reducible (repeat (first | exact Below.refl _ _ | refine ua ?_ | refine ud ?_ | refine ut ?_ hb5 | refine ut ?_ hb6 | refine ut ?_ hb7 | refine ut ?_ hb8 | refine us ?_ (by omega))))) (h6.below (by with_reducible (repeat (first | exact Below.refl _ _ | refine ua ?_ | refine ud ?_ | refine ut ?_ hb5 | refine ut ?_ hb6 | refine ut ?_ hb7 | refine ut ?_ hb8 | refine us ?_ (by omega)))))).mono ?_); rintro e7 w7 ⟨v7, rfl, h7, hb7⟩; have l7 := hb7.size; (try simp at l7); have TT7 : Below w4.heap.size w4 w7 := (by with_reducible (repeat (first | exact Below.refl _ _ | refine ua ?_ | refine ud ?_ | refine ut ?_ hb5 | refine ut ?_ hb6 | refine ut ?_ hb7 | refine ut ?_ hb8 | refine us ?_ (by omega)))); have ll7 := TT7.size; obtain ⟨s7, A7, k7, c7, rfl⟩ := h7.form)
      | (go_at_call 42; (with_reducible refine (hio _ _ (h7.below (by with_reducible (repeat (first | exact Below.refl _ _ | refine ua ?_ | refine ud ?_ | refine ut ?_ hb5 | refine ut ?_ hb6 | refine ut ?_ hb7 | refine ut ?_ hb8 | refine us ?_ (by omega)))))).mono ?_); rintro e8 w8 ⟨rfl, hb8⟩; have l8 := hb8.size; (try simp at l8); have TT8 : Below w4.heap.size w4 w8 := (by with_reducible (repeat (first | exact Below.refl _ _ | refine ua ?_ | refine ud ?_ | refine ut ?_ hb5 | refine ut ?_ hb6 | refine ut ?_ hb7 | refine ut ?_ hb8 | refine us ?_ (by omega)))); have ll8 := TT8.size; have hU8 : Below w4.heap.size w4 w8 := (by with_reducible (repeat (first | exact Below.refl _ _ | refine ua ?_ | refine ud ?_ | refine ut ?_ hb5 | refine ut ?_ hb6 | refine ut ?_ hb7 | refine ut ?_ hb8 | refine us ?_ (by omega)))); have Z8 := F.below hU8; skip))
    all_goals (
     go_wp2_with fail
     go_ret
     exact ⟨rfl, hb.trans (hU8.mono hb.size)⟩)
end Go.Proofs.YtoimnlnaaklinaaGreatDoor
