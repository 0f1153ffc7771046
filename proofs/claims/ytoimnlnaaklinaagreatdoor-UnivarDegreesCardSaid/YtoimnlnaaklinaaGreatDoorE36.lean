/-
  Contracts of functions that the statement reaches, and plain laws: KeepM.
-/
import Derived.Test.YtoimnlnaaklinaaGreatDoorA05
set_option linter.unusedVariables false
set_option linter.unusedSimpArgs false
set_option maxHeartbeats 8000000
namespace Go.Proofs.YtoimnlnaaklinaaGreatDoor
open Go.RowKit Sos
theorem keepMod_any (n : Int) (w : World) (h0 : -9223372036854775808 ≤ n) (h1 : n ≤ 9223372036854775807) :
  Calls Tryz.prog 17 #[.int .i64 n, .int .i64 65] w fun e w' => ∃ m : Nat, m ≤ 64 ∧ e = .returned (.int .i64 m) ∧ w = w' := by
 have hr := Int.tmod_lt_of_pos n (show (0 : Int) < 65 by decide)
 have hr0 : -65 < n.tmod 65 := by
  have := Int.tmod_lt_of_pos (-n) (show (0 : Int) < 65 by decide)
  rw [Int.neg_tmod] at this; omega
 go_enter Tryz.func17, Tryz.ntmps17
 go_wp2
 ·have e : n.tmod 65 + 65 = (((n.tmod 65 + 65).toNat : Nat) : Int) := by omega
  rw [e]
  go_ret
  exact ⟨_, by omega, rfl, rfl⟩
 ·have e : n.tmod 65 = (((n.tmod 65).toNat : Nat) : Int) := by omega
  rw [e]
  go_ret
  exact ⟨_, by omega, rfl, rfl⟩
end Go.Proofs.YtoimnlnaaklinaaGreatDoor
