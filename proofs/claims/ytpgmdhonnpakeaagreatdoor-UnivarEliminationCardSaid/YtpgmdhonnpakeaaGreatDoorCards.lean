/-
  DERIVED. GIVEN WITH THE SEED: THE CARDS: each row of YtpgmdhonnpakeaaGreatDoorRows.lean that lists a variable, with what it lists TIED to the program's text (the seventh form; the later family's looks); each row that meets fmt, with fmt's text TOLD by the authors' own Lean function (tested against real Go, not proved from fmt's source: count such statements apart). THE CARD IS WHAT COUNTS. Prove the row's statement (the work); the ties are given (YtpgmdhonnpakeaaGreatDoorTie.lean); close each card by the builder's one call (the guide's Derived/Test/ToyasCard.lean, 'card_holds'). Laid BY PROGRAM, IN A SANDBOX (cutbox-door.mjs). By AI agents, Wed Nov 11 2026. No macro, syntax, notation, axiom, sorry.
-/
import Derived.Test.YtpgmdhonnpakeaaGreatDoorRows
import GoSem.ClaimSeven
namespace Go.Proofs.YtpgmdhonnpakeaaGreatDoor
namespace Rows

/-- THE TIED CARD OF 'sosoptlaw08.UnivarResultant'. -/
def univarResultantCard : Claim7 := { stood := { row := univarResultantRow, standIns := [], harness := (true, "9044725ac5a77dd78cafb8918a7faa699f1a6a56992297b1c9ef7c6db13b1c31"), looks := false }, kinds := [], alts := [], laidByText := true, laidKinds := [.data, .data, .data], laidTests := true, laidLooks := .later }
def UnivarResultantCardSaid : Prop := Claim7.holds Tryz.pinned (.plain (OpenSpec.ofChange univarResultantSpec)) univarResultantCard

/-- THE TIED CARD OF 'sosoptlaw08.UnivarElimination'. -/
def univarEliminationCard : Claim7 := { stood := { row := univarEliminationRow, standIns := [], harness := (true, "9044725ac5a77dd78cafb8918a7faa699f1a6a56992297b1c9ef7c6db13b1c31"), looks := false }, kinds := [], alts := [], laidByText := true, laidKinds := [.data, .data, .data], laidTests := true, laidLooks := .later }
def UnivarEliminationCardSaid : Prop := Claim7.holds Tryz.pinned (.plain (OpenSpec.ofChange univarEliminationSpec)) univarEliminationCard

/-- THE SECOND FORM's CARD OF 'sosoptlaw08.UnivarResultant'. -/
def univarResultantUptoCard : Claim7 := { stood := { row := univarResultantUptoRow, standIns := [], harness := (true, "9044725ac5a77dd78cafb8918a7faa699f1a6a56992297b1c9ef7c6db13b1c31"), looks := false }, kinds := [], alts := [], laidByText := true, laidKinds := [.data, .data, .data], laidTests := true, laidLooks := .later }
def UnivarResultantUptoCardSaid : Prop := Claim7.holds Tryz.pinned (.plain (OpenSpec.upto univarResultantSpec)) univarResultantUptoCard

/-- THE SECOND FORM's CARD OF 'sosoptlaw08.UnivarElimination'. -/
def univarEliminationUptoCard : Claim7 := { stood := { row := univarEliminationUptoRow, standIns := [], harness := (true, "9044725ac5a77dd78cafb8918a7faa699f1a6a56992297b1c9ef7c6db13b1c31"), looks := false }, kinds := [], alts := [], laidByText := true, laidKinds := [.data, .data, .data], laidTests := true, laidLooks := .later }
def UnivarEliminationUptoCardSaid : Prop := Claim7.holds Tryz.pinned (.plain (OpenSpec.upto univarEliminationSpec)) univarEliminationUptoCard
end Rows
end Go.Proofs.YtpgmdhonnpakeaaGreatDoor
