/-
  DERIVED. GIVEN WITH THE SEED: THE CARDS: each row of YtjgbleapffgbcaaGreatDoorRows.lean that lists a variable, with what it lists TIED to the program's text (the seventh form; the later family's looks); each row that meets fmt, with fmt's text TOLD by the authors' own Lean function (tested against real Go, not proved from fmt's source: count such statements apart). THE CARD IS WHAT COUNTS. Prove the row's statement (the work); the ties are given (YtjgbleapffgbcaaGreatDoorTie.lean); close each card by the builder's one call (the guide's Derived/Test/ToyasCard.lean, 'card_holds'). Laid BY PROGRAM, IN A SANDBOX (cutbox-door.mjs). By AI agents, Wed Nov 11 2026. No macro, syntax, notation, axiom, sorry.
-/
import Derived.Test.YtjgbleapffgbcaaGreatDoorRows
import GoSem.ClaimSeven
namespace Go.Proofs.YtjgbleapffgbcaaGreatDoor
namespace Rows

/-- THE TIED CARD OF 'sosoptlaw09.RootsKnown'. -/
def rootsKnownCard : Claim7 := { stood := { row := rootsKnownRow, standIns := [], harness := (true, "4930f4d1d8d8984928ed9ecf7475e79d35c0e34fdf98391f0b64666a4f46f7fa"), looks := false }, kinds := [], alts := [], laidByText := true, laidKinds := [.data, .data, .data], laidTests := true, laidLooks := .later }
def RootsKnownCardSaid : Prop := Claim7.holds Tryz.pinned (.plain (OpenSpec.ofChange rootsKnownSpec)) rootsKnownCard

/-- THE TIED CARD OF 'sosoptlaw09.RootsSquares'. -/
def rootsSquaresCard : Claim7 := { stood := { row := rootsSquaresRow, standIns := [], harness := (true, "4930f4d1d8d8984928ed9ecf7475e79d35c0e34fdf98391f0b64666a4f46f7fa"), looks := false }, kinds := [], alts := [], laidByText := true, laidKinds := [.data, .data, .data], laidTests := true, laidLooks := .later }
def RootsSquaresCardSaid : Prop := Claim7.holds Tryz.pinned (.plain (OpenSpec.ofChange rootsSquaresSpec)) rootsSquaresCard

/-- THE SECOND FORM's CARD OF 'sosoptlaw09.RootsKnown'. -/
def rootsKnownUptoCard : Claim7 := { stood := { row := rootsKnownUptoRow, standIns := [], harness := (true, "4930f4d1d8d8984928ed9ecf7475e79d35c0e34fdf98391f0b64666a4f46f7fa"), looks := false }, kinds := [], alts := [], laidByText := true, laidKinds := [.data, .data, .data], laidTests := true, laidLooks := .later }
def RootsKnownUptoCardSaid : Prop := Claim7.holds Tryz.pinned (.plain (OpenSpec.upto rootsKnownSpec)) rootsKnownUptoCard

/-- THE SECOND FORM's CARD OF 'sosoptlaw09.RootsSquares'. -/
def rootsSquaresUptoCard : Claim7 := { stood := { row := rootsSquaresUptoRow, standIns := [], harness := (true, "4930f4d1d8d8984928ed9ecf7475e79d35c0e34fdf98391f0b64666a4f46f7fa"), looks := false }, kinds := [], alts := [], laidByText := true, laidKinds := [.data, .data, .data], laidTests := true, laidLooks := .later }
def RootsSquaresUptoCardSaid : Prop := Claim7.holds Tryz.pinned (.plain (OpenSpec.upto rootsSquaresSpec)) rootsSquaresUptoCard
end Rows
end Go.Proofs.YtjgbleapffgbcaaGreatDoor
