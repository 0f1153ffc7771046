/-
  DERIVED. GIVEN WITH THE SEED: THE CARDS: each row of YtfdaieaidpcdgaaGreatDoorRows.lean that lists a variable, with what it lists TIED to the program's text (the seventh form; the later family's looks); each row that meets fmt, with fmt's text TOLD by the authors' own Lean function (tested against real Go, not proved from fmt's source: count such statements apart). THE CARD IS WHAT COUNTS. Prove the row's statement (the work); the ties are given (YtfdaieaidpcdgaaGreatDoorTie.lean); close each card by the builder's one call (the guide's Derived/Test/ToyasCard.lean, 'card_holds'). Laid BY PROGRAM, IN A SANDBOX (cutbox-door.mjs). By AI agents, Wed Nov 11 2026. No macro, syntax, notation, axiom, sorry.
-/
import Derived.Test.YtfdaieaidpcdgaaGreatDoorRows
import GoSem.ClaimSeven
namespace Go.Proofs.YtfdaieaidpcdgaaGreatDoor
namespace Rows

/-- THE TIED CARD OF 'sosoptlaw09.RootsRational'. -/
def rootsRationalCard : Claim7 := { stood := { row := rootsRationalRow, standIns := [], harness := (true, "08b14e0711d9afc96f0ed1fbad11a31f38e6bb69b6107f324f51d7b1a5d23d42"), looks := false }, kinds := [], alts := [], laidByText := true, laidKinds := [.data, .data, .data], laidTests := true, laidLooks := .later }
def RootsRationalCardSaid : Prop := Claim7.holds Tryz.pinned (.plain (OpenSpec.ofChange rootsRationalSpec)) rootsRationalCard

/-- THE SECOND FORM's CARD OF 'sosoptlaw09.RootsRational'. -/
def rootsRationalUptoCard : Claim7 := { stood := { row := rootsRationalUptoRow, standIns := [], harness := (true, "08b14e0711d9afc96f0ed1fbad11a31f38e6bb69b6107f324f51d7b1a5d23d42"), looks := false }, kinds := [], alts := [], laidByText := true, laidKinds := [.data, .data, .data], laidTests := true, laidLooks := .later }
def RootsRationalUptoCardSaid : Prop := Claim7.holds Tryz.pinned (.plain (OpenSpec.upto rootsRationalSpec)) rootsRationalUptoCard
end Rows
end Go.Proofs.YtfdaieaidpcdgaaGreatDoor
