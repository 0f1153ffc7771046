/-
  DERIVED. GIVEN WITH THE SEED: THE CARDS: each row of YtgjeoghojliocaaGreatDoorRows.lean that lists a variable, with what it lists TIED to the program's text (the seventh form; the later family's looks); each row that meets fmt, with fmt's text TOLD by the authors' own Lean function (tested against real Go, not proved from fmt's source: count such statements apart). THE CARD IS WHAT COUNTS. Prove the row's statement (the work); the ties are given (YtgjeoghojliocaaGreatDoorTie.lean); close each card by the builder's one call (the guide's Derived/Test/ToyasCard.lean, 'card_holds'). Laid BY PROGRAM, IN A SANDBOX (cutbox-door.mjs). By AI agents, Wed Nov 11 2026. No macro, syntax, notation, axiom, sorry.
-/
import Derived.Test.YtgjeoghojliocaaGreatDoorRows
import GoSem.ClaimSeven
namespace Go.Proofs.YtgjeoghojliocaaGreatDoor
namespace Rows

/-- THE TIED CARD OF 'sosoptlaw09.RootsIsolate'. -/
def rootsIsolateCard : Claim7 := { stood := { row := rootsIsolateRow, standIns := [], harness := (true, "386cb6481a9c287615c49bf18e5b5cf4ce2129b5d8ad58661b15ecc7b4ecdf79"), looks := false }, kinds := [], alts := [], laidByText := true, laidKinds := [.data, .data, .data], laidTests := true, laidLooks := .later }
def RootsIsolateCardSaid : Prop := Claim7.holds Tryz.pinned (.plain (OpenSpec.ofChange rootsIsolateSpec)) rootsIsolateCard

/-- THE SECOND FORM's CARD OF 'sosoptlaw09.RootsIsolate'. -/
def rootsIsolateUptoCard : Claim7 := { stood := { row := rootsIsolateUptoRow, standIns := [], harness := (true, "386cb6481a9c287615c49bf18e5b5cf4ce2129b5d8ad58661b15ecc7b4ecdf79"), looks := false }, kinds := [], alts := [], laidByText := true, laidKinds := [.data, .data, .data], laidTests := true, laidLooks := .later }
def RootsIsolateUptoCardSaid : Prop := Claim7.holds Tryz.pinned (.plain (OpenSpec.upto rootsIsolateSpec)) rootsIsolateUptoCard
end Rows
end Go.Proofs.YtgjeoghojliocaaGreatDoor
