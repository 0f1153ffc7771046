/-
  DERIVED. GIVEN WITH THE SEED: THE CARDS: each row of YtbmafhclcdcepaaGreatDoorRows.lean that lists a variable, with what it lists TIED to the program's text (the seventh form; the later family's looks); each row that meets fmt, with fmt's text TOLD by the authors' own Lean function (tested against real Go, not proved from fmt's source: count such statements apart). THE CARD IS WHAT COUNTS. Prove the row's statement (the work); the ties are given (YtbmafhclcdcepaaGreatDoorTie.lean); close each card by the builder's one call (the guide's Derived/Test/ToyasCard.lean, 'card_holds'). Laid BY PROGRAM, IN A SANDBOX (cutbox-door.mjs). By AI agents, Wed Nov 11 2026. No macro, syntax, notation, axiom, sorry.
-/
import Derived.Test.YtbmafhclcdcepaaGreatDoorRows
import GoSem.ClaimSeven
namespace Go.Proofs.YtbmafhclcdcepaaGreatDoor
namespace Rows

/-- THE TIED CARD OF 'sosoptlaw09.RootsNonNegative'. -/
def rootsNonNegativeCard : Claim7 := { stood := { row := rootsNonNegativeRow, standIns := [], harness := (true, "353e08ca5554401d538ffe0a8673115e68bc902ef78c0f0f2e65046875933c73"), looks := false }, kinds := [], alts := [], laidByText := true, laidKinds := [.data, .data, .data], laidTests := true, laidLooks := .later }
def RootsNonNegativeCardSaid : Prop := Claim7.holds Tryz.pinned (.plain (OpenSpec.ofChange rootsNonNegativeSpec)) rootsNonNegativeCard

/-- THE SECOND FORM's CARD OF 'sosoptlaw09.RootsNonNegative'. -/
def rootsNonNegativeUptoCard : Claim7 := { stood := { row := rootsNonNegativeUptoRow, standIns := [], harness := (true, "353e08ca5554401d538ffe0a8673115e68bc902ef78c0f0f2e65046875933c73"), looks := false }, kinds := [], alts := [], laidByText := true, laidKinds := [.data, .data, .data], laidTests := true, laidLooks := .later }
def RootsNonNegativeUptoCardSaid : Prop := Claim7.holds Tryz.pinned (.plain (OpenSpec.upto rootsNonNegativeSpec)) rootsNonNegativeUptoCard
end Rows
end Go.Proofs.YtbmafhclcdcepaaGreatDoor
