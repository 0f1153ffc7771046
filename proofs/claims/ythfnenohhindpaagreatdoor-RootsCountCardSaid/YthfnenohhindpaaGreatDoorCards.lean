/-
  DERIVED. GIVEN WITH THE SEED: THE CARDS: each row of YthfnenohhindpaaGreatDoorRows.lean that lists a variable, with what it lists TIED to the program's text (the seventh form; the later family's looks); each row that meets fmt, with fmt's text TOLD by the authors' own Lean function (tested against real Go, not proved from fmt's source: count such statements apart). THE CARD IS WHAT COUNTS. Prove the row's statement (the work); the ties are given (YthfnenohhindpaaGreatDoorTie.lean); close each card by the builder's one call (the guide's Derived/Test/ToyasCard.lean, 'card_holds'). Laid BY PROGRAM, IN A SANDBOX (cutbox-door.mjs). By AI agents, Wed Nov 11 2026. No macro, syntax, notation, axiom, sorry.
-/
import Derived.Test.YthfnenohhindpaaGreatDoorRows
import GoSem.ClaimSeven
namespace Go.Proofs.YthfnenohhindpaaGreatDoor
namespace Rows

/-- THE TIED CARD OF 'sosoptlaw09.RootsIsolate'. -/
def rootsIsolateCard : Claim7 := { stood := { row := rootsIsolateRow, standIns := [], harness := (true, "6e62a4f0488a8d85b44451780f8282e74df147352d48f6a803f44fa1378b7cd0"), looks := false }, kinds := [], alts := [], laidByText := true, laidKinds := [.data, .data, .data], laidTests := true, laidLooks := .later }
def RootsIsolateCardSaid : Prop := Claim7.holds Tryz.pinned (.plain (OpenSpec.ofChange rootsIsolateSpec)) rootsIsolateCard

/-- THE TIED CARD OF 'sosoptlaw09.RootsNonNegative'. -/
def rootsNonNegativeCard : Claim7 := { stood := { row := rootsNonNegativeRow, standIns := [], harness := (true, "6e62a4f0488a8d85b44451780f8282e74df147352d48f6a803f44fa1378b7cd0"), looks := false }, kinds := [], alts := [], laidByText := true, laidKinds := [.data, .data, .data], laidTests := true, laidLooks := .later }
def RootsNonNegativeCardSaid : Prop := Claim7.holds Tryz.pinned (.plain (OpenSpec.ofChange rootsNonNegativeSpec)) rootsNonNegativeCard

/-- THE TIED CARD OF 'sosoptlaw09.RootsCount'. -/
def rootsCountCard : Claim7 := { stood := { row := rootsCountRow, standIns := [], harness := (true, "6e62a4f0488a8d85b44451780f8282e74df147352d48f6a803f44fa1378b7cd0"), looks := false }, kinds := [], alts := [], laidByText := true, laidKinds := [.data, .data, .data], laidTests := true, laidLooks := .later }
def RootsCountCardSaid : Prop := Claim7.holds Tryz.pinned (.plain (OpenSpec.ofChange rootsCountSpec)) rootsCountCard

/-- THE TIED CARD OF 'sosoptlaw09.RootsRational'. -/
def rootsRationalCard : Claim7 := { stood := { row := rootsRationalRow, standIns := [], harness := (true, "6e62a4f0488a8d85b44451780f8282e74df147352d48f6a803f44fa1378b7cd0"), looks := false }, kinds := [], alts := [], laidByText := true, laidKinds := [.data, .data, .data], laidTests := true, laidLooks := .later }
def RootsRationalCardSaid : Prop := Claim7.holds Tryz.pinned (.plain (OpenSpec.ofChange rootsRationalSpec)) rootsRationalCard

/-- THE TIED CARD OF 'sosoptlaw09.RootsRefine'. -/
def rootsRefineCard : Claim7 := { stood := { row := rootsRefineRow, standIns := [], harness := (true, "6e62a4f0488a8d85b44451780f8282e74df147352d48f6a803f44fa1378b7cd0"), looks := false }, kinds := [], alts := [], laidByText := true, laidKinds := [.data, .data, .data], laidTests := true, laidLooks := .later }
def RootsRefineCardSaid : Prop := Claim7.holds Tryz.pinned (.plain (OpenSpec.ofChange rootsRefineSpec)) rootsRefineCard

/-- THE SECOND FORM's CARD OF 'sosoptlaw09.RootsIsolate'. -/
def rootsIsolateUptoCard : Claim7 := { stood := { row := rootsIsolateUptoRow, standIns := [], harness := (true, "6e62a4f0488a8d85b44451780f8282e74df147352d48f6a803f44fa1378b7cd0"), looks := false }, kinds := [], alts := [], laidByText := true, laidKinds := [.data, .data, .data], laidTests := true, laidLooks := .later }
def RootsIsolateUptoCardSaid : Prop := Claim7.holds Tryz.pinned (.plain (OpenSpec.upto rootsIsolateSpec)) rootsIsolateUptoCard

/-- THE SECOND FORM's CARD OF 'sosoptlaw09.RootsNonNegative'. -/
def rootsNonNegativeUptoCard : Claim7 := { stood := { row := rootsNonNegativeUptoRow, standIns := [], harness := (true, "6e62a4f0488a8d85b44451780f8282e74df147352d48f6a803f44fa1378b7cd0"), looks := false }, kinds := [], alts := [], laidByText := true, laidKinds := [.data, .data, .data], laidTests := true, laidLooks := .later }
def RootsNonNegativeUptoCardSaid : Prop := Claim7.holds Tryz.pinned (.plain (OpenSpec.upto rootsNonNegativeSpec)) rootsNonNegativeUptoCard

/-- THE SECOND FORM's CARD OF 'sosoptlaw09.RootsCount'. -/
def rootsCountUptoCard : Claim7 := { stood := { row := rootsCountUptoRow, standIns := [], harness := (true, "6e62a4f0488a8d85b44451780f8282e74df147352d48f6a803f44fa1378b7cd0"), looks := false }, kinds := [], alts := [], laidByText := true, laidKinds := [.data, .data, .data], laidTests := true, laidLooks := .later }
def RootsCountUptoCardSaid : Prop := Claim7.holds Tryz.pinned (.plain (OpenSpec.upto rootsCountSpec)) rootsCountUptoCard

/-- THE SECOND FORM's CARD OF 'sosoptlaw09.RootsRational'. -/
def rootsRationalUptoCard : Claim7 := { stood := { row := rootsRationalUptoRow, standIns := [], harness := (true, "6e62a4f0488a8d85b44451780f8282e74df147352d48f6a803f44fa1378b7cd0"), looks := false }, kinds := [], alts := [], laidByText := true, laidKinds := [.data, .data, .data], laidTests := true, laidLooks := .later }
def RootsRationalUptoCardSaid : Prop := Claim7.holds Tryz.pinned (.plain (OpenSpec.upto rootsRationalSpec)) rootsRationalUptoCard

/-- THE SECOND FORM's CARD OF 'sosoptlaw09.RootsRefine'. -/
def rootsRefineUptoCard : Claim7 := { stood := { row := rootsRefineUptoRow, standIns := [], harness := (true, "6e62a4f0488a8d85b44451780f8282e74df147352d48f6a803f44fa1378b7cd0"), looks := false }, kinds := [], alts := [], laidByText := true, laidKinds := [.data, .data, .data], laidTests := true, laidLooks := .later }
def RootsRefineUptoCardSaid : Prop := Claim7.holds Tryz.pinned (.plain (OpenSpec.upto rootsRefineSpec)) rootsRefineUptoCard
end Rows
end Go.Proofs.YthfnenohhindpaaGreatDoor
