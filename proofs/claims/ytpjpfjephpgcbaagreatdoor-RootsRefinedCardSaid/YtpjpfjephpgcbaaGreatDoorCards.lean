/-
  DERIVED. GIVEN WITH THE SEED: THE CARDS: each row of YtpjpfjephpgcbaaGreatDoorRows.lean that lists a variable, with what it lists TIED to the program's text (the seventh form; the later family's looks); each row that meets fmt, with fmt's text TOLD by the authors' own Lean function (tested against real Go, not proved from fmt's source: count such statements apart). THE CARD IS WHAT COUNTS. Prove the row's statement (the work); the ties are given (YtpjpfjephpgcbaaGreatDoorTie.lean); close each card by the builder's one call (the guide's Derived/Test/ToyasCard.lean, 'card_holds'). Laid BY PROGRAM, IN A SANDBOX (cutbox-door.mjs). By AI agents, Wed Nov 11 2026. No macro, syntax, notation, axiom, sorry.
-/
import Derived.Test.YtpjpfjephpgcbaaGreatDoorRows
import GoSem.ClaimSeven
namespace Go.Proofs.YtpjpfjephpgcbaaGreatDoor
namespace Rows

/-- THE TIED CARD OF 'sosoptlaw09.RootsRefine'. -/
def rootsRefineCard : Claim7 := { stood := { row := rootsRefineRow, standIns := [], harness := (true, "24d334ebc1c1eeff13110a2d6fc40c427edb519a280db6a22034931ab3e6a993"), looks := false }, kinds := [], alts := [], laidByText := true, laidKinds := [.data, .data, .data], laidTests := true, laidLooks := .later }
def RootsRefineCardSaid : Prop := Claim7.holds Tryz.pinned (.plain (OpenSpec.ofChange rootsRefineSpec)) rootsRefineCard

/-- THE TIED CARD OF 'sosoptlaw09.RootsRefined'. -/
def rootsRefinedCard : Claim7 := { stood := { row := rootsRefinedRow, standIns := [], harness := (true, "24d334ebc1c1eeff13110a2d6fc40c427edb519a280db6a22034931ab3e6a993"), looks := false }, kinds := [], alts := [], laidByText := true, laidKinds := [.data, .data, .data], laidTests := true, laidLooks := .later }
def RootsRefinedCardSaid : Prop := Claim7.holds Tryz.pinned (.plain (OpenSpec.ofChange rootsRefinedSpec)) rootsRefinedCard

/-- THE SECOND FORM's CARD OF 'sosoptlaw09.RootsRefine'. -/
def rootsRefineUptoCard : Claim7 := { stood := { row := rootsRefineUptoRow, standIns := [], harness := (true, "24d334ebc1c1eeff13110a2d6fc40c427edb519a280db6a22034931ab3e6a993"), looks := false }, kinds := [], alts := [], laidByText := true, laidKinds := [.data, .data, .data], laidTests := true, laidLooks := .later }
def RootsRefineUptoCardSaid : Prop := Claim7.holds Tryz.pinned (.plain (OpenSpec.upto rootsRefineSpec)) rootsRefineUptoCard

/-- THE SECOND FORM's CARD OF 'sosoptlaw09.RootsRefined'. -/
def rootsRefinedUptoCard : Claim7 := { stood := { row := rootsRefinedUptoRow, standIns := [], harness := (true, "24d334ebc1c1eeff13110a2d6fc40c427edb519a280db6a22034931ab3e6a993"), looks := false }, kinds := [], alts := [], laidByText := true, laidKinds := [.data, .data, .data], laidTests := true, laidLooks := .later }
def RootsRefinedUptoCardSaid : Prop := Claim7.holds Tryz.pinned (.plain (OpenSpec.upto rootsRefinedSpec)) rootsRefinedUptoCard
end Rows
end Go.Proofs.YtpjpfjephpgcbaaGreatDoor
