/-
  DERIVED. GIVEN WITH THE SEED: THE CARDS: each row of YtbhplgdbfmifkaaGreatDoorRows.lean that lists a variable, with what it lists TIED to the program's text (the seventh form; the later family's looks); each row that meets fmt, with fmt's text TOLD by the authors' own Lean function (tested against real Go, not proved from fmt's source: count such statements apart). THE CARD IS WHAT COUNTS. Prove the row's statement (the work); the ties are given (YtbhplgdbfmifkaaGreatDoorTie.lean); close each card by the builder's one call (the guide's Derived/Test/ToyasCard.lean, 'card_holds'). Laid BY PROGRAM, IN A SANDBOX (cutbox-door.mjs). By AI agents, Wed Nov 11 2026. No macro, syntax, notation, axiom, sorry.
-/
import Derived.Test.YtbhplgdbfmifkaaGreatDoorRows
import GoSem.ClaimSeven
namespace Go.Proofs.YtbhplgdbfmifkaaGreatDoor
namespace Rows

/-- THE TIED CARD OF 'sosoptlaw09.RootsCount'. -/
def rootsCountCard : Claim7 := { stood := { row := rootsCountRow, standIns := [], harness := (true, "45521311fe938f9a9812777768f6a2a42149b7e8433266ceb24cbfb7de82a6a9"), looks := false }, kinds := [], alts := [], laidByText := true, laidKinds := [.data, .data, .data], laidTests := true, laidLooks := .later }
def RootsCountCardSaid : Prop := Claim7.holds Tryz.pinned (.plain (OpenSpec.ofChange rootsCountSpec)) rootsCountCard

/-- THE TIED CARD OF 'sosoptlaw09.RootsAdditive'. -/
def rootsAdditiveCard : Claim7 := { stood := { row := rootsAdditiveRow, standIns := [], harness := (true, "45521311fe938f9a9812777768f6a2a42149b7e8433266ceb24cbfb7de82a6a9"), looks := false }, kinds := [], alts := [], laidByText := true, laidKinds := [.data, .data, .data], laidTests := true, laidLooks := .later }
def RootsAdditiveCardSaid : Prop := Claim7.holds Tryz.pinned (.plain (OpenSpec.ofChange rootsAdditiveSpec)) rootsAdditiveCard

/-- THE SECOND FORM's CARD OF 'sosoptlaw09.RootsCount'. -/
def rootsCountUptoCard : Claim7 := { stood := { row := rootsCountUptoRow, standIns := [], harness := (true, "45521311fe938f9a9812777768f6a2a42149b7e8433266ceb24cbfb7de82a6a9"), looks := false }, kinds := [], alts := [], laidByText := true, laidKinds := [.data, .data, .data], laidTests := true, laidLooks := .later }
def RootsCountUptoCardSaid : Prop := Claim7.holds Tryz.pinned (.plain (OpenSpec.upto rootsCountSpec)) rootsCountUptoCard

/-- THE SECOND FORM's CARD OF 'sosoptlaw09.RootsAdditive'. -/
def rootsAdditiveUptoCard : Claim7 := { stood := { row := rootsAdditiveUptoRow, standIns := [], harness := (true, "45521311fe938f9a9812777768f6a2a42149b7e8433266ceb24cbfb7de82a6a9"), looks := false }, kinds := [], alts := [], laidByText := true, laidKinds := [.data, .data, .data], laidTests := true, laidLooks := .later }
def RootsAdditiveUptoCardSaid : Prop := Claim7.holds Tryz.pinned (.plain (OpenSpec.upto rootsAdditiveSpec)) rootsAdditiveUptoCard
end Rows
end Go.Proofs.YtbhplgdbfmifkaaGreatDoor
