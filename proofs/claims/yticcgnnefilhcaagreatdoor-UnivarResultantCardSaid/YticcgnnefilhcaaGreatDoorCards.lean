/-
  DERIVED. GIVEN WITH THE SEED: THE CARDS: each row of YticcgnnefilhcaaGreatDoorRows.lean that lists a variable, with what it lists TIED to the program's text (the seventh form; the later family's looks); each row that meets fmt, with fmt's text TOLD by the authors' own Lean function (tested against real Go, not proved from fmt's source: count such statements apart). THE CARD IS WHAT COUNTS. Prove the row's statement (the work); the ties are given (YticcgnnefilhcaaGreatDoorTie.lean); close each card by the builder's one call (the guide's Derived/Test/ToyasCard.lean, 'card_holds'). Laid BY PROGRAM, IN A SANDBOX (cutbox-door.mjs). By AI agents, Wed Nov 11 2026. No macro, syntax, notation, axiom, sorry.
-/
import Derived.Test.YticcgnnefilhcaaGreatDoorRows
import GoSem.ClaimSeven
namespace Go.Proofs.YticcgnnefilhcaaGreatDoor
namespace Rows

/-- THE TIED CARD OF 'sosoptlaw08.UnivarResultant'. -/
def univarResultantCard : Claim7 := { stood := { row := univarResultantRow, standIns := [], harness := (true, "478fbddfea62df69050c740b70085ca3d0e42118ce38295c1fbf508c7a8e4410"), looks := false }, kinds := [], alts := [], laidByText := true, laidKinds := [.data, .data, .data], laidTests := true, laidLooks := .later }
def UnivarResultantCardSaid : Prop := Claim7.holds Tryz.pinned (.plain (OpenSpec.ofChange univarResultantSpec)) univarResultantCard

/-- THE TIED CARD OF 'sosoptlaw09.RootsRational'. -/
def rootsRationalCard : Claim7 := { stood := { row := rootsRationalRow, standIns := [], harness := (true, "478fbddfea62df69050c740b70085ca3d0e42118ce38295c1fbf508c7a8e4410"), looks := false }, kinds := [], alts := [], laidByText := true, laidKinds := [.data, .data, .data], laidTests := true, laidLooks := .later }
def RootsRationalCardSaid : Prop := Claim7.holds Tryz.pinned (.plain (OpenSpec.ofChange rootsRationalSpec)) rootsRationalCard

/-- THE SECOND FORM's CARD OF 'sosoptlaw08.UnivarResultant'. -/
def univarResultantUptoCard : Claim7 := { stood := { row := univarResultantUptoRow, standIns := [], harness := (true, "478fbddfea62df69050c740b70085ca3d0e42118ce38295c1fbf508c7a8e4410"), looks := false }, kinds := [], alts := [], laidByText := true, laidKinds := [.data, .data, .data], laidTests := true, laidLooks := .later }
def UnivarResultantUptoCardSaid : Prop := Claim7.holds Tryz.pinned (.plain (OpenSpec.upto univarResultantSpec)) univarResultantUptoCard

/-- THE SECOND FORM's CARD OF 'sosoptlaw09.RootsRational'. -/
def rootsRationalUptoCard : Claim7 := { stood := { row := rootsRationalUptoRow, standIns := [], harness := (true, "478fbddfea62df69050c740b70085ca3d0e42118ce38295c1fbf508c7a8e4410"), looks := false }, kinds := [], alts := [], laidByText := true, laidKinds := [.data, .data, .data], laidTests := true, laidLooks := .later }
def RootsRationalUptoCardSaid : Prop := Claim7.holds Tryz.pinned (.plain (OpenSpec.upto rootsRationalSpec)) rootsRationalUptoCard
end Rows
end Go.Proofs.YticcgnnefilhcaaGreatDoor
