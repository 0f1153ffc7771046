/-
  DERIVED. GIVEN WITH THE SEED: THE CARDS: each row of YtoimnlnaaklinaaGreatDoorRows.lean that lists a variable, with what it lists TIED to the program's text (the seventh form; the later family's looks); each row that meets fmt, with fmt's text TOLD by the authors' own Lean function (tested against real Go, not proved from fmt's source: count such statements apart). THE CARD IS WHAT COUNTS. Prove the row's statement (the work); the ties are given (YtoimnlnaaklinaaGreatDoorTie.lean); close each card by the builder's one call (the guide's Derived/Test/ToyasCard.lean, 'card_holds'). Laid BY PROGRAM, IN A SANDBOX (cutbox-door.mjs). By AI agents, Wed Nov 11 2026. No macro, syntax, notation, axiom, sorry.
-/
import Derived.Test.YtoimnlnaaklinaaGreatDoorRows
import GoSem.ClaimSeven
namespace Go.Proofs.YtoimnlnaaklinaaGreatDoor
namespace Rows

/-- THE TIED CARD OF 'sosoptlaw08.UnivarFactors'. -/
def univarFactorsCard : Claim7 := { stood := { row := univarFactorsRow, standIns := [], harness := (true, "067ed9d6baca934c3ff0cc52b2aac56fda2ab1ca7ddb155261a4a7cd5f4125c8"), looks := false }, kinds := [], alts := [], laidByText := true, laidKinds := [.data, .data, .data], laidTests := true, laidLooks := .later }
def UnivarFactorsCardSaid : Prop := Claim7.holds Tryz.pinned (.plain (OpenSpec.ofChange univarFactorsSpec)) univarFactorsCard

/-- THE TIED CARD OF 'sosoptlaw08.UnivarDivision'. -/
def univarDivisionCard : Claim7 := { stood := { row := univarDivisionRow, standIns := [], harness := (true, "067ed9d6baca934c3ff0cc52b2aac56fda2ab1ca7ddb155261a4a7cd5f4125c8"), looks := false }, kinds := [], alts := [], laidByText := true, laidKinds := [.data, .data, .data], laidTests := true, laidLooks := .later }
def UnivarDivisionCardSaid : Prop := Claim7.holds Tryz.pinned (.plain (OpenSpec.ofChange univarDivisionSpec)) univarDivisionCard

/-- THE TIED CARD OF 'sosoptlaw08.UnivarDegrees'. -/
def univarDegreesCard : Claim7 := { stood := { row := univarDegreesRow, standIns := [], harness := (true, "067ed9d6baca934c3ff0cc52b2aac56fda2ab1ca7ddb155261a4a7cd5f4125c8"), looks := false }, kinds := [], alts := [], laidByText := true, laidKinds := [.data, .data, .data], laidTests := true, laidLooks := .later }
def UnivarDegreesCardSaid : Prop := Claim7.holds Tryz.pinned (.plain (OpenSpec.ofChange univarDegreesSpec)) univarDegreesCard

/-- THE TIED CARD OF 'sosoptlaw08.UnivarBezout'. -/
def univarBezoutCard : Claim7 := { stood := { row := univarBezoutRow, standIns := [], harness := (true, "067ed9d6baca934c3ff0cc52b2aac56fda2ab1ca7ddb155261a4a7cd5f4125c8"), looks := false }, kinds := [], alts := [], laidByText := true, laidKinds := [.data, .data, .data], laidTests := true, laidLooks := .later }
def UnivarBezoutCardSaid : Prop := Claim7.holds Tryz.pinned (.plain (OpenSpec.ofChange univarBezoutSpec)) univarBezoutCard

/-- THE SECOND FORM's CARD OF 'sosoptlaw08.UnivarFactors'. -/
def univarFactorsUptoCard : Claim7 := { stood := { row := univarFactorsUptoRow, standIns := [], harness := (true, "067ed9d6baca934c3ff0cc52b2aac56fda2ab1ca7ddb155261a4a7cd5f4125c8"), looks := false }, kinds := [], alts := [], laidByText := true, laidKinds := [.data, .data, .data], laidTests := true, laidLooks := .later }
def UnivarFactorsUptoCardSaid : Prop := Claim7.holds Tryz.pinned (.plain (OpenSpec.upto univarFactorsSpec)) univarFactorsUptoCard

/-- THE SECOND FORM's CARD OF 'sosoptlaw08.UnivarDivision'. -/
def univarDivisionUptoCard : Claim7 := { stood := { row := univarDivisionUptoRow, standIns := [], harness := (true, "067ed9d6baca934c3ff0cc52b2aac56fda2ab1ca7ddb155261a4a7cd5f4125c8"), looks := false }, kinds := [], alts := [], laidByText := true, laidKinds := [.data, .data, .data], laidTests := true, laidLooks := .later }
def UnivarDivisionUptoCardSaid : Prop := Claim7.holds Tryz.pinned (.plain (OpenSpec.upto univarDivisionSpec)) univarDivisionUptoCard

/-- THE SECOND FORM's CARD OF 'sosoptlaw08.UnivarDegrees'. -/
def univarDegreesUptoCard : Claim7 := { stood := { row := univarDegreesUptoRow, standIns := [], harness := (true, "067ed9d6baca934c3ff0cc52b2aac56fda2ab1ca7ddb155261a4a7cd5f4125c8"), looks := false }, kinds := [], alts := [], laidByText := true, laidKinds := [.data, .data, .data], laidTests := true, laidLooks := .later }
def UnivarDegreesUptoCardSaid : Prop := Claim7.holds Tryz.pinned (.plain (OpenSpec.upto univarDegreesSpec)) univarDegreesUptoCard

/-- THE SECOND FORM's CARD OF 'sosoptlaw08.UnivarBezout'. -/
def univarBezoutUptoCard : Claim7 := { stood := { row := univarBezoutUptoRow, standIns := [], harness := (true, "067ed9d6baca934c3ff0cc52b2aac56fda2ab1ca7ddb155261a4a7cd5f4125c8"), looks := false }, kinds := [], alts := [], laidByText := true, laidKinds := [.data, .data, .data], laidTests := true, laidLooks := .later }
def UnivarBezoutUptoCardSaid : Prop := Claim7.holds Tryz.pinned (.plain (OpenSpec.upto univarBezoutSpec)) univarBezoutUptoCard
end Rows
end Go.Proofs.YtoimnlnaaklinaaGreatDoor
