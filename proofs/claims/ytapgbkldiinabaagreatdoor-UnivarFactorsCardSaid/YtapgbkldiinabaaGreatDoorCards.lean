/-
  DERIVED. GIVEN WITH THE SEED: THE CARDS: each row of YtapgbkldiinabaaGreatDoorRows.lean that lists a variable, with what it lists TIED to the program's text (the seventh form; the later family's looks); each row that meets fmt, with fmt's text TOLD by the authors' own Lean function (tested against real Go, not proved from fmt's source: count such statements apart). THE CARD IS WHAT COUNTS. Prove the row's statement (the work); the ties are given (YtapgbkldiinabaaGreatDoorTie.lean); close each card by the builder's one call (the guide's Derived/Test/ToyasCard.lean, 'card_holds'). Laid BY PROGRAM, IN A SANDBOX (cutbox-door.mjs). By AI agents, Wed Nov 11 2026. No macro, syntax, notation, axiom, sorry.
-/
import Derived.Test.YtapgbkldiinabaaGreatDoorRows
import GoSem.ClaimSeven
namespace Go.Proofs.YtapgbkldiinabaaGreatDoor
namespace Rows

/-- THE TIED CARD OF 'sosoptlaw08.UnivarCompose'. -/
def univarComposeCard : Claim7 := { stood := { row := univarComposeRow, standIns := [], harness := (true, "d6ca1fa8b7ee4c2deaef61ce69e1bcb29e20d694d1ccebe1a8088d7ae628d5bb"), looks := false }, kinds := [], alts := [], laidByText := true, laidKinds := [.data, .data, .data], laidTests := true, laidLooks := .later }
def UnivarComposeCardSaid : Prop := Claim7.holds Tryz.pinned (.plain (OpenSpec.ofChange univarComposeSpec)) univarComposeCard

/-- THE TIED CARD OF 'sosoptlaw08.UnivarFactors'. -/
def univarFactorsCard : Claim7 := { stood := { row := univarFactorsRow, standIns := [], harness := (true, "d6ca1fa8b7ee4c2deaef61ce69e1bcb29e20d694d1ccebe1a8088d7ae628d5bb"), looks := false }, kinds := [], alts := [], laidByText := true, laidKinds := [.data, .data, .data], laidTests := true, laidLooks := .later }
def UnivarFactorsCardSaid : Prop := Claim7.holds Tryz.pinned (.plain (OpenSpec.ofChange univarFactorsSpec)) univarFactorsCard

/-- THE SECOND FORM's CARD OF 'sosoptlaw08.UnivarCompose'. -/
def univarComposeUptoCard : Claim7 := { stood := { row := univarComposeUptoRow, standIns := [], harness := (true, "d6ca1fa8b7ee4c2deaef61ce69e1bcb29e20d694d1ccebe1a8088d7ae628d5bb"), looks := false }, kinds := [], alts := [], laidByText := true, laidKinds := [.data, .data, .data], laidTests := true, laidLooks := .later }
def UnivarComposeUptoCardSaid : Prop := Claim7.holds Tryz.pinned (.plain (OpenSpec.upto univarComposeSpec)) univarComposeUptoCard

/-- THE SECOND FORM's CARD OF 'sosoptlaw08.UnivarFactors'. -/
def univarFactorsUptoCard : Claim7 := { stood := { row := univarFactorsUptoRow, standIns := [], harness := (true, "d6ca1fa8b7ee4c2deaef61ce69e1bcb29e20d694d1ccebe1a8088d7ae628d5bb"), looks := false }, kinds := [], alts := [], laidByText := true, laidKinds := [.data, .data, .data], laidTests := true, laidLooks := .later }
def UnivarFactorsUptoCardSaid : Prop := Claim7.holds Tryz.pinned (.plain (OpenSpec.upto univarFactorsSpec)) univarFactorsUptoCard
end Rows
end Go.Proofs.YtapgbkldiinabaaGreatDoor
