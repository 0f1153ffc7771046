/-
  DERIVED. GIVEN WITH THE SEED: THE CARDS: each row of YtlojjipfnejbnaaGreatDoorRows.lean that lists a variable, with what it lists TIED to the program's text (the seventh form; the later family's looks); each row that meets fmt, with fmt's text TOLD by the authors' own Lean function (tested against real Go, not proved from fmt's source: count such statements apart). THE CARD IS WHAT COUNTS. Prove the row's statement (the work); the ties are given (YtlojjipfnejbnaaGreatDoorTie.lean); close each card by the builder's one call (the guide's Derived/Test/ToyasCard.lean, 'card_holds'). Laid BY PROGRAM, IN A SANDBOX (cutbox-door.mjs). By AI agents, Wed Nov 11 2026. No macro, syntax, notation, axiom, sorry.
-/
import Derived.Test.YtlojjipfnejbnaaGreatDoorRows
import GoSem.ClaimSeven
namespace Go.Proofs.YtlojjipfnejbnaaGreatDoor
namespace Rows

/-- THE TIED CARD OF 'sosoptlaw08.UnivarCompose'. -/
def univarComposeCard : Claim7 := { stood := { row := univarComposeRow, standIns := [], harness := (true, "ec0f0389de2a6e2ecf73bd5b1d52a5a2788dcf96e84f19b977c11c1c6ba24014"), looks := false }, kinds := [], alts := [], laidByText := true, laidKinds := [.data, .data, .data], laidTests := true, laidLooks := .later }
def UnivarComposeCardSaid : Prop := Claim7.holds Tryz.pinned (.plain (OpenSpec.ofChange univarComposeSpec)) univarComposeCard

/-- THE TIED CARD OF 'sosoptlaw08.UnivarFactors'. -/
def univarFactorsCard : Claim7 := { stood := { row := univarFactorsRow, standIns := [], harness := (true, "ec0f0389de2a6e2ecf73bd5b1d52a5a2788dcf96e84f19b977c11c1c6ba24014"), looks := false }, kinds := [], alts := [], laidByText := true, laidKinds := [.data, .data, .data], laidTests := true, laidLooks := .later }
def UnivarFactorsCardSaid : Prop := Claim7.holds Tryz.pinned (.plain (OpenSpec.ofChange univarFactorsSpec)) univarFactorsCard

/-- THE TIED CARD OF 'sosoptlaw08.UnivarBasics'. -/
def univarBasicsCard : Claim7 := { stood := { row := univarBasicsRow, standIns := [], harness := (true, "ec0f0389de2a6e2ecf73bd5b1d52a5a2788dcf96e84f19b977c11c1c6ba24014"), looks := false }, kinds := [], alts := [], laidByText := true, laidKinds := [.data, .data, .data], laidTests := true, laidLooks := .later }
def UnivarBasicsCardSaid : Prop := Claim7.holds Tryz.pinned (.plain (OpenSpec.ofChange univarBasicsSpec)) univarBasicsCard

/-- THE TIED CARD OF 'sosoptlaw08.UnivarGcd'. -/
def univarGcdCard : Claim7 := { stood := { row := univarGcdRow, standIns := [], harness := (true, "ec0f0389de2a6e2ecf73bd5b1d52a5a2788dcf96e84f19b977c11c1c6ba24014"), looks := false }, kinds := [], alts := [], laidByText := true, laidKinds := [.data, .data, .data], laidTests := true, laidLooks := .later }
def UnivarGcdCardSaid : Prop := Claim7.holds Tryz.pinned (.plain (OpenSpec.ofChange univarGcdSpec)) univarGcdCard

/-- THE TIED CARD OF 'sosoptlaw08.UnivarArithmetic'. -/
def univarArithmeticCard : Claim7 := { stood := { row := univarArithmeticRow, standIns := [], harness := (true, "ec0f0389de2a6e2ecf73bd5b1d52a5a2788dcf96e84f19b977c11c1c6ba24014"), looks := false }, kinds := [], alts := [], laidByText := true, laidKinds := [.data, .data, .data], laidTests := true, laidLooks := .later }
def UnivarArithmeticCardSaid : Prop := Claim7.holds Tryz.pinned (.plain (OpenSpec.ofChange univarArithmeticSpec)) univarArithmeticCard

/-- THE SECOND FORM's CARD OF 'sosoptlaw08.UnivarCompose'. -/
def univarComposeUptoCard : Claim7 := { stood := { row := univarComposeUptoRow, standIns := [], harness := (true, "ec0f0389de2a6e2ecf73bd5b1d52a5a2788dcf96e84f19b977c11c1c6ba24014"), looks := false }, kinds := [], alts := [], laidByText := true, laidKinds := [.data, .data, .data], laidTests := true, laidLooks := .later }
def UnivarComposeUptoCardSaid : Prop := Claim7.holds Tryz.pinned (.plain (OpenSpec.upto univarComposeSpec)) univarComposeUptoCard

/-- THE SECOND FORM's CARD OF 'sosoptlaw08.UnivarFactors'. -/
def univarFactorsUptoCard : Claim7 := { stood := { row := univarFactorsUptoRow, standIns := [], harness := (true, "ec0f0389de2a6e2ecf73bd5b1d52a5a2788dcf96e84f19b977c11c1c6ba24014"), looks := false }, kinds := [], alts := [], laidByText := true, laidKinds := [.data, .data, .data], laidTests := true, laidLooks := .later }
def UnivarFactorsUptoCardSaid : Prop := Claim7.holds Tryz.pinned (.plain (OpenSpec.upto univarFactorsSpec)) univarFactorsUptoCard

/-- THE SECOND FORM's CARD OF 'sosoptlaw08.UnivarBasics'. -/
def univarBasicsUptoCard : Claim7 := { stood := { row := univarBasicsUptoRow, standIns := [], harness := (true, "ec0f0389de2a6e2ecf73bd5b1d52a5a2788dcf96e84f19b977c11c1c6ba24014"), looks := false }, kinds := [], alts := [], laidByText := true, laidKinds := [.data, .data, .data], laidTests := true, laidLooks := .later }
def UnivarBasicsUptoCardSaid : Prop := Claim7.holds Tryz.pinned (.plain (OpenSpec.upto univarBasicsSpec)) univarBasicsUptoCard

/-- THE SECOND FORM's CARD OF 'sosoptlaw08.UnivarGcd'. -/
def univarGcdUptoCard : Claim7 := { stood := { row := univarGcdUptoRow, standIns := [], harness := (true, "ec0f0389de2a6e2ecf73bd5b1d52a5a2788dcf96e84f19b977c11c1c6ba24014"), looks := false }, kinds := [], alts := [], laidByText := true, laidKinds := [.data, .data, .data], laidTests := true, laidLooks := .later }
def UnivarGcdUptoCardSaid : Prop := Claim7.holds Tryz.pinned (.plain (OpenSpec.upto univarGcdSpec)) univarGcdUptoCard

/-- THE SECOND FORM's CARD OF 'sosoptlaw08.UnivarArithmetic'. -/
def univarArithmeticUptoCard : Claim7 := { stood := { row := univarArithmeticUptoRow, standIns := [], harness := (true, "ec0f0389de2a6e2ecf73bd5b1d52a5a2788dcf96e84f19b977c11c1c6ba24014"), looks := false }, kinds := [], alts := [], laidByText := true, laidKinds := [.data, .data, .data], laidTests := true, laidLooks := .later }
def UnivarArithmeticUptoCardSaid : Prop := Claim7.holds Tryz.pinned (.plain (OpenSpec.upto univarArithmeticSpec)) univarArithmeticUptoCard
end Rows
end Go.Proofs.YtlojjipfnejbnaaGreatDoor
