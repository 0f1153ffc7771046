/-
  DERIVED. GIVEN WITH THE SEED: THE CARDS: each row of YtmiaanioldpfgaaGreatDoorRows.lean that lists a variable, with what it lists TIED to the program's text (the seventh form; the later family's looks); each row that meets fmt, with fmt's text TOLD by the authors' own Lean function (tested against real Go, not proved from fmt's source: count such statements apart). THE CARD IS WHAT COUNTS. Prove the row's statement (the work); the ties are given (YtmiaanioldpfgaaGreatDoorTie.lean); close each card by the builder's one call (the guide's Derived/Test/ToyasCard.lean, 'card_holds'). Laid BY PROGRAM, IN A SANDBOX (cutbox-door.mjs). By AI agents, Wed Nov 11 2026. No macro, syntax, notation, axiom, sorry.
-/
import Derived.Test.YtmiaanioldpfgaaGreatDoorRows
import GoSem.ClaimSeven
namespace Go.Proofs.YtmiaanioldpfgaaGreatDoor
namespace Rows

/-- THE TIED CARD OF 'sosoptlaw08.UnivarConvert'. -/
def univarConvertCard : Claim7 := { stood := { row := univarConvertRow, standIns := [], harness := (true, "a1113c77ea269e2c4670a060003df45d5ba9a36daa5bab0eff86dd05fc6b6edc"), looks := false }, kinds := [], alts := [], laidByText := true, laidKinds := [.data, .data, .data], laidTests := true, laidLooks := .later }
def UnivarConvertCardSaid : Prop := Claim7.holds Tryz.pinned (.plain (OpenSpec.ofChange univarConvertSpec)) univarConvertCard

/-- THE SECOND FORM's CARD OF 'sosoptlaw08.UnivarConvert'. -/
def univarConvertUptoCard : Claim7 := { stood := { row := univarConvertUptoRow, standIns := [], harness := (true, "a1113c77ea269e2c4670a060003df45d5ba9a36daa5bab0eff86dd05fc6b6edc"), looks := false }, kinds := [], alts := [], laidByText := true, laidKinds := [.data, .data, .data], laidTests := true, laidLooks := .later }
def UnivarConvertUptoCardSaid : Prop := Claim7.holds Tryz.pinned (.plain (OpenSpec.upto univarConvertSpec)) univarConvertUptoCard
end Rows
end Go.Proofs.YtmiaanioldpfgaaGreatDoor
