/-
  Contracts of functions that the statement reaches, and plain laws: NumJ.
-/
import Derived.Test.YtbhplgdbfmifkaaGreatDoorI26
import Derived.Test.YtbhplgdbfmifkaaGreatDoorI29
import Derived.Test.YtbhplgdbfmifkaaGreatDoorI32
set_option linter.unusedVariables false
set_option linter.unusedSimpArgs false
set_option maxHeartbeats 8000000
set_option maxRecDepth 100000
namespace Go.Proofs.YtbhplgdbfmifkaaGreatDoor
open Go.RowKit Sos
section
variable {a b:World} [u:Up a b]
theorem NI.up {v:Value} {n:Int} (h:NI a v n):NI b v n:=h.below u.out
theorem NQ.up {v:Value} {n:Rat} (h:NQ a v n):NQ b v n:=h.below u.out
end
end Go.Proofs.YtbhplgdbfmifkaaGreatDoor
