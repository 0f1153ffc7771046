/-
  Contracts of functions that the statement reaches, and plain laws: SubB.
-/
import Derived.Test.YtbhplgdbfmifkaaGreatDoorI19
import Derived.Test.YtbhplgdbfmifkaaGreatDoorI26
import Derived.Test.YtbhplgdbfmifkaaGreatDoorI40
set_option linter.unusedVariables false
set_option linter.unusedSimpArgs false
set_option maxHeartbeats 8000000
set_option maxRecDepth 100000
namespace Go.Proofs.YtbhplgdbfmifkaaGreatDoor
open Go.RowKit Sos
end Go.Proofs.YtbhplgdbfmifkaaGreatDoor
