/-
  Contracts of functions that the statement reaches, and plain laws: NumS.
-/
import Derived.Test.YtbhplgdbfmifkaaGreatDoorI25
import Derived.Test.YtbhplgdbfmifkaaGreatDoorI26
import Derived.Test.YtbhplgdbfmifkaaGreatDoorI33
import Derived.Test.YtbhplgdbfmifkaaGreatDoorI34
set_option linter.unusedVariables false
set_option linter.unusedSimpArgs false
set_option maxHeartbeats 8000000
set_option maxRecDepth 100000
namespace Go.Proofs.YtbhplgdbfmifkaaGreatDoor
open Go.RowKit Sos
end Go.Proofs.YtbhplgdbfmifkaaGreatDoor
