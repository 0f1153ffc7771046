/-
  Contracts of functions that the statement reaches, and plain laws: NumO, NumR.
-/
import Derived.Test.YtbhplgdbfmifkaaGreatDoorI18
import Derived.Test.YtbhplgdbfmifkaaGreatDoorI19
import Derived.Test.YtbhplgdbfmifkaaGreatDoorI31
import Derived.Test.YtbhplgdbfmifkaaGreatDoorI32
set_option linter.unusedVariables false
set_option linter.unusedSimpArgs false
set_option maxHeartbeats 8000000
set_option maxRecDepth 100000
namespace Go.Proofs.YtbhplgdbfmifkaaGreatDoor
open Go.RowKit Sos
end Go.Proofs.YtbhplgdbfmifkaaGreatDoor
namespace Go.Proofs.YtbhplgdbfmifkaaGreatDoor
open Sos Lib
def eH (s:List UInt8):List UInt8:=if s.head?==some 45 then s.tail else s
structure CutN (t:List UInt8) (k:Nat):Prop where
 le:k≤t.length
 head:t.takeWhile iA=t.take k
 rest:t.dropWhile iA=t.drop k
theorem CutN.stop {t:List UInt8} {k:Nat} (h:∀c∈t.take k,iA c=true) (hk:k≤t.length) (he:t.length≤k∨∃c,t[k]? =some c∧iA c=false):CutN t k:=
 ⟨hk,(tZ h he).1,(tZ h he).2⟩
structure Found (s:List UInt8) (q:Rat):Prop where
 ok:rd s=decide (aO q=s)
 val:∀r,aR s=some r→q=r
section
variable {s:List UInt8} {k:Nat} (h:CutN (eH s) k)
include h
end
end Go.Proofs.YtbhplgdbfmifkaaGreatDoor
