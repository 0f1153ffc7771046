/- Laws. -/
import Derived.Test.YtmiaanioldpfgaaGreatDoorX19
set_option linter.all false
set_option maxHeartbeats 8000000
set_option maxRecDepth 99999
namespace Go.Proofs.YtmiaanioldpfgaaGreatDoor
open Go.RowKit Sos
variable{v:Value}
section
variable {a b:World}[u:Up a b]
def NI.up{n:Int}(h:NI a v n):NI b v n:=h.be u.out
def NQ.up{n:Rat}(h:NQ a v n):NQ b v n:=h.be u.out
end
