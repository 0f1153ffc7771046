/- Laws. -/
import Derived.Test.YtjgbleapffgbcaaGreatDoorW14
set_option linter.all false
set_option maxHeartbeats 8000000
set_option maxRecDepth 99999
namespace Go.Proofs.YtjgbleapffgbcaaGreatDoor
open Go.RowKit Sos
variable{v:Value}
section
variable {a b:World}[u:Up a b]
def NI.up{n:Int}(h:NI a v n):NI b v n:=h.be u.out
def NQ.up{n:Rat}(h:NQ a v n):NQ b v n:=h.be u.out
end
def EB(x y:Rat):((x.num*(y.den:Int)+y.num*(x.den:Int):Int):Rat)/(((x.den:Int)*(y.den:Int):Int):Rat)=x+y:=by
 have c:(y.den:Rat)≠0:=fun e=>y.den_nz (by have:=Rat.intCast_inj.1 (show((y.den:Int):Rat)=((0:Int):Rat) from e);omega);have d:(x.den:Rat)≠0:=fun e=>x.den_nz (by have:=Rat.intCast_inj.1 (show((x.den:Int):Rat)=((0:Int):Rat) from e);omega);conv=>rhs;rw[oU x,oU y]
 rw[aqE,eJ,eJ,eJ,aq3,aq3];grind
