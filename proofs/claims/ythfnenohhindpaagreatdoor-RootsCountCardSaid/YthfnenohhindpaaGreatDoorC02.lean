/-
  Contracts, laws: AliB.
-/
import Derived.Lib.Hide
import Derived.Tactics
import Derived.Below
set_option linter.all false
set_option maxHeartbeats 8000000
set_option maxRecDepth 100000
namespace Sos
open Go Go.RowKit
theorem aB {p:Prop} (h:p):Hid p:=Lib.hid h
theorem aH (B:Nat) (w:World):Below B w w:=Below.refl B w
theorem aK {P:Program} {b:Func} {R:Ending->World->Prop} {a:Act} {w:World} {v:Value} (h:Sem.run P (results b a.tmps) w=Result.ok v w) (c:a.defers=[]) (k:R (Ending.returned v) w):bodyPost P b R Exit.ret a w:=bodyPost_ret h c k
end Sos
