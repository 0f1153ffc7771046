/-
  Contracts, laws: Bits.
-/
import Derived.Test.YthfnenohhindpaaGreatDoorProg
import Derived.Test.YthfnenohhindpaaGreatDoorC03
import Derived.Shelf.Spec.BitsCarry
set_option linter.all false
set_option maxHeartbeats 8000000
set_option maxRecDepth 100000
namespace Go.Proofs.YthfnenohhindpaaGreatDoor
open Go.RowKit Sos
def aA:Int:=18446744073709551616
def dE (x:Int):Int:=x%18446744073709551616
def fN (x:Int):Int:=x/18446744073709551616
def gO (x y:Int):Int:=if x<y then 1 else 0
theorem wC (x:Int):dE x+aA*fN x=x:=by unfold dE fN aA;omega
theorem j8 (x:Int):0<=dE x∧dE x<aA:=by unfold dE aA;omega
theorem qB {x:Int} (a:0<=x) {m:Int} (h:x<aA*m):0<=fN x∧fN x<m:=by
 unfold fN;unfold aA at h;have b:x/18446744073709551616<m:=Int.ediv_lt_of_lt_mul (by decide) (by rw[Int.mul_comm];exact h);omega
theorem CC (x y:Int):0<=gO x y∧gO x y<=1:=by unfold gO;split<;>decide
theorem wD {x y:Int} (a:0<=x) (b:x<aA) (c:0<=y) (d:y<=aA):dE (x-y)=x-y+aA*gO x y:=by
 unfold dE gO;unfold aA at *;split<;>omega
theorem sN (x y c:Int) (b:0<=x) (f:0<=y) (a:0<=c) (h:c<=1) (d:x<aA) (g:y<aA) (w:World):(callFunc 200 #[.int .u64 x,.int .u64 y,.int .u64 c]).run Tryz.prog w=
  .ok (.value (.tuple #[.int .u64 (dE (x+y+c)),.int .u64 (fN (x+y+c))])) w:=by
 unfold dE fN;unfold aA at d g;obtain⟨x,rfl⟩:=Int.eq_ofNat_of_zero_le b;obtain⟨y,rfl⟩:=Int.eq_ofNat_of_zero_le f;obtain⟨c,rfl⟩:=Int.eq_ofNat_of_zero_le a;rw[run_callFunc_extern Tryz.func200 (by kernel_rfl) (by kernel_rfl) (by kernel_rfl) (e:=add64Entry) (by kernel_rfl),run_add64 x y c (by omega) (by omega) (by omega) (by omega)];simp only[Result.andThen]
theorem L4 (x y:Int) (a:0<=x) (c:0<=y) (b:x<aA) (d:y<aA) (w:World):(callFunc 200 #[.int .u64 x,.int .u64 y,.int .u64 0]).run Tryz.prog w=
  .ok (.value (.tuple #[.int .u64 (dE (x+y)),.int .u64 (fN (x+y))])) w:=by
 simpa using sN x y 0 a c (Int.le_refl 0) (by decide) b d w
theorem L5 (x c:Int) (d:0<=x) (b:0<=c) (a:c<=1) (e:x<aA) (w:World):(callFunc 200 #[.int .u64 x,.int .u64 0,.int .u64 c]).run Tryz.prog w=
  .ok (.value (.tuple #[.int .u64 (dE (x+c)),.int .u64 (fN (x+c))])) w:=by
 simpa using sN x 0 c d (Int.le_refl 0) b a e (by unfold aA;decide) w
theorem sO (x y b:Int) (f:0<=x) (h:0<=y) (d:0<=b) (j:b<=1) (g:x<aA) (i:y<aA) (w:World):(callFunc 217 #[.int .u64 x,.int .u64 y,.int .u64 b]).run Tryz.prog w=
  .ok (.value (.tuple #[.int .u64 (dE (x-y-b)),.int .u64 (gO x (y+b))])) w:=by
 unfold dE gO;unfold aA at g i;obtain⟨x,rfl⟩:=Int.eq_ofNat_of_zero_le f;obtain⟨y,rfl⟩:=Int.eq_ofNat_of_zero_le h;obtain⟨b,rfl⟩:=Int.eq_ofNat_of_zero_le d;have a:(((x+18446744073709551616-y-b)%18446744073709551616:Nat):Int)=((x:Int)-y-b)%18446744073709551616:=by omega
 have c:((if x<y+b then 1 else 0:Nat):Int)=if (x:Int)<y+b then 1 else 0:=by split<;>split<;>omega
 rw[<-a,<-c];rw[run_callFunc_extern Tryz.func217 (by kernel_rfl) (by kernel_rfl) (by kernel_rfl) (e:=sub64Entry) (by kernel_rfl),run_sub64 x y b (by omega)];rfl
theorem L6 (x y:Int) (a:0<=x) (c:0<=y) (b:x<aA) (d:y<aA) (w:World):(callFunc 217 #[.int .u64 x,.int .u64 y,.int .u64 0]).run Tryz.prog w=
  .ok (.value (.tuple #[.int .u64 (dE (x-y)),.int .u64 (gO x y)])) w:=by
 simpa using sO x y 0 a c (Int.le_refl 0) (by decide) b d w
theorem L7 (x c:Int) (d:0<=x) (b:0<=c) (a:c<=1) (e:x<aA) (w:World):(callFunc 217 #[.int .u64 x,.int .u64 0,.int .u64 c]).run Tryz.prog w=
  .ok (.value (.tuple #[.int .u64 (dE (x-c)),.int .u64 (gO x c)])) w:=by
 simpa using sO x 0 c d (Int.le_refl 0) b a e (by unfold aA;decide) w
