/-
  Contracts, laws: Shelf.
-/
import Derived.Test.YthfnenohhindpaaGreatDoorProg
import Derived.Shelf.Spec.TrailingZeros
import Derived.Ground.Names7Prog
import Derived.Shelf.Small.Bits
import Derived.Shelf.Small.Wraps
import Derived.Shelf.Strconv.Itoa0
import Derived.Shelf.Strconv.Itoa1
import Derived.Shelf.LaysM
import Derived.Shelf.Strconv.Itoa2
import Derived.Shelf.Strconv.Itoa3
import Derived.Shelf.Strconv.Itoa4
import Derived.Shelf.Strconv.AppendUint10
import Derived.Shelf.Strconv.AppendInt10
import Derived.Shelf.Strings.Prefix
import Derived.Shelf.Bits.Mul64
set_option linter.all false
set_option maxHeartbeats 8000000
set_option maxRecDepth 100000
namespace Go.Proofs
open Go.Shelf
def Tryz.lays134_ren:Go.Shelf.Ren:=⟨fun|134=>224|129=>233|n=>n,fun|53=>181|3=>3|4=>4|46=>122|5=>5|9=>9|n=>n,fun|n=>n⟩
theorem Tryz.lays134:Go.Proofs.Lays.n134 Tryz.prog Tryz.lays134_ren:={
 mixed:=by kernel_rfl
 f129:=Tryz.func233.trans (congrArg some (by kernel_rfl))
 f134:=Tryz.func224.trans (congrArg some (by kernel_rfl))
 t3:=Tryz.underlying3
 a3:=Tryz.isAgg3
 z3:=Tryz.sizeOf3
 v3:=Tryz.zeroValue3
 t4:=Tryz.underlying4
 a4:=Tryz.isAgg4
 z4:=Tryz.sizeOf4
 v4:=Tryz.zeroValue4
 t5:=Tryz.underlying5
 a5:=Tryz.isAgg5
 z5:=Tryz.sizeOf5
 v5:=Tryz.zeroValue5
 t9:=Tryz.underlying9
 a9:=Tryz.isAgg9
 z9:=Tryz.sizeOf9
 v9:=Tryz.zeroValue9
 t46:=Tryz.underlying122
 a46:=Tryz.isAgg122
 z46:=Tryz.sizeOf122
 v46:=Tryz.zeroValue122
 t53:=Tryz.underlying181
 a53:=Tryz.isAgg181
 z53:=Tryz.sizeOf181
 v53:=Tryz.zeroValue181 }
theorem Tryz.bits_LeadingZeros64 (x:Int) (w:World) (a:0<=x) (b:x<=18446744073709551615):
  Calls Tryz.prog 224 #[.int .u64 x] w fun e w'=>e= .returned (.int .i64 (64-(Lib.bitLen x.toNat:Int)))∧w'=w:=Any.bits_LeadingZeros64 Tryz.lays134 x w a b
def Tryz.lays103_ren:Go.Shelf.Ren:=⟨fun|103=>187|210=>212|206=>230|n=>n,fun|9=>9|4=>4|24=>219|3=>3|n=>n,fun|n=>n⟩
theorem Tryz.lays103:Go.Proofs.Lays.n103 Tryz.prog Tryz.lays103_ren:={
 mixed:=by kernel_rfl
 f103:=Tryz.func187.trans (congrArg some (by kernel_rfl))
 f206:=Tryz.func230.trans (congrArg some (by kernel_rfl))
 f210:=Tryz.func212.trans (congrArg some (by kernel_rfl))
 t3:=Tryz.underlying3
 a3:=Tryz.isAgg3
 z3:=Tryz.sizeOf3
 v3:=Tryz.zeroValue3
 t4:=Tryz.underlying4
 a4:=Tryz.isAgg4
 z4:=Tryz.sizeOf4
 v4:=Tryz.zeroValue4
 t9:=Tryz.underlying9
 a9:=Tryz.isAgg9
 z9:=Tryz.sizeOf9
 v9:=Tryz.zeroValue9
 t24:=Tryz.underlying219
 a24:=Tryz.isAgg219
 z24:=Tryz.sizeOf219
 v24:=Tryz.zeroValue219 }
open Go.RowKit in
theorem Tryz.strings_CutPrefix (s p:ByteArray) (w:World):
  Calls Tryz.prog 187 #[.string s,.string p] w fun e w'=>e= .returned (.tuple #[.string ⟨(Lib.trimPrefix s.data.toList p.data.toList).toArray⟩,.bool (Lib.hasPrefix s.data.toList p.data.toList)])∧w'=w:=Any.strings_CutPrefix Tryz.lays103 s p w
def Tryz.lays283_ren:Go.Shelf.Ren:=⟨fun|283=>218|n=>n,fun|3=>3|9=>9|4=>4|n=>n,fun|n=>n⟩
theorem Tryz.lays283:Go.Proofs.Lays.n283 Tryz.prog Tryz.lays283_ren:={
 mixed:=by kernel_rfl
 f283:=Tryz.func218.trans (congrArg some (by kernel_rfl))
 t3:=Tryz.underlying3
 a3:=Tryz.isAgg3
 z3:=Tryz.sizeOf3
 v3:=Tryz.zeroValue3
 t4:=Tryz.underlying4
 a4:=Tryz.isAgg4
 z4:=Tryz.sizeOf4
 v4:=Tryz.zeroValue4
 t9:=Tryz.underlying9
 a9:=Tryz.isAgg9
 z9:=Tryz.sizeOf9
 v9:=Tryz.zeroValue9 }
open Go.Lib in
theorem Tryz.internal_strconv_small (i:Nat) (h:i<100) (w:World):
  Calls Tryz.prog 218 #[.int .i64 i] w fun e w'=>e= .returned (.string ⟨(Lib.decDigits i).toArray⟩)∧w'=w:=Any.internal_strconv_small Tryz.lays283 i h w
def Tryz.laysM284_ren:Go.Shelf.Ren:=⟨fun|284=>219|129=>233|317=>232|318=>234|n=>n,fun|53=>181|3=>3|212=>256|0=>0|4=>4|46=>122|5=>5|9=>9|n=>n,fun|17=>0|n=>n⟩
theorem Tryz.laysM284:Go.Proofs.LaysM.n284 Tryz.prog Tryz.laysM284_ren:={
 mixed:=by kernel_rfl
 f129:=Tryz.func233.trans (congrArg some (by kernel_rfl))
 f284:=Tryz.func219.trans (congrArg some (by kernel_rfl))
 f317:=Tryz.func232.trans (congrArg some (by kernel_rfl))
 f318:=Tryz.func234.trans (congrArg some (by kernel_rfl))
 t0:=Tryz.underlying0
 a0:=Tryz.isAgg0
 z0:=Tryz.sizeOf0
 v0:=Tryz.zeroValue0
 t3:=Tryz.underlying3
 a3:=Tryz.isAgg3
 z3:=Tryz.sizeOf3
 v3:=Tryz.zeroValue3
 t4:=Tryz.underlying4
 a4:=Tryz.isAgg4
 z4:=Tryz.sizeOf4
 v4:=Tryz.zeroValue4
 t5:=Tryz.underlying5
 a5:=Tryz.isAgg5
 z5:=Tryz.sizeOf5
 v5:=Tryz.zeroValue5
 t9:=Tryz.underlying9
 a9:=Tryz.isAgg9
 z9:=Tryz.sizeOf9
 v9:=Tryz.zeroValue9
 t46:=Tryz.underlying122
 a46:=Tryz.isAgg122
 z46:=Tryz.sizeOf122
 v46:=Tryz.zeroValue122
 t53:=Tryz.underlying181
 a53:=Tryz.isAgg181
 z53:=Tryz.sizeOf181
 v53:=Tryz.zeroValue181
 t212:=Tryz.underlying256
 a212:=Tryz.isAgg256
 z212:=Tryz.sizeOf256
 v212:=Tryz.zeroValue256
 g17:=by kernel_rfl
 i0:=by kernel_rfl
 i3:=by kernel_rfl
 i4:=by kernel_rfl
 i5:=by kernel_rfl
 i9:=by kernel_rfl
 i46:=by kernel_rfl
 i53:=by kernel_rfl
 i212:=by kernel_rfl
 m17:=by kernel_rfl }
open Go.Lib in
theorem Tryz.internal_strconv_numDigits (u:Nat) (a:1<=u) (b:u<18446744073709551616) (w:World) (c:Lib.TabIs Tryz.prog w "internal/strconv.uint64pow10" .u64 Lib.pow10Tab):
  Calls Tryz.prog 219 #[.int .u64 u] w fun e w'=>e= .returned (.int .i64 (Lib.nDigits u))∧w'=w:=Any.internal_strconv_numDigits Tryz.laysM284 u a b w c
def Tryz.lays285_ren:Go.Shelf.Ren:=⟨fun|285=>220|n=>n,fun|37=>177|53=>181|3=>3|4=>4|51=>211|9=>9|5=>5|0=>0|n=>n,fun|n=>n⟩
theorem Tryz.lays285:Go.Proofs.Lays.n285 Tryz.prog Tryz.lays285_ren:={
 mixed:=by kernel_rfl
 f285:=Tryz.func220.trans (congrArg some (by kernel_rfl))
 t0:=Tryz.underlying0
 a0:=Tryz.isAgg0
 z0:=Tryz.sizeOf0
 v0:=Tryz.zeroValue0
 t3:=Tryz.underlying3
 a3:=Tryz.isAgg3
 z3:=Tryz.sizeOf3
 v3:=Tryz.zeroValue3
 t4:=Tryz.underlying4
 a4:=Tryz.isAgg4
 z4:=Tryz.sizeOf4
 v4:=Tryz.zeroValue4
 t5:=Tryz.underlying5
 a5:=Tryz.isAgg5
 z5:=Tryz.sizeOf5
 v5:=Tryz.zeroValue5
 t9:=Tryz.underlying9
 a9:=Tryz.isAgg9
 z9:=Tryz.sizeOf9
 v9:=Tryz.zeroValue9
 t37:=Tryz.underlying177
 a37:=Tryz.isAgg177
 z37:=Tryz.sizeOf177
 v37:=Tryz.zeroValue177
 t51:=Tryz.underlying211
 a51:=Tryz.isAgg211
 z51:=Tryz.sizeOf211
 v51:=Tryz.zeroValue211
 t53:=Tryz.underlying181
 a53:=Tryz.isAgg181
 z53:=Tryz.sizeOf181
 v53:=Tryz.zeroValue181 }
open Go.RowKit Go.Sort Go.Lib in
theorem Tryz.internal_strconv_formatBase10 (a off c:Nat) (u:Nat) (d:Array UInt8) (w:World) (g:Holds (fun (b:UInt8)=>Value.int .u8 (b.toNat:Int)) w a off d) (i:u<10^d.size) (j:u<18446744073709551616) (h:d.size<4611686018427387904):
  Calls Tryz.prog 220 #[.slice (some ⟨a,off,none⟩) d.size c,.int .u64 u] w fun e w'=>
   e= .returned (.tuple #[])∧∃(n k:Nat) (f:Array UInt8),w'=(putRow (fun (b:UInt8)=>Value.int .u8 (b.toNat:Int)) w a off f).drewN n∧FmtInv d.size u 0 k f:=Any.internal_strconv_formatBase10 Tryz.lays285 a off c u d w g i j h
def Tryz.laysM173_ren:Go.Shelf.Ren:=⟨fun|173=>175|246=>201|283=>218|284=>219|285=>220|286=>221|129=>233|317=>232|318=>234|319=>235|320=>236|337=>245|338=>228|n=>n,fun|2=>2|3=>3|9=>9|4=>4|171=>247|0=>0|53=>181|37=>177|5=>5|173=>250|212=>256|51=>211|20=>20|213=>257|46=>122|232=>269|233=>265|n=>n,fun|17=>0|18=>4|19=>1|n=>n⟩
theorem Tryz.laysM173:Go.Proofs.LaysM.n173 Tryz.prog Tryz.laysM173_ren:={
 mixed:=by kernel_rfl
 f129:=Tryz.func233.trans (congrArg some (by kernel_rfl))
 f173:=Tryz.func175.trans (congrArg some (by kernel_rfl))
 f246:=Tryz.func201.trans (congrArg some (by kernel_rfl))
 f283:=Tryz.func218.trans (congrArg some (by kernel_rfl))
 f284:=Tryz.func219.trans (congrArg some (by kernel_rfl))
 f285:=Tryz.func220.trans (congrArg some (by kernel_rfl))
 f286:=Tryz.func221.trans (congrArg some (by kernel_rfl))
 f317:=Tryz.func232.trans (congrArg some (by kernel_rfl))
 f318:=Tryz.func234.trans (congrArg some (by kernel_rfl))
 f319:=Tryz.func235.trans (congrArg some (by kernel_rfl))
 f320:=Tryz.func236.trans (congrArg some (by kernel_rfl))
 f337:=Tryz.func245.trans (congrArg some (by kernel_rfl))
 f338:=Tryz.func228.trans (congrArg some (by kernel_rfl))
 t0:=Tryz.underlying0
 a0:=Tryz.isAgg0
 z0:=Tryz.sizeOf0
 v0:=Tryz.zeroValue0
 t2:=Tryz.underlying2
 a2:=Tryz.isAgg2
 z2:=Tryz.sizeOf2
 v2:=Tryz.zeroValue2
 t3:=Tryz.underlying3
 a3:=Tryz.isAgg3
 z3:=Tryz.sizeOf3
 v3:=Tryz.zeroValue3
 t4:=Tryz.underlying4
 a4:=Tryz.isAgg4
 z4:=Tryz.sizeOf4
 v4:=Tryz.zeroValue4
 t5:=Tryz.underlying5
 a5:=Tryz.isAgg5
 z5:=Tryz.sizeOf5
 v5:=Tryz.zeroValue5
 t9:=Tryz.underlying9
 a9:=Tryz.isAgg9
 z9:=Tryz.sizeOf9
 v9:=Tryz.zeroValue9
 t20:=Tryz.underlying20
 a20:=Tryz.isAgg20
 z20:=Tryz.sizeOf20
 v20:=Tryz.zeroValue20
 t37:=Tryz.underlying177
 a37:=Tryz.isAgg177
 z37:=Tryz.sizeOf177
 v37:=Tryz.zeroValue177
 t46:=Tryz.underlying122
 a46:=Tryz.isAgg122
 z46:=Tryz.sizeOf122
 v46:=Tryz.zeroValue122
 t51:=Tryz.underlying211
 a51:=Tryz.isAgg211
 z51:=Tryz.sizeOf211
 v51:=Tryz.zeroValue211
 t53:=Tryz.underlying181
 a53:=Tryz.isAgg181
 z53:=Tryz.sizeOf181
 v53:=Tryz.zeroValue181
 t171:=Tryz.underlying247
 a171:=Tryz.isAgg247
 z171:=Tryz.sizeOf247
 v171:=Tryz.zeroValue247
 t173:=Tryz.underlying250
 a173:=Tryz.isAgg250
 z173:=Tryz.sizeOf250
 v173:=Tryz.zeroValue250
 t212:=Tryz.underlying256
 a212:=Tryz.isAgg256
 z212:=Tryz.sizeOf256
 v212:=Tryz.zeroValue256
 t213:=Tryz.underlying257
 a213:=Tryz.isAgg257
 z213:=Tryz.sizeOf257
 t232:=Tryz.underlying269
 a232:=Tryz.isAgg269
 z232:=Tryz.sizeOf269
 v232:=Tryz.zeroValue269
 t233:=Tryz.underlying265
 a233:=Tryz.isAgg265
 z233:=Tryz.sizeOf265
 v233:=Tryz.zeroValue265
 g17:=by kernel_rfl
 g18:=by kernel_rfl
 g19:=by kernel_rfl
 i0:=by kernel_rfl
 i2:=by kernel_rfl
 i3:=by kernel_rfl
 i4:=by kernel_rfl
 i5:=by kernel_rfl
 i9:=by kernel_rfl
 i20:=by kernel_rfl
 i37:=by kernel_rfl
 i46:=by kernel_rfl
 i51:=by kernel_rfl
 i53:=by kernel_rfl
 i171:=by kernel_rfl
 i173:=by kernel_rfl
 i212:=by kernel_rfl
 i232:=by kernel_rfl
 i233:=by kernel_rfl
 m17:=by kernel_rfl
 m18:=by kernel_rfl
 m19:=by kernel_rfl }
open Go.RowKit Go.Sort Go.Lib in
theorem Tryz.strconv_FormatInt_10 (n:Int) (a: -9223372036854775808<=n) (b:n<=9223372036854775807) (w:World) (c:Lib.TabIs Tryz.prog w "internal/strconv.uint64pow10" .u64 Lib.pow10Tab):
  Calls Tryz.prog 175 #[.int .i64 n,.int .i64 10] w fun e w'=>e= .returned (.string ⟨(Lib.itoa n).toArray⟩)∧∃k os,w'=grow (w.drewN k) os:=Any.strconv_FormatInt_10 Tryz.laysM173 n a b w c
def Tryz.lays264_ren:Go.Shelf.Ren:=⟨fun|264=>216|n=>n,fun|53=>181|46=>122|n=>n,fun|n=>n⟩
theorem Tryz.lays264:Go.Proofs.Lays.n264 Tryz.prog Tryz.lays264_ren:={
 mixed:=by kernel_rfl
 f264:=Tryz.func216.trans (congrArg some (by kernel_rfl))
 t46:=Tryz.underlying122
 a46:=Tryz.isAgg122
 z46:=Tryz.sizeOf122
 v46:=Tryz.zeroValue122
 t53:=Tryz.underlying181
 a53:=Tryz.isAgg181
 z53:=Tryz.sizeOf181
 v53:=Tryz.zeroValue181 }
open Go.RowKit Go.Lib in
theorem Tryz.bits_Mul64 (x y:Nat) (a:x<18446744073709551616) (b:y<18446744073709551616) (w:World):
  Calls Tryz.prog 216 #[.int .u64 x,.int .u64 y] w fun e w'=>e= .returned (.tuple #[.int .u64 ((x*y/18446744073709551616:Nat):Int),.int .u64 ((x*y%18446744073709551616:Nat):Int)])∧w'=w:=Any.bits_Mul64 Tryz.lays264 x y a b w
def Tryz.lays212_ren:Go.Shelf.Ren:=⟨fun|212=>248|263=>249|264=>216|n=>n,fun|46=>122|51=>211|146=>272|53=>181|148=>228|n=>n,fun|n=>n⟩
theorem Tryz.lays212:Go.Proofs.Lays.n212 Tryz.prog Tryz.lays212_ren:={
 mixed:=by kernel_rfl
 f212:=Tryz.func248.trans (congrArg some (by kernel_rfl))
 f263:=Tryz.func249.trans (congrArg some (by kernel_rfl))
 f264:=Tryz.func216.trans (congrArg some (by kernel_rfl))
 t46:=Tryz.underlying122
 a46:=Tryz.isAgg122
 z46:=Tryz.sizeOf122
 v46:=Tryz.zeroValue122
 t51:=Tryz.underlying211
 a51:=Tryz.isAgg211
 z51:=Tryz.sizeOf211
 v51:=Tryz.zeroValue211
 t53:=Tryz.underlying181
 a53:=Tryz.isAgg181
 z53:=Tryz.sizeOf181
 v53:=Tryz.zeroValue181
 t146:=Tryz.underlying272
 a146:=Tryz.isAgg272
 z146:=Tryz.sizeOf272
 v146:=Tryz.zeroValue272
 t148:=Tryz.underlying228
 a148:=Tryz.isAgg228
 z148:=Tryz.sizeOf228
 v148:=Tryz.zeroValue228 }
open Go.RowKit Go.Lib in
theorem Tryz.bits_Mul (x y:Nat) (a:x<18446744073709551616) (b:y<18446744073709551616) (w:World):
  Calls Tryz.prog 248 #[.int .u64 x,.int .u64 y] w fun e w'=>e= .returned (.tuple #[.int .u64 ((x*y/18446744073709551616:Nat):Int),.int .u64 ((x*y%18446744073709551616:Nat):Int)])∧w'=w:=Any.bits_Mul Tryz.lays212 x y a b w
def Tryz.lays7n29_ren:Go.Shelf.Ren:=⟨fun|29=>228|n=>n,fun|22=>181|3=>3|4=>4|25=>122|54=>265|0=>0|5=>5|n=>n,fun|1=>1|n=>n⟩
theorem Tryz.lays7n29:Go.Proofs.Lays7.n29 Tryz.prog Tryz.lays7n29_ren:={
 mixed:=by kernel_rfl
 f29:=Tryz.func228.trans (congrArg some (by kernel_rfl))
 t0:=Tryz.underlying0
 a0:=Tryz.isAgg0
 z0:=Tryz.sizeOf0
 v0:=Tryz.zeroValue0
 i0:=by kernel_rfl
 t3:=Tryz.underlying3
 a3:=Tryz.isAgg3
 z3:=Tryz.sizeOf3
 v3:=Tryz.zeroValue3
 i3:=by kernel_rfl
 t4:=Tryz.underlying4
 a4:=Tryz.isAgg4
 z4:=Tryz.sizeOf4
 v4:=Tryz.zeroValue4
 i4:=by kernel_rfl
 t5:=Tryz.underlying5
 a5:=Tryz.isAgg5
 z5:=Tryz.sizeOf5
 v5:=Tryz.zeroValue5
 i5:=by kernel_rfl
 t22:=Tryz.underlying181
 a22:=Tryz.isAgg181
 z22:=Tryz.sizeOf181
 v22:=Tryz.zeroValue181
 i22:=by kernel_rfl
 t25:=Tryz.underlying122
 a25:=Tryz.isAgg122
 z25:=Tryz.sizeOf122
 v25:=Tryz.zeroValue122
 i25:=by kernel_rfl
 t54:=Tryz.underlying265
 a54:=Tryz.isAgg265
 z54:=Tryz.sizeOf265
 g1:=by kernel_rfl }
end Go.Proofs
