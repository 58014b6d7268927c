/- Part 6. No condition. -/
import Derived.Test.YtcikkglcoeedlaaGreatDm1
import Derived.Shelf.Small.Bits
import Derived.Test.YtcikkglcoeedlaaGreatProg
set_option linter.all false
set_option maxRecDepth 100000
namespace Go.Proofs
open _root_.Go.Proofs.Tryz
open Go.Shelf
def Tryz.lays133_ren:Go.Shelf.Ren:=⟨fun | 133=>326 | 128=>330 | n=>n,fun | 51=>335 | 3=>3 | 4=>4 | 46=>243 | 5=>5 | 9=>9 | n=>n,fun | n=>n⟩
theorem Tryz.lays133 : Go.Proofs.Lays.n133 prog Tryz.lays133_ren := {
 mixed:=by kernel_rfl
 f128:=func330.trans (congrArg some ZbG)
 f133:=func326.trans (congrArg some ZbG)
 t3:=underlying3
 a3:=Tryz.isAgg3
 z3:=Tryz.sizeOf3
 v3:=Tryz.zeroValue3
 t4:=underlying4
 a4:=Tryz.isAgg4
 z4:=Tryz.sizeOf4
 v4:=Tryz.zeroValue4
 t5:=underlying5
 a5:=Tryz.isAgg5
 z5:=Tryz.sizeOf5
 v5:=Tryz.zeroValue5
 t9:=underlying9
 a9:=Tryz.isAgg9
 z9:=Tryz.sizeOf9
 v9:=Tryz.zeroValue9
 t46:=underlying243
 a46:=Tryz.isAgg243
 z46:=Tryz.sizeOf243
 v46:=Tryz.zeroValue243
 t51:=underlying335
 a51:=Tryz.isAgg335
 z51:=Tryz.sizeOf335
 v51:=Tryz.zeroValue335 }
theorem Tryz.bits_LeadingZeros32(x:Int)(w:World)(c:0<=x)(q:x<=4294967295) :
  Calls prog 326 #[.int .u32 x] w λe N=>e=.returned (.int .i64 (32-(Lib.bitLen x.toNat:Int)))/\N=w:=Any.bits_LeadingZeros32 Tryz.lays133 x w c q
end Go.Proofs
