/- Part 6 of the proof of squaresGram_holds. No condition. -/
import Derived.Shelf.Small.Bits
import Derived.Shelf.Strconv.Itoa0
import Derived.Test.YtnbfnoebjjdmnaaGreatProg
set_option linter.unusedSimpArgs false
set_option linter.unusedVariables false
set_option maxRecDepth 100000
namespace Go.Proofs
open Go.Shelf
def Tryz.lays128_ren:Go.Shelf.Ren:=⟨fun | 128=>151 | n=>n,fun | 51=>108 | 3=>3 | 4=>4 | 46=>148 | 5=>5 | 9=>9 | n=>n,fun | n=>n⟩
def Tryz.lays125_ren:Go.Shelf.Ren:=⟨fun | 125=>133 | 128=>151 | 129=>152 | n=>n,fun | 46=>148 | 3=>3 | 51=>108 | 53=>113 | 4=>4 | 5=>5 | 9=>9 | n=>n,fun | n=>n⟩
theorem Tryz.lays125 : Go.Proofs.Lays.n125 Tryz.prog Tryz.lays125_ren := {
 mixed:=by kernel_rfl
 f125:=Tryz.func133.trans (congrArg some (by kernel_rfl))
 f128:=Tryz.func151.trans (congrArg some (by kernel_rfl))
 f129:=Tryz.func152.trans (congrArg some (by kernel_rfl))
 t3:=Tryz.underlying3
 a3:=Tryz.isAgg3
 z3:=Tryz.sizeOf3
 v3:=Tryz.zeroValue3
 t4:=Tryz.underlying4
 a4:=Tryz.isAgg4
 z4:=Tryz.sizeOf4
 v4:=Tryz.zeroValue4
 t5:=Tryz.underlying5
 a5:=Tryz.isAgg5
 z5:=Tryz.sizeOf5
 v5:=Tryz.zeroValue5
 t9:=Tryz.underlying9
 a9:=Tryz.isAgg9
 z9:=Tryz.sizeOf9
 v9:=Tryz.zeroValue9
 t46:=Tryz.underlying148
 a46:=Tryz.isAgg148
 z46:=Tryz.sizeOf148
 v46:=Tryz.zeroValue148
 t51:=Tryz.underlying108
 a51:=Tryz.isAgg108
 z51:=Tryz.sizeOf108
 v51:=Tryz.zeroValue108
 t53:=Tryz.underlying113
 a53:=Tryz.isAgg113
 z53:=Tryz.sizeOf113
 v53:=Tryz.zeroValue113 }
theorem Tryz.bits_Len(x:Int)(w:World)(h0:0<=x)(h1:x<=18446744073709551615) :
  Calls Tryz.prog 133 #[.int .u64 x] w λe w'=>e = .returned (.int .i64 (Lib.bitLen x.toNat))/\w'=w:=Any.bits_Len Tryz.lays125 x w h0 h1
def Tryz.lays133_ren:Go.Shelf.Ren:=⟨fun | 133=>136 | 128=>151 | n=>n,fun | 51=>108 | 3=>3 | 4=>4 | 46=>148 | 5=>5 | 9=>9 | n=>n,fun | n=>n⟩
theorem Tryz.lays133 : Go.Proofs.Lays.n133 Tryz.prog Tryz.lays133_ren := {
 mixed:=by kernel_rfl
 f128:=Tryz.func151.trans (congrArg some (by kernel_rfl))
 f133:=Tryz.func136.trans (congrArg some (by kernel_rfl))
 t3:=Tryz.underlying3
 a3:=Tryz.isAgg3
 z3:=Tryz.sizeOf3
 v3:=Tryz.zeroValue3
 t4:=Tryz.underlying4
 a4:=Tryz.isAgg4
 z4:=Tryz.sizeOf4
 v4:=Tryz.zeroValue4
 t5:=Tryz.underlying5
 a5:=Tryz.isAgg5
 z5:=Tryz.sizeOf5
 v5:=Tryz.zeroValue5
 t9:=Tryz.underlying9
 a9:=Tryz.isAgg9
 z9:=Tryz.sizeOf9
 v9:=Tryz.zeroValue9
 t46:=Tryz.underlying148
 a46:=Tryz.isAgg148
 z46:=Tryz.sizeOf148
 v46:=Tryz.zeroValue148
 t51:=Tryz.underlying108
 a51:=Tryz.isAgg108
 z51:=Tryz.sizeOf108
 v51:=Tryz.zeroValue108 }
theorem Tryz.bits_LeadingZeros32(x:Int)(w:World)(h0:0<=x)(h1:x<=4294967295) :
  Calls Tryz.prog 136 #[.int .u32 x] w λe w'=>e = .returned (.int .i64 (32-(Lib.bitLen x.toNat:Int)))/\w'=w:=Any.bits_LeadingZeros32 Tryz.lays133 x w h0 h1
end Go.Proofs
