/- Part 12 of the proof of polynomialValid_holds. No condition. -/
import Derived.Shelf.SlSortCmp.WholeK
import Derived.Test.YtclmdofdjbdfiaaGreatProg
set_option linter.unusedSimpArgs false
set_option linter.unusedVariables false
set_option maxRecDepth 100000
namespace Go.Proofs
open Go.Shelf
def Tryz.pdqTerm_ren:Go.Shelf.Ren:=⟨fun | 14=>82 | 20=>101 | 21=>102 | 22=>103 | 23=>104 | 24=>105 | 25=>106 | 26=>107 | 27=>108 | 46=>121 | 47=>122 | 48=>123 | 49=>124 | 50=>125 | 15=>83 | 57=>127 | 28=>109 | 29=>110 | n=>n,fun | 24=>33 | 22=>22 | 3=>3 | 25=>81 | 4=>4 | 0=>0 | 46=>106 | 45=>105 | 50=>110 | 66=>117 | 39=>97 | 55=>75 | 70=>121 | 76=>123 | 77=>124 | 53=>84 | 5=>5 | 9=>9 | n=>n,fun | n=>n⟩
theorem Tryz.pdqTerm : Go.Proofs.SlLaysF0.n14 Tryz.prog Tryz.pdqTerm_ren := {
 mixed:=by kernel_rfl
 f14:=⟨Tryz.f82.name,by decide,Tryz.func82.trans (congrArg some (by kernel_rfl))⟩
 f15:=Tryz.func83.trans (congrArg some (by kernel_rfl))
 f20:=⟨Tryz.f101.name,by decide,Tryz.func101.trans (congrArg some (by kernel_rfl))⟩
 f21:=⟨Tryz.f102.name,by decide,Tryz.func102.trans (congrArg some (by kernel_rfl))⟩
 f22:=⟨Tryz.f103.name,by decide,Tryz.func103.trans (congrArg some (by kernel_rfl))⟩
 f23:=⟨Tryz.f104.name,by decide,Tryz.func104.trans (congrArg some (by kernel_rfl))⟩
 f24:=⟨Tryz.f105.name,by decide,Tryz.func105.trans (congrArg some (by kernel_rfl))⟩
 f25:=⟨Tryz.f106.name,by decide,Tryz.func106.trans (congrArg some (by kernel_rfl))⟩
 f26:=⟨Tryz.f107.name,by decide,Tryz.func107.trans (congrArg some (by kernel_rfl))⟩
 f27:=⟨Tryz.f108.name,by decide,Tryz.func108.trans (congrArg some (by kernel_rfl))⟩
 f28:=Tryz.func109.trans (congrArg some (by kernel_rfl))
 f29:=Tryz.func110.trans (congrArg some (by kernel_rfl))
 f46:=⟨Tryz.f121.name,by decide,Tryz.func121.trans (congrArg some (by kernel_rfl))⟩
 f47:=Tryz.func122.trans (congrArg some (by kernel_rfl))
 f48:=Tryz.func123.trans (congrArg some (by kernel_rfl))
 f49:=⟨Tryz.f124.name,by decide,Tryz.func124.trans (congrArg some (by kernel_rfl))⟩
 f50:=⟨Tryz.f125.name,by decide,Tryz.func125.trans (congrArg some (by kernel_rfl))⟩
 f57:=⟨Tryz.f127.name,by decide,Tryz.func127.trans (congrArg some (by kernel_rfl))⟩
 t0:=Tryz.underlying0
 a0:=Tryz.isAgg0
 z0:=Tryz.sizeOf0
 v0:=Tryz.zeroValue0
 t3:=Tryz.underlying3
 a3:=Tryz.isAgg3
 z3:=Tryz.sizeOf3
 v3:=Tryz.zeroValue3
 t4:=Tryz.underlying4
 a4:=Tryz.isAgg4
 z4:=Tryz.sizeOf4
 v4:=Tryz.zeroValue4
 t5:=Tryz.underlying5
 a5:=Tryz.isAgg5
 z5:=Tryz.sizeOf5
 v5:=Tryz.zeroValue5
 t9:=Tryz.underlying9
 a9:=Tryz.isAgg9
 z9:=Tryz.sizeOf9
 v9:=Tryz.zeroValue9
 t22:=Tryz.underlying22
 a22:=Tryz.isAgg22
 z22:=Tryz.sizeOf22
 v22:=Tryz.zeroValue22
 t25:=Tryz.underlying81
 a25:=Tryz.isAgg81
 z25:=Tryz.sizeOf81
 v25:=Tryz.zeroValue81
 t39:=Tryz.underlying97
 a39:=Tryz.isAgg97
 z39:=Tryz.sizeOf97
 v39:=Tryz.zeroValue97
 t45:=Tryz.underlying105
 a45:=Tryz.isAgg105
 z45:=Tryz.sizeOf105
 v45:=Tryz.zeroValue105
 t46:=Tryz.underlying106
 a46:=Tryz.isAgg106
 z46:=Tryz.sizeOf106
 v46:=Tryz.zeroValue106
 t50:=Tryz.underlying110
 a50:=Tryz.isAgg110
 z50:=Tryz.sizeOf110
 v50:=Tryz.zeroValue110
 t53:=Tryz.underlying84
 a53:=Tryz.isAgg84
 z53:=Tryz.sizeOf84
 v53:=Tryz.zeroValue84
 t55:=Tryz.underlying75
 a55:=Tryz.isAgg75
 z55:=Tryz.sizeOf75
 v55:=Tryz.zeroValue75
 t66:=Tryz.underlying117
 a66:=Tryz.isAgg117
 z66:=Tryz.sizeOf117
 v66:=Tryz.zeroValue117
 t70:=Tryz.underlying121
 a70:=Tryz.isAgg121
 z70:=Tryz.sizeOf121
 v70:=Tryz.zeroValue121
 t76:=Tryz.underlying123
 a76:=Tryz.isAgg123
 z76:=Tryz.sizeOf123
 v76:=Tryz.zeroValue123
 t77:=Tryz.underlying124
 a77:=Tryz.isAgg124
 z77:=Tryz.sizeOf124
 v77:=Tryz.zeroValue124 }
end Go.Proofs
