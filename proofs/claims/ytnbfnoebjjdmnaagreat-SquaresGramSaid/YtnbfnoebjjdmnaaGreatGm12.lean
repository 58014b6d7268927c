/- Part 12 of the proof of squaresGram_holds. No condition. -/
import Derived.Shelf.SlSortCmp.WholeK
import Derived.Test.YtnbfnoebjjdmnaaGreatProg
set_option linter.unusedSimpArgs false
set_option linter.unusedVariables false
set_option maxRecDepth 100000
namespace Go.Proofs
open Go.Shelf
def Tryz.pdqTerm_ren:Go.Shelf.Ren:=⟨fun | 14=>132 | 20=>143 | 21=>144 | 22=>145 | 23=>146 | 24=>147 | 25=>148 | 26=>149 | 27=>150 | 46=>153 | 47=>154 | 48=>155 | 49=>156 | 50=>157 | 15=>133 | 57=>158 | 28=>151 | 29=>152 | n=>n,fun | 24=>81 | 22=>43 | 3=>3 | 25=>136 | 4=>4 | 0=>0 | 46=>154 | 45=>153 | 50=>158 | 66=>161 | 39=>148 | 55=>113 | 70=>165 | 76=>167 | 77=>168 | 53=>108 | 5=>5 | 9=>9 | n=>n,fun | n=>n⟩
theorem Tryz.pdqTerm : Go.Proofs.SlLaysF0.n14 Tryz.prog Tryz.pdqTerm_ren := {
 mixed:=by kernel_rfl
 f14:=⟨Tryz.f132.name,by decide,Tryz.func132.trans (congrArg some (by kernel_rfl))⟩
 f15:=Tryz.func133.trans (congrArg some (by kernel_rfl))
 f20:=⟨Tryz.f143.name,by decide,Tryz.func143.trans (congrArg some (by kernel_rfl))⟩
 f21:=⟨Tryz.f144.name,by decide,Tryz.func144.trans (congrArg some (by kernel_rfl))⟩
 f22:=⟨Tryz.f145.name,by decide,Tryz.func145.trans (congrArg some (by kernel_rfl))⟩
 f23:=⟨Tryz.f146.name,by decide,Tryz.func146.trans (congrArg some (by kernel_rfl))⟩
 f24:=⟨Tryz.f147.name,by decide,Tryz.func147.trans (congrArg some (by kernel_rfl))⟩
 f25:=⟨Tryz.f148.name,by decide,Tryz.func148.trans (congrArg some (by kernel_rfl))⟩
 f26:=⟨Tryz.f149.name,by decide,Tryz.func149.trans (congrArg some (by kernel_rfl))⟩
 f27:=⟨Tryz.f150.name,by decide,Tryz.func150.trans (congrArg some (by kernel_rfl))⟩
 f28:=Tryz.func151.trans (congrArg some (by kernel_rfl))
 f29:=Tryz.func152.trans (congrArg some (by kernel_rfl))
 f46:=⟨Tryz.f153.name,by decide,Tryz.func153.trans (congrArg some (by kernel_rfl))⟩
 f47:=Tryz.func154.trans (congrArg some (by kernel_rfl))
 f48:=Tryz.func155.trans (congrArg some (by kernel_rfl))
 f49:=⟨Tryz.f156.name,by decide,Tryz.func156.trans (congrArg some (by kernel_rfl))⟩
 f50:=⟨Tryz.f157.name,by decide,Tryz.func157.trans (congrArg some (by kernel_rfl))⟩
 f57:=⟨Tryz.f158.name,by decide,Tryz.func158.trans (congrArg some (by kernel_rfl))⟩
 t0:=Tryz.underlying0
 a0:=Tryz.isAgg0
 z0:=Tryz.sizeOf0
 v0:=Tryz.zeroValue0
 t3:=Tryz.underlying3
 a3:=Tryz.isAgg3
 z3:=Tryz.sizeOf3
 v3:=Tryz.zeroValue3
 t4:=Tryz.underlying4
 a4:=Tryz.isAgg4
 z4:=Tryz.sizeOf4
 v4:=Tryz.zeroValue4
 t5:=Tryz.underlying5
 a5:=Tryz.isAgg5
 z5:=Tryz.sizeOf5
 v5:=Tryz.zeroValue5
 t9:=Tryz.underlying9
 a9:=Tryz.isAgg9
 z9:=Tryz.sizeOf9
 v9:=Tryz.zeroValue9
 t22:=Tryz.underlying43
 a22:=Tryz.isAgg43
 z22:=Tryz.sizeOf43
 v22:=Tryz.zeroValue43
 t25:=Tryz.underlying136
 a25:=Tryz.isAgg136
 z25:=Tryz.sizeOf136
 v25:=Tryz.zeroValue136
 t39:=Tryz.underlying148
 a39:=Tryz.isAgg148
 z39:=Tryz.sizeOf148
 v39:=Tryz.zeroValue148
 t45:=Tryz.underlying153
 a45:=Tryz.isAgg153
 z45:=Tryz.sizeOf153
 v45:=Tryz.zeroValue153
 t46:=Tryz.underlying154
 a46:=Tryz.isAgg154
 z46:=Tryz.sizeOf154
 v46:=Tryz.zeroValue154
 t50:=Tryz.underlying158
 a50:=Tryz.isAgg158
 z50:=Tryz.sizeOf158
 v50:=Tryz.zeroValue158
 t53:=Tryz.underlying108
 a53:=Tryz.isAgg108
 z53:=Tryz.sizeOf108
 v53:=Tryz.zeroValue108
 t55:=Tryz.underlying113
 a55:=Tryz.isAgg113
 z55:=Tryz.sizeOf113
 v55:=Tryz.zeroValue113
 t66:=Tryz.underlying161
 a66:=Tryz.isAgg161
 z66:=Tryz.sizeOf161
 v66:=Tryz.zeroValue161
 t70:=Tryz.underlying165
 a70:=Tryz.isAgg165
 z70:=Tryz.sizeOf165
 v70:=Tryz.zeroValue165
 t76:=Tryz.underlying167
 a76:=Tryz.isAgg167
 z76:=Tryz.sizeOf167
 v76:=Tryz.zeroValue167
 t77:=Tryz.underlying168
 a77:=Tryz.isAgg168
 z77:=Tryz.sizeOf168
 v77:=Tryz.zeroValue168 }
end Go.Proofs
