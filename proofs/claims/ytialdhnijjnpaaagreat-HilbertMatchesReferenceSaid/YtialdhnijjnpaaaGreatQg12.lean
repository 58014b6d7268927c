/- Part 12 of the proof of hilbertMatchesReference_holds. No condition. -/
import Derived.Shelf.SlSortCmp.WholeK
import Derived.Test.YtialdhnijjnpaaaGreatProg
set_option linter.unusedSimpArgs false
set_option linter.unusedVariables false
set_option maxRecDepth 100000
namespace Go.Proofs
open Go.Shelf
def Tryz.sortMono_ren:Go.Shelf.Ren:=⟨fun | 6=>124 | 15=>149 | 14=>148 | 28=>171 | 29=>172 | 20=>163 | 21=>164 | 22=>165 | 23=>166 | 24=>167 | 25=>168 | 26=>169 | 27=>170 | 46=>185 | 47=>186 | 48=>187 | 49=>188 | 50=>189 | 57=>195 | n=>n,fun | 22=>28 | 24=>55 | 25=>75 | 3=>3 | 39=>142 | 0=>0 | 53=>136 | 55=>122 | 4=>4 | 46=>154 | 45=>153 | 50=>158 | 5=>5 | 9=>9 | 66=>169 | 70=>173 | 76=>178 | 77=>179 | n=>n,fun | n=>n⟩
theorem Tryz.sortMono : Go.Proofs.SlLaysF0.n6 Tryz.prog Tryz.sortMono_ren := {
 mixed:=by kernel_rfl
 f6:=⟨Tryz.f124.name,by decide,Tryz.func124.trans (congrArg some (by kernel_rfl))⟩
 f14:=⟨Tryz.f148.name,by decide,Tryz.func148.trans (congrArg some (by kernel_rfl))⟩
 f15:=Tryz.func149.trans (congrArg some (by kernel_rfl))
 f20:=⟨Tryz.f163.name,by decide,Tryz.func163.trans (congrArg some (by kernel_rfl))⟩
 f21:=⟨Tryz.f164.name,by decide,Tryz.func164.trans (congrArg some (by kernel_rfl))⟩
 f22:=⟨Tryz.f165.name,by decide,Tryz.func165.trans (congrArg some (by kernel_rfl))⟩
 f23:=⟨Tryz.f166.name,by decide,Tryz.func166.trans (congrArg some (by kernel_rfl))⟩
 f24:=⟨Tryz.f167.name,by decide,Tryz.func167.trans (congrArg some (by kernel_rfl))⟩
 f25:=⟨Tryz.f168.name,by decide,Tryz.func168.trans (congrArg some (by kernel_rfl))⟩
 f26:=⟨Tryz.f169.name,by decide,Tryz.func169.trans (congrArg some (by kernel_rfl))⟩
 f27:=⟨Tryz.f170.name,by decide,Tryz.func170.trans (congrArg some (by kernel_rfl))⟩
 f28:=Tryz.func171.trans (congrArg some (by kernel_rfl))
 f29:=Tryz.func172.trans (congrArg some (by kernel_rfl))
 f46:=⟨Tryz.f185.name,by decide,Tryz.func185.trans (congrArg some (by kernel_rfl))⟩
 f47:=Tryz.func186.trans (congrArg some (by kernel_rfl))
 f48:=Tryz.func187.trans (congrArg some (by kernel_rfl))
 f49:=⟨Tryz.f188.name,by decide,Tryz.func188.trans (congrArg some (by kernel_rfl))⟩
 f50:=⟨Tryz.f189.name,by decide,Tryz.func189.trans (congrArg some (by kernel_rfl))⟩
 f57:=⟨Tryz.f195.name,by decide,Tryz.func195.trans (congrArg some (by kernel_rfl))⟩
 t0:=Tryz.underlying0
 a0:=Tryz.isAgg0
 z0:=Tryz.sizeOf0
 v0:=Tryz.zeroValue0
 t3:=Tryz.underlying3
 a3:=Tryz.isAgg3
 z3:=Tryz.sizeOf3
 v3:=Tryz.zeroValue3
 t4:=Tryz.underlying4
 a4:=Tryz.isAgg4
 z4:=Tryz.sizeOf4
 v4:=Tryz.zeroValue4
 t5:=Tryz.underlying5
 a5:=Tryz.isAgg5
 z5:=Tryz.sizeOf5
 v5:=Tryz.zeroValue5
 t9:=Tryz.underlying9
 a9:=Tryz.isAgg9
 z9:=Tryz.sizeOf9
 v9:=Tryz.zeroValue9
 t22:=Tryz.underlying28
 a22:=Tryz.isAgg28
 z22:=Tryz.sizeOf28
 v22:=Tryz.zeroValue28
 t25:=Tryz.underlying75
 a25:=Tryz.isAgg75
 z25:=Tryz.sizeOf75
 v25:=Tryz.zeroValue75
 t39:=Tryz.underlying142
 a39:=Tryz.isAgg142
 z39:=Tryz.sizeOf142
 v39:=Tryz.zeroValue142
 t45:=Tryz.underlying153
 a45:=Tryz.isAgg153
 z45:=Tryz.sizeOf153
 v45:=Tryz.zeroValue153
 t46:=Tryz.underlying154
 a46:=Tryz.isAgg154
 z46:=Tryz.sizeOf154
 v46:=Tryz.zeroValue154
 t50:=Tryz.underlying158
 a50:=Tryz.isAgg158
 z50:=Tryz.sizeOf158
 v50:=Tryz.zeroValue158
 t53:=Tryz.underlying136
 a53:=Tryz.isAgg136
 z53:=Tryz.sizeOf136
 v53:=Tryz.zeroValue136
 t55:=Tryz.underlying122
 a55:=Tryz.isAgg122
 z55:=Tryz.sizeOf122
 v55:=Tryz.zeroValue122
 t66:=Tryz.underlying169
 a66:=Tryz.isAgg169
 z66:=Tryz.sizeOf169
 v66:=Tryz.zeroValue169
 t70:=Tryz.underlying173
 a70:=Tryz.isAgg173
 z70:=Tryz.sizeOf173
 v70:=Tryz.zeroValue173
 t76:=Tryz.underlying178
 a76:=Tryz.isAgg178
 z76:=Tryz.sizeOf178
 v76:=Tryz.zeroValue178
 t77:=Tryz.underlying179
 a77:=Tryz.isAgg179
 z77:=Tryz.sizeOf179
 v77:=Tryz.zeroValue179 }
end Go.Proofs
