/-
  How slices.SortFunc lies in this translation, laid by the kit's shelf in plain words.
-/
import Derived.Shelf.SlSortCmp.WholeK
import Derived.Test.YteefhmdameeoaaaGreatProg
namespace Go.Proofs
open Go.Shelf
def Tryz.sortMono_ren : Go.Shelf.Ren := ⟨fun | 6 => 43 | 15 => 60 | 14 => 59 | 28 => 83 | 29 => 84 | 20 => 75 | 21 => 76 | 22 => 77 | 23 => 78 | 24 => 79 | 25 => 80 | 26 => 81 | 27 => 82 | 46 => 101 | 47 => 102 | 48 => 103 | 49 => 104 | 50 => 105 | 57 => 118 | n => n, fun | 22 => 32 | 24 => 36 | 25 => 57 | 3 => 3 | 39 => 87 | 0 => 0 | 53 => 105 | 55 => 107 | 4 => 4 | 46 => 98 | 45 => 97 | 50 => 102 | 5 => 5 | 9 => 9 | 66 => 116 | 70 => 120 | 76 => 127 | 77 => 128 | n => n, fun | n => n⟩
theorem Tryz.sortMono : Go.Proofs.SlLaysF0.n6 Tryz.prog Tryz.sortMono_ren := {
  mixed := by kernel_rfl
  f6 := ⟨Tryz.f43.name, by decide, Tryz.func43.trans (congrArg some (by kernel_rfl))⟩
  f14 := ⟨Tryz.f59.name, by decide, Tryz.func59.trans (congrArg some (by kernel_rfl))⟩
  f15 := Tryz.func60.trans (congrArg some (by kernel_rfl))
  f20 := ⟨Tryz.f75.name, by decide, Tryz.func75.trans (congrArg some (by kernel_rfl))⟩
  f21 := ⟨Tryz.f76.name, by decide, Tryz.func76.trans (congrArg some (by kernel_rfl))⟩
  f22 := ⟨Tryz.f77.name, by decide, Tryz.func77.trans (congrArg some (by kernel_rfl))⟩
  f23 := ⟨Tryz.f78.name, by decide, Tryz.func78.trans (congrArg some (by kernel_rfl))⟩
  f24 := ⟨Tryz.f79.name, by decide, Tryz.func79.trans (congrArg some (by kernel_rfl))⟩
  f25 := ⟨Tryz.f80.name, by decide, Tryz.func80.trans (congrArg some (by kernel_rfl))⟩
  f26 := ⟨Tryz.f81.name, by decide, Tryz.func81.trans (congrArg some (by kernel_rfl))⟩
  f27 := ⟨Tryz.f82.name, by decide, Tryz.func82.trans (congrArg some (by kernel_rfl))⟩
  f28 := Tryz.func83.trans (congrArg some (by kernel_rfl))
  f29 := Tryz.func84.trans (congrArg some (by kernel_rfl))
  f46 := ⟨Tryz.f101.name, by decide, Tryz.func101.trans (congrArg some (by kernel_rfl))⟩
  f47 := Tryz.func102.trans (congrArg some (by kernel_rfl))
  f48 := Tryz.func103.trans (congrArg some (by kernel_rfl))
  f49 := ⟨Tryz.f104.name, by decide, Tryz.func104.trans (congrArg some (by kernel_rfl))⟩
  f50 := ⟨Tryz.f105.name, by decide, Tryz.func105.trans (congrArg some (by kernel_rfl))⟩
  f57 := ⟨Tryz.f118.name, by decide, Tryz.func118.trans (congrArg some (by kernel_rfl))⟩
  t0 := Tryz.underlying0
  a0 := Tryz.isAgg0
  z0 := Tryz.sizeOf0
  v0 := Tryz.zeroValue0
  t3 := Tryz.underlying3
  a3 := Tryz.isAgg3
  z3 := Tryz.sizeOf3
  v3 := Tryz.zeroValue3
  t4 := Tryz.underlying4
  a4 := Tryz.isAgg4
  z4 := Tryz.sizeOf4
  v4 := Tryz.zeroValue4
  t5 := Tryz.underlying5
  a5 := Tryz.isAgg5
  z5 := Tryz.sizeOf5
  v5 := Tryz.zeroValue5
  t9 := Tryz.underlying9
  a9 := Tryz.isAgg9
  z9 := Tryz.sizeOf9
  v9 := Tryz.zeroValue9
  t22 := Tryz.underlying32
  a22 := Tryz.isAgg32
  z22 := Tryz.sizeOf32
  v22 := Tryz.zeroValue32
  t25 := Tryz.underlying57
  a25 := Tryz.isAgg57
  z25 := Tryz.sizeOf57
  v25 := Tryz.zeroValue57
  t39 := Tryz.underlying87
  a39 := Tryz.isAgg87
  z39 := Tryz.sizeOf87
  v39 := Tryz.zeroValue87
  t45 := Tryz.underlying97
  a45 := Tryz.isAgg97
  z45 := Tryz.sizeOf97
  v45 := Tryz.zeroValue97
  t46 := Tryz.underlying98
  a46 := Tryz.isAgg98
  z46 := Tryz.sizeOf98
  v46 := Tryz.zeroValue98
  t50 := Tryz.underlying102
  a50 := Tryz.isAgg102
  z50 := Tryz.sizeOf102
  v50 := Tryz.zeroValue102
  t53 := Tryz.underlying105
  a53 := Tryz.isAgg105
  z53 := Tryz.sizeOf105
  v53 := Tryz.zeroValue105
  t55 := Tryz.underlying107
  a55 := Tryz.isAgg107
  z55 := Tryz.sizeOf107
  v55 := Tryz.zeroValue107
  t66 := Tryz.underlying116
  a66 := Tryz.isAgg116
  z66 := Tryz.sizeOf116
  v66 := Tryz.zeroValue116
  t70 := Tryz.underlying120
  a70 := Tryz.isAgg120
  z70 := Tryz.sizeOf120
  v70 := Tryz.zeroValue120
  t76 := Tryz.underlying127
  a76 := Tryz.isAgg127
  z76 := Tryz.sizeOf127
  v76 := Tryz.zeroValue127
  t77 := Tryz.underlying128
  a77 := Tryz.isAgg128
  z77 := Tryz.sizeOf128
  v77 := Tryz.zeroValue128 }
end Go.Proofs
