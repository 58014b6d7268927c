/-
  How slices.SortFunc lies in this translation, laid by the kit's shelf in plain words.
-/
import Derived.Shelf.SlSortCmp.WholeK
import Derived.Test.YteefhmdameeoaaaProg
namespace Go.Proofs
open Go.Shelf
def Try.sortMono_ren : Go.Shelf.Ren := ⟨fun | 6 => 36 | 15 => 44 | 14 => 43 | 28 => 60 | 29 => 61 | 20 => 52 | 21 => 53 | 22 => 54 | 23 => 55 | 24 => 56 | 25 => 57 | 26 => 58 | 27 => 59 | 46 => 70 | 47 => 71 | 48 => 72 | 49 => 73 | 50 => 74 | 57 => 83 | n => n, fun | 22 => 30 | 24 => 35 | 25 => 45 | 3 => 3 | 39 => 73 | 0 => 0 | 53 => 103 | 55 => 105 | 4 => 4 | 46 => 96 | 45 => 95 | 50 => 100 | 5 => 5 | 9 => 9 | 66 => 113 | 70 => 117 | 76 => 127 | 77 => 128 | n => n, fun | n => n⟩
theorem Try.sortMono : Go.Proofs.SlLaysF0.n6 Try.prog Try.sortMono_ren := {
  mixed := by kernel_rfl
  f6 := ⟨Try.f36.name, by decide, Try.func36.trans (congrArg some (by kernel_rfl))⟩
  f14 := ⟨Try.f43.name, by decide, Try.func43.trans (congrArg some (by kernel_rfl))⟩
  f15 := Try.func44.trans (congrArg some (by kernel_rfl))
  f20 := ⟨Try.f52.name, by decide, Try.func52.trans (congrArg some (by kernel_rfl))⟩
  f21 := ⟨Try.f53.name, by decide, Try.func53.trans (congrArg some (by kernel_rfl))⟩
  f22 := ⟨Try.f54.name, by decide, Try.func54.trans (congrArg some (by kernel_rfl))⟩
  f23 := ⟨Try.f55.name, by decide, Try.func55.trans (congrArg some (by kernel_rfl))⟩
  f24 := ⟨Try.f56.name, by decide, Try.func56.trans (congrArg some (by kernel_rfl))⟩
  f25 := ⟨Try.f57.name, by decide, Try.func57.trans (congrArg some (by kernel_rfl))⟩
  f26 := ⟨Try.f58.name, by decide, Try.func58.trans (congrArg some (by kernel_rfl))⟩
  f27 := ⟨Try.f59.name, by decide, Try.func59.trans (congrArg some (by kernel_rfl))⟩
  f28 := Try.func60.trans (congrArg some (by kernel_rfl))
  f29 := Try.func61.trans (congrArg some (by kernel_rfl))
  f46 := ⟨Try.f70.name, by decide, Try.func70.trans (congrArg some (by kernel_rfl))⟩
  f47 := Try.func71.trans (congrArg some (by kernel_rfl))
  f48 := Try.func72.trans (congrArg some (by kernel_rfl))
  f49 := ⟨Try.f73.name, by decide, Try.func73.trans (congrArg some (by kernel_rfl))⟩
  f50 := ⟨Try.f74.name, by decide, Try.func74.trans (congrArg some (by kernel_rfl))⟩
  f57 := ⟨Try.f83.name, by decide, Try.func83.trans (congrArg some (by kernel_rfl))⟩
  t0 := Try.underlying0
  a0 := Try.isAgg0
  z0 := Try.sizeOf0
  v0 := Try.zeroValue0
  t3 := Try.underlying3
  a3 := Try.isAgg3
  z3 := Try.sizeOf3
  v3 := Try.zeroValue3
  t4 := Try.underlying4
  a4 := Try.isAgg4
  z4 := Try.sizeOf4
  v4 := Try.zeroValue4
  t5 := Try.underlying5
  a5 := Try.isAgg5
  z5 := Try.sizeOf5
  v5 := Try.zeroValue5
  t9 := Try.underlying9
  a9 := Try.isAgg9
  z9 := Try.sizeOf9
  v9 := Try.zeroValue9
  t22 := Try.underlying30
  a22 := Try.isAgg30
  z22 := Try.sizeOf30
  v22 := Try.zeroValue30
  t25 := Try.underlying45
  a25 := Try.isAgg45
  z25 := Try.sizeOf45
  v25 := Try.zeroValue45
  t39 := Try.underlying73
  a39 := Try.isAgg73
  z39 := Try.sizeOf73
  v39 := Try.zeroValue73
  t45 := Try.underlying95
  a45 := Try.isAgg95
  z45 := Try.sizeOf95
  v45 := Try.zeroValue95
  t46 := Try.underlying96
  a46 := Try.isAgg96
  z46 := Try.sizeOf96
  v46 := Try.zeroValue96
  t50 := Try.underlying100
  a50 := Try.isAgg100
  z50 := Try.sizeOf100
  v50 := Try.zeroValue100
  t53 := Try.underlying103
  a53 := Try.isAgg103
  z53 := Try.sizeOf103
  v53 := Try.zeroValue103
  t55 := Try.underlying105
  a55 := Try.isAgg105
  z55 := Try.sizeOf105
  v55 := Try.zeroValue105
  t66 := Try.underlying113
  a66 := Try.isAgg113
  z66 := Try.sizeOf113
  v66 := Try.zeroValue113
  t70 := Try.underlying117
  a70 := Try.isAgg117
  z70 := Try.sizeOf117
  v70 := Try.zeroValue117
  t76 := Try.underlying127
  a76 := Try.isAgg127
  z76 := Try.sizeOf127
  v76 := Try.zeroValue127
  t77 := Try.underlying128
  a77 := Try.isAgg128
  z77 := Try.sizeOf128
  v77 := Try.zeroValue128 }
end Go.Proofs
