/- Part 13. No condition. -/
import Derived.Test.YtcikkglcoeedlaaGreatDf11
import Derived.Test.YtcikkglcoeedlaaGreatDf12
set_option linter.unusedSimpArgs false
set_option linter.unusedVariables false
set_option maxRecDepth 100000
namespace Go.Proofs.YtcikkglcoeedlaaGreat
section
open Go.RowKit
open Go.Sort
theorem MM(a b:Nat->Int):lx a b=Ih a b:=by simp[lx,IF,Jm]
end
