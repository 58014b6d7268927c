/- Part 13. No condition. -/
import Derived.Test.YtcikkglcoeedlaaGreatBk11
import Derived.Test.YtcikkglcoeedlaaGreatBk12
set_option linter.unusedSimpArgs false
set_option linter.unusedVariables false
set_option maxRecDepth 100000
namespace Go.Proofs.YtcikkglcoeedlaaGreat
section
open Go.RowKit
open Go.Sort
theorem MJ(a b:Nat->Int):lx a b=Ih a b:=by simp[lx,IE,Jh]
end
