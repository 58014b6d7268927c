/- Part 13. No condition. -/
import Derived.Test.YtcikkglcoeedlaaGreatDm11
import Derived.Test.YtcikkglcoeedlaaGreatDm12
set_option linter.all false
set_option maxRecDepth 100000
namespace Go.Proofs.YtcikkglcoeedlaaGreat
section
open Go.RowKit
open Go.Sort
theorem Np(a b:Nat->Int):lx a b=Iv a b:=by simp[lx,IT,Jw]
end
