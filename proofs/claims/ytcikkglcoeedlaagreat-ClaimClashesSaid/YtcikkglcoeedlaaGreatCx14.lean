/- Part 14 of the proof of claimClashes_holds. No condition. -/
import Derived.Test.YtcikkglcoeedlaaGreatCx12
import Derived.Test.YtcikkglcoeedlaaGreatCx13
set_option linter.unusedSimpArgs false
set_option linter.unusedVariables false
set_option maxRecDepth 100000
namespace Go.Proofs.YtcikkglcoeedlaaGreat
section
open Go.RowKit
open Go.Sort
theorem OR(a b:Nat->Int):lx a b=IE a b:=by simp[lx,GR,HD]
end
end Go.Proofs.YtcikkglcoeedlaaGreat
